/- W16e -/
import Derived.Test.YtnfojkibhgjfmaaGreatDoorA8
import Derived.Test.YtnfojkibhgjfmaaGreatDoorA12
set_option linter.all false
set_option maxRecDepth 100000
set_option maxHeartbeats 0
namespace Go.Proofs.YtnfojkibhgjfmaaGreatDoor
noncomputable section
open Go Go.TI Tryz
attribute [-simp] List.map_take List.map_drop List.map_append ij fU fH Bool.not_or Bool.not_and
def OV(b:List fR):Prop:=∀a∈b,a.nH.length<=1000000/\a.vU.length<=1000000
def Vo(b:Prop)(c:T):Prop:=∃d a:Int,c= .tuple [J d,J a]/\(a=0↔b)
def xr(c:Prop)(e b:Int):Vo c (.tuple [J e,J b])=(b=0↔c):=by unfold Vo;apply propext;constructor;rintro⟨f,g,d,a⟩;simp at d;rw[d.2];exact a;exact λa=>⟨e,b,rfl,a⟩
def kW{a:fJ}(b:li a):a.cells.length<=12/\a.fQ.length<=4/\a.je.length<=2/\a.fI.length<=2/\a.jL.length<=60/\a.d8.length<=4:=by unfold li vY at b;simp[aC,aO]at b;omega
def IX:pI prog cx 52 (λo:lZ=>[o.t]) (λo=>OV o.ei/\o.ei.length<=1000000) (λo=>Vo (tc o.gG o.ei=true)):=by
 refine j2 [(95,Bm),(48,tH),(94,oo),(106,xe)] (js 9223372036871623167 [] func52) (λ_=>1000) (λj b f=>by simp at f;exact lZ.inj f) ?_;rintro⟨a,c⟩ ⟨M,hl⟩ r L
 dsimp at M hl
 simp at L;simp[f52,L];refine fG (λF=>?_) (λF=>?_);simp[xr];simp at F;unfold tc;rw[aS G];simp;simp at F;simp[C1];refine fG (λy=>?_) (λy=>?_);simp[xr];simp at y;unfold tc;rw[show li a=false from iD y];simp;have N:li a:=iD y;have⟨Z,ae,al,an,ap,av⟩:=kW N;simp[HO,show a.fQ.length<=1000000 by omega,show a.fI.length<=1000000 by omega,show a.d8.length<=1000000 by omega,show a.cells.length<=1000000 by omega];have T:tc a c=KI (tN a) Xv (lA a) [] (kR a) c:=by unfold tc;rw[N,bh G];simp
 rw[T];refine gW c.length G (λe r f=>∃B i,uM e i/\KI (tN a) Xv (lA a) [] (kR a) c=KI (tN a) Xv (lA a) (c.take e) i (c.drop e)/\iS 2 f/\f.get 0=D (dU 7 0 [lZ.t ⟨a,c⟩])/\f.get 1=D (dU 7 B [i.t])/\TI.Y r 1=D (dY 0)/\TI.Y r 4=D (dY 1)/\TI.Y r 5=D (J e)) ?_ ?_ G ?_
 .rintro e r f x S ⟨B,i,H,g,h,l,C,m⟩;have u:=h.ne (b:=0) G;have O:=h.ne (b:=1) G;have n:=M c[e] (aH x);rw[aL x,KI]at g;have W:c.take (e+1)=c.take e++[c[e]]:=aT x;simp[l,C,m,x,u,O,h.low];generalize c[e]=d at*
  have q:=λ{I:ik} (ht:I.p 94=D oo)=>C4 ht a i d G (H.up G) n.1 n.2;have E:=λ{I:ik} (ht:I.p 106=D xe) (P:List Int) (U:P.length<=1000000)=>Wn ht c e d.eG P G G U;have K:(f.size=0)=False:=qN h.sz;have z:∀j b k,fF ((f.cons j).cons b) (f.size+1) k=(f.cons j).cons k:=λj b k=>zH _ _ _ _ rfl (qN h.low);cases v:tN a i d;rw[nl v]at q;rw[v]at g;simp[m,h.hp,z,q,xr,g];rw[show kP a i d=(lA a i d,true)by unfold kP;rw[ax v]]at q;cases w:zj (c.take e) d.eG d.nH with
  |false=>
   have:Xv (c.take e) d=false:=by unfold Xv;rw[w];rfl
   rw[this]at g;simp[l,m,u,h.hp,z,K,q,E,n.1,xr,g,w]
   |true=>
   cases A:zj (c.take e) d.eG d.vU with
   |false=>
    have:Xv (c.take e) d=false:=by unfold Xv;rw[A];simp
    rw[this]at g;simp[l,m,u,h.hp,z,K,q,E,n.1,n.2,xr,g,w,A]
     |true=>
    have:Xv (c.take e) d:=by unfold Xv;rw[w,A];rfl
    rw[this,v]at g;have Q:=H.step a d;rw[show kP a i d=(lA a i d,true)by unfold kP;rw[ax v]]at Q;simp[l,C,m,u,O,z,K,q,E,n.1,n.2,w,A,S];have R:∀j b k s,(fF ((f.cons j).cons b) 1 k).get s=if s=1 then some k else((f.cons j).cons b).get s:=λj b k s=>nT (by simp[h.hp]) V k s;refine⟨B+1,lA a i d,Q,by rw[W];simpa using g,((h.cons _).cons _).put _ _,?_,?_⟩<;>rw[R];have X:(0=f.size+1)=False:=V;simp[l,u];simp
 rintro r f ⟨B,i,H,g,h,l,C,m⟩;simp[KI]at g;simp[l,m,g,xr,h.hp];exact⟨1,kR a,xS a G,V,⟨V,V,V⟩,V⟩
end
noncomputable section
open Go Go.TI
def FN(c:Nat)(d:iq):Prop:=∀b∈d.fQ,∀a∈b.fZ,0<=a/\a<c
def FN.uj{b:Nat}{c:iq}(f:FN b c){i:Int}{d:fk->fk}(g:∀a∈c.fQ,∀e∈(d a).fZ,0<=e/\e<b):FN b (c.uj i d):=by
 intro a hl;unfold iq.uj at hl;rcases mem_modify hl with j|⟨k,h,rfl⟩
 exact f a j;exact g k h
def BW{f:Nat}{k:iq}(b:FN f k)(q:fJ){g:Int}(ht:0<=g/\g<f)(n o r:Int):FN f (gY q k g n o r).1:=by
 have m:∀(d:Int) (c:fk->fk),(∀a,(c a).fZ=a.fZ\/(c a).fZ=nW a.fZ g\/(c a).fZ=a.fZ.filter λj=> !decide (j=g))->FN f (k.uj d c):=λd c h=>b.uj λa hl l i=>by
  rcases h a with e|e|e<;>rw[e]at i;exact b a hl l i;rcases He i with p|rfl;exact b a hl l p;exact ht;exact b a hl l (List.mem_filter.1 i).1
 exact yz (P:=λj=>FN f j.1) b b (λ_ _ _=>b) (λd c h=>⟨m d c h,λ_ _=>m d c h⟩) (λ_=>b) (λ_ _=>b) (λ_=>b)
def Q9{b:fJ}{e:Nat}(j:b.d8.length<=e):∀(c:List fR) (a:gh),runs b a c->FN e a.gH->FN e (rV b a c).gH:=by
 intro c;induction c with
 |nil=>intro a _ f;exact f
 |cons d c h=>
  intro a hr f;have hr:(tN b a d&&runs b (lA b a d) c):=hr;rw[aC]at hr;have g:=wX a d hr.1;show FN e (rV b (kP b a d).1 c).gH;rw[g];have⟨_,i,_⟩:=qO hr.1;have:=fT.1 i;exact h _ hr.2 (BW f b G _ _ _)
def FN.len{b:Nat}{c:iq}(d:FN b c)(e:c.C9):∀a∈c.fQ,a.fZ.length<=b:=λa hl=>by
 have:=Q7 a.fZ 0 b (e a hl) (d a hl);omega
def y8(a:Nat)(b:fJ):FN a (kR b).gH:=by intro c hl;unfold kR m8 at hl;simp[List.mem_map]at hl;obtain⟨_,_,rfl⟩:=hl;simp
end
noncomputable section
open Go Go.TI Tryz
attribute [-simp] List.map_take List.map_drop List.map_append ij fU fH Bool.not_or Bool.not_and
section
attribute [-simp] size_cons
def Nd{c:fJ}{d:gh}{b:List fR}{a:Nat}(e:a<b.length):rV c d (b.drop a)=rV c (kP c d b[a]).1 (b.drop (a+1)):=by rw[aL e];rfl
def xj:iE:=⟨lZ×Nat,λa=>[a.1.t,J a.2],λa=>li a.1.gG=true/\OV a.1.ei/\a.2<=a.1.ei.length/\a.1.ei.length<=1000,λa=>(rV a.1.gG (kR a.1.gG) (a.1.ei.take a.2)).t,λa c b=>by
 simp at b;rw[lZ.inj b.1,show a.2=c.2 by omega]⟩
structure kj(w:eJ):Prop where
 ok:yN w
 wb:li w.gG
 sm:uM 1000 w.kH
 ev:OV w.ei
 rdt:FN 4 w.kH.gH
def nP:iE:=⟨eJ×Int,λa=>[a.1.t,J a.2],λa=>kj a.1,λa=>(rV a.1.gG a.1.kH (a.1.ei.take a.2.toNat)).t,λa c b=>by
 simp at b;rw[eJ.inj b.1,b.2]⟩
def Ek{c:ik}(ht:c.p 139=D nP)(e:nP.Ok prog cx 139)(a:eJ)(b:Int)(d:kj a):rl prog cx c 139 [a.t,J b]=D (rV a.gG a.kH (a.ei.take b.toNat)).t:=iF ht e (a,b) d
def Ss:xj.Ok prog cx 53:=by
 refine iz [(48,tH),(94,oo)] (js 4215 [] func53) (λ_=>2000) (by simp[xj]) ?_;rintro⟨⟨a,i⟩,j⟩ ⟨r,o,y,hl⟩ g l
 dsimp at r o y hl
 simp[xj]at l|-;have⟨M,N,O,P,Q,R⟩:=kW r;simp[f53,l,HO,show a.fQ.length<=1000000 by omega,show a.fI.length<=1000000 by omega,show a.d8.length<=1000000 by omega,show a.cells.length<=1000000 by omega];refine gW j G (λe g d=>∃k f,uM e f/\rV a f ((i.take j).drop e)=rV a (kR a) (i.take j)/\iS 3 d/\d.get 0=D (dU 7 0 [lZ.t ⟨a,i⟩])/\d.get 1=D (dU 7 0 [.eQ [dT,J 0,dT,dT,dT,dT,dT]])/\d.get 2=D (dU 7 k [f.t])/\TI.Y g 1=D (J j)/\TI.Y g 2=D (dY 0)/\TI.Y g 4=D (dY 1)/\TI.Y g 5=D (dY 2)/\TI.Y g 6=D (J e)) ?_ ?_ G ?_;rintro e g d H F ⟨k,f,m,h,c,s,u,v,w⟩;have I:=c.ne (b:=0) G;have K:=c.ne (b:=1) G;have L:=c.ne (b:=2) G;have x:e<i.length:=G;have q:=o i[e] (aH x);rw[Nd dP,List.getElem_take]at h;have C:=λ{z:ik} (ht:z.p 94=D oo)=>C4 ht a f i[e] G (m.up G) q.1 q.2;simp[*];have B:2<d.size:=iH c.sz;refine⟨k+1,(kP a f i[e]).1,m.step a _,h,c.put _ _,?_,?_,?_⟩<;>rw[nT c.hp B]<;>simp[*];rintro g d ⟨k,f,m,h,c,s,u,v,w⟩;rw[List.drop_eq_nil_of_le dP]at h;have A:1<d.size:=iH c.sz;have E:∀n,(fF d 1 n).get 1=D n:=λn=>by rw[nT c.hp A];simp
 have h:f=_:=h;rw[<-h];simp[*,c.hp];exact⟨1,kR a,xS a G,V,by exact⟨V,V,V⟩,by simp[l]⟩
def BA:nP.Ok prog cx 139:=by
 refine iz [(94,oo)] (js 262263 [] func139) (λ_=>2000) (by simp[nP]) ?_;rintro⟨f,k⟩ j h m;replace j:kj f:=j;simp[nP]at m|-;have⟨F,H,I,K,L,M⟩:=kW j.wb;have hl:=j.ok.len;have v:=j.sm;have u:=j.ev;obtain⟨f,C,o,e⟩:=f;simp[f139,m]
 dsimp at F H I K L M hl v u
 generalize U:min k.toNat e.length=n;refine gW n G (λd h c=>∃l g,uM (1000+d) g/\rV f g ((e.take k.toNat).drop d)=rV f o (e.take k.toNat)/\iS 3 c/\c.get 0=D (dU 15 0 [eJ.t ⟨f,C,o,e⟩])/\c.get 1=D (dU 7 0 [.eQ [dT,J 0,dT,dT,dT,dT,dT]])/\c.get 2=D (dU 7 l [g.t])/\TI.Y h 1=D (J k)/\TI.Y h 2=D (dY 0)/\TI.Y h 4=D (dY 1)/\TI.Y h 5=D (dY 2)/\TI.Y h 6=D (J d)) ?_ ?_ G ?_;rintro d h c T R ⟨l,g,q,i,a,w,x,y,z⟩;have W:=a.ne (b:=0) G;have X:=a.ne (b:=1) G;have Z:=a.ne (b:=2) G;have A:d<e.length:=G;have B:(d:Int)<k:=G;have s:=u e[d] (aH A);rw[Nd dP,List.getElem_take]at i;have P:=λ{E:ik} (ht:E.p 94=D oo)=>C4 ht f g e[d] G (q.up G) s.1 s.2;simp[*];have O:2<c.size:=iH a.sz;refine⟨l+1,(kP f g e[d]).1,(q.step f _).up G,i,a.put _ _,?_,?_,?_⟩<;>rw[nT a.hp O]<;>simp[*];rintro h c ⟨l,g,q,i,a,w,x,y,z⟩;rw[List.drop_eq_nil_of_le dP]at i;have N:1<c.size:=iH a.sz;have Q:∀r,(fF c 1 r).get 1=D r:=λr=>by rw[nT a.hp N];simp
 have i:g=_:=i;rw[<-i];by_cases B:(n:Int)<k;have S:¬n<e.length:=G;simp[*,a.hp];simp[*,a.hp];exact⟨1,o,v,V,by exact⟨V,V,V⟩,by simp[m]⟩
def IF:iE:=⟨eJ×Int×Int,λa=>[a.1.t,J a.2.1,J a.2.2],λa=>a.1.ei.length<=1000000,λa=> J (yf a.2.1 a.1.ei 0 a.2.2),λa c b=>by simp at b;rw[show a=c from aG (eJ.inj b.1) (aG b.2.1 b.2.2)]⟩
def abX:IF.Ok prog cx 79:=by refine iz [] (js 20975823 [] func79) (λq=>q.1.ei.length+5) (by simp[IF]) ?_;rintro⟨h,m,p⟩ hl c j;simp[IF]at hl j|-;simp[f79,j];refine gW h.ei.length G (λe c d=>∃f,iS 1 d/\d.get 0=D (dU 15 0 [h.t])/\TI.Y c 1=D (J m)/\TI.Y c 2=D (J f)/\TI.Y c 3=D (dY 0)/\TI.Y c 7=D (J e)/\yf m (h.ei.drop e) e f=yf m h.ei 0 p) ?_ ?_ G ⟨p,⟨V,V,V⟩,by simp[j]⟩;rintro e c d u v ⟨f,g,n,r,s,o,i,a⟩;have w:=g.ne (b:=0) G;rw[aL u]at a;simp[yf]at a;simp[*];refine fG (λk=>?_) (λk=>?_);rw[ax (iD k)]at a;simp[*];refine fG (λl=>?_) (λl=>?_);rw[ax (iD l)]at a;simp[i,g.hp,<-a];rw[aw (iD l)]at a;simp[*,tv];rw[aw (iD k)]at a;simp[*];rintro c d ⟨f,g,n,r,s,o,i,a⟩;rw[cq]at a;simp[yf]at a;simp[n,o,i,g.hp,<-a]
def aht{d:ik}(ht:d.p 79=D IF)(a:eJ)(c b:Int)(hl:a.ei.length<=1000000):rl prog cx d 79 [a.t,J c,J b]=D (J (yf c a.ei 0 b)):=iF ht abX (a,c,b) hl
def o7:iE:=⟨eJ×fK×Int,λa=>[a.1.t,a.2.1.t,J a.2.2],λa=>a.1.ei.length<=1000000/\a.2.1.order.length<=1000000,λa=> J (jG a.1 a.2.1 a.2.2),λa c b=>by simp at b;rw[show a=c from aG (eJ.inj b.1) (aG (fK.inj b.2.1) b.2.2)]⟩
def UW:o7.Ok prog cx 30:=by
 refine iz [(77,E7)] (js 536875231 [] func30) (λv=>v.1.ei.length+5) (by simp[o7]) ?_;rintro⟨l,i,m⟩ ⟨hl,y⟩ c p
 dsimp at hl y
 simp[o7]at p|-;obtain⟨w,x,b⟩:=p;simp[f30,w,x];refine gW l.ei.length G (λf c j=>iS 2 j/\j.get 0=D (dU 15 0 [l.t])/\j.get 1=D (dU 9 0 [i.t])/\TI.Y c 2=D (J m)/\TI.Y c 3=D (dY 0)/\TI.Y c 4=D (dY 1)/\TI.Y c 7=D (J f)/\uw m i.order (l.ei.drop f) f=jG l i m) ?_ ?_ G ⟨⟨V,V,V⟩,V,V,by simp[b,jG]⟩
 .rintro f c j q o ⟨g,d,h,b,e,k,n,a⟩;rw[aL q]at a;simp only[uw]at a;cases s:decide (l.ei[f].eG=m)<;>cases u:decide ((f:Int)∈i.order)
  all_goals
   have r:=s;have p2:=u;simp only[aO,bK]at r p2;simp only[r,p2]at a;simp at a;simp[d,h,b,e,k,n,q,s,u,Ph,show i.order.length<=1099511627776 by omega]
  simp[d,h,b,e,k,o,g,a];simp[d,h,b,e,k,o,g,a];simp[g.hp,<-a];simp[d,h,b,e,k,o,g,a]
 rintro c j ⟨g,d,h,b,e,k,n,a⟩;rw[cq]at a;simp only[uw]at a;simp[d,e,n,g.hp,<-a]
def C5{d:ik}(ht:d.p 30=D o7)(b:eJ)(a:fK)(c:Int)(hl:b.ei.length<=1000000)(e:a.order.length<=1000000):rl prog cx d 30 [b.t,a.t,J c]=D (J (jG b a c)):=iF ht UW (b,a,c) ⟨hl,e⟩
def Vv(e:Int)(d:List Int):∀(b:List fR) (a:Nat),uw e d b a<(a+b.length:Nat):=by
 intro b;induction b with
 |nil=>intro a;simp[uw];omega
 |cons f b c=>
  intro a;have g:=c (a+1);simp[uw,aZ];split<;>omega
def qP{w:eJ}{c:fK}{t:Int}(a:¬jG w c t<0):jx (jG w c t) w.ei.length=true:=by have:=Vv t c.order w.ei 0;rw[fT];unfold jG at*;omega
def qJ:iE:=⟨eJ×fK×Int×List Int,λa=>[a.1.t,a.2.1.t,J a.2.2.1,sl (a.2.2.2.map (T.int .i64))],λa=>a.1.ei.length<=1000000/\a.2.2.2.length<=1000000,λa=> .ej (ou a.1 a.2.1 a.2.2.1 a.2.2.2),λa c b=>by simp at b;rw[show a=c from aG (eJ.inj b.1) (aG (fK.inj b.2.1) (aG b.2.2.1 (j3 V b.2.2.2)))]⟩
def Of:qJ.Ok prog cx 33:=by
 refine iz [(79,IF)] (js 2361183242534469502783 [] func33) (λN=>N.2.2.2.length+5) (by simp[qJ]) ?_;rintro⟨d,b,c,l⟩ ⟨hl,Q⟩ j I
 dsimp at hl Q
 simp[qJ]at I|-;obtain⟨B,C,e,f⟩:=I;cases w:jx c d.kH.count.length;have z:ou d b c l=decide (l=[]):=by unfold ou;rw[pT w]
 have X:=sw w;have W:decide (l.length=0)=decide (l=[]):=by cases l<;>simp
 cases F:decide (c<0);have S:decide ((d.kH.count.length:Int)<=c)=true:=by simp at F;simp;omega
 simp[f33,B,C,e,f,F,S,z];simp[f33,B,C,e,f,F,z];have⟨first,v,P⟩:=jm w;have y:=fO (fT.1 w).1;have z:ou d b c l=l.all (BJ d b.fixed c first):=by unfold ou;rw[P]
 have⟨Z,ae⟩:=fT.1 w;simp[f33,B,C,e,show decide (c<0)=false by simp;omega,show decide ((d.kH.count.length:Int)<=c)=false by simp;omega,z];refine gW l.length G (λi j s=>iS 2 s/\s.get 0=D (dU 15 0 [d.t])/\s.get 1=D (dU 9 0 [b.t])/\TI.Y j 2=D (J c)/\TI.Y j 3=D (sl (l.map (T.int .i64)))/\TI.Y j 4=D (dY 0)/\TI.Y j 5=D (dY 1)/\TI.Y j 9=D (J i)/\(l.drop i).all (BJ d b.fixed c first)=l.all (BJ d b.fixed c first)) ?_ ?_ G ⟨⟨V,V,V⟩,V,V,by simp[e,f]⟩
 .rintro i j s o K ⟨n,k,r,e,f,m,u,h,a⟩;rw[aL o,cA]at a;simp[k,e,f,m,h,o,y,v];refine fG (λE=>?_) (λE=>?_);have:BJ d b.fixed c first l[i]:=by unfold BJ;rw[E];rfl
  rw[this,bj]at a;simp[k,r,e,f,m,u,h,K,n,a];have R:BJ d b.fixed c first l[i]=yJ b.fixed (yf c d.ei 0 (IntKind.i64.wrap (l[i]-first))):=by unfold BJ;rw[E];rfl
  rw[R]at a;have A:=λ{U:ik} (ht:U.p 79=D IF)=>aht ht d c (IntKind.i64.wrap (l[i]-first)) hl;generalize yf c d.ei 0 (IntKind.i64.wrap (l[i]-first))=g at*
  cases q:decide (g<0)with
  |true=>
   have p3:g<0:=iD q;have:yJ b.fixed g=false:=by unfold yJ wU;rw[aw G];rfl
   rw[this]at a;simp at a;simp[k,e,f,m,h,o,y,v,tv,A,q,n.hp,a]
  |false=>
  have p3:¬g<0:=iD q;cases x:decide ((b.fixed.length:Int)<=g)with
  |true=>
   have p4:(b.fixed.length:Int)<=g:=iD x;have:yJ b.fixed g=false:=by unfold yJ;rw[pT (by unfold jx;simp;omega)];rfl
   rw[this]at a;simp at a;simp[k,r,e,f,m,u,h,o,y,v,tv,A,q,x,n.hp,a]
  |false=>
   have p4:¬(b.fixed.length:Int)<=g:=iD x;have⟨H,L,O⟩:=jm (l:=b.fixed) (i:=g) (by rw[fT];omega);have:yJ b.fixed g=H:=by unfold yJ;rw[O];rfl
   rw[this]at a;have M:=fO (show 0<=g by omega);cases H;simp at a;simp[k,r,e,f,m,u,h,o,y,v,tv,A,q,x,M,L,n.hp,a];simp[bj]at a;simp[k,r,e,f,m,u,h,o,y,v,tv,A,q,x,M,L,K,n,a]
 rintro j s ⟨n,k,r,e,f,m,u,h,a⟩;rw[cq]at a;simp at a;simp[f,h,n.hp];simpa using a
def Jo{e:ik}(ht:e.p 33=D qJ)(b:eJ)(c:fK)(d:Int)(a:List Int)(hl:b.ei.length<=1000000)(f:a.length<=1000000):rl prog cx e 33 [b.t,c.t,J d,sl (a.map (T.int .i64))]=D (.ej (ou b c d a)):=iF ht Of (b,c,d,a) ⟨hl,f⟩
end
def ajt(d:Nat)(e:T):Prop:=∃(a:List eJ) (c:Int),e= .tuple [sl (a.map eJ.t),J c]/\∀b∈a,kj b/\b.ei.length<=d
def WF{d:ik}(ht:d.p 53=D xj)(b:fJ)(a:List fR)(c:Nat)(e:li b)(f:OV a)(g:c<=a.length)(h:a.length<=1000):rl prog cx d 53 [lZ.t ⟨b,a⟩,J c]=D (rV b (kR b) (a.take c)).t:=iF ht Ss (⟨b,a⟩,c) ⟨e,f,g,h⟩
def XG{w:fJ}{b:List fR}(g:tc w b)(d:li w)(i:OV b){e:Nat}(j:e<=16)(a:Nat):kj (yV w b e a):=by have⟨c,h,l⟩:=C0 g;have⟨m,n,o,p,q,r⟩:=kW d;refine⟨TA c h j a,d,?_,λf k=>i f (bQ (bV k)),Q9 G _ _ (DA c a) (y8 4 w)⟩;have:=(xS w G).rV (w:=w) (b.take a);exact this.up dP 
def IS:pI prog cx 18 (λg:lZ×Nat=>[g.1.t,J g.2]) (λg=>OV g.1.ei/\g.1.ei.length<=1000000/\1<=g.2/\g.2<=16) (λg=>ajt g.2):=by
 refine j2 [(52,IX.jV),(53,xj)] (js 138478519 [(10,[(2,6),(6,8),(6,14),(6,17)])] func18) (λ_=>2000) (λg b h=>by simp at h;exact aG (lZ.inj h.1) (iH h.2)) ?_;rintro⟨⟨e,c⟩,a⟩ ⟨w,hl,U,I⟩ k v
 dsimp at w hl U I
 simp at v;obtain⟨_,⟨x,y,rfl,ae⟩,R⟩:=IX.use ⟨e,c⟩ ⟨w,hl⟩;simp[f18,v,R];refine fG (λK=>?_) (λK=>?_);simp;exact⟨[],12,rfl,V⟩;have q:tc e c:=ae.1 (iD K);have L:li e:=by
  unfold tc at q;simp[aC]at q;exact q.1.2
 have bi:c.length<=400:=(C0 q).2.2;simp[v,show¬(a:Int)<1 by omega,show¬(16:Int)<a by omega];generalize B:(c.length+(a-1))/a=n;have a8:n<=c.length+16:=B▸aU (Nat.div_le_self _ _) G;refine gW n G (λl k h=>∃s d,d=l*a/\fa s≠some 0/\Gr h s 15 (((List.range l).map λi=>yV e c a (i*a)).map eJ.t)/\iS 1 h/\h.get 0=D (dU 7 0 [lZ.t ⟨e,c⟩])/\TI.Y k 1=D (J a)/\TI.Y k 2=D (dY 0)/\TI.Y k 8=D s/\TI.Y k 9=D (J (d:Int))) ?_ ?_ G ?_;rintro l k h T _ ⟨s,d,r,C,A,m,u,o,H,O⟩;have bp:=m.ne (b:=0) G;have W:d<c.length:=by
  rw[r];have o:(l+1)*a<=n*a:=bD a T;have H:n*a<=c.length+(a-1):=B▸Nat.div_mul_le_self _ _;rw[cD]at o;omega
 have⟨aA,aX,N,x⟩:=A.mR (cx:=cx) (f:=eJ.t) ⟨m.hp,m.low,aB _⟩ ac1 rfl ac3 rfl V (λ_=>rfl) (yV e c a d) dP;have Q:=λ{av:ik} (ht:av.p 53=D xj)=>WF ht e c d L w G G;have P:binop .add (J (d:Int)) (J (a:Int))=D (J ((d:Int)+a)):=jf G G;have⟨j,al,bn⟩:∃j:Nat,min ((d:Int)+a) (c.length:Int)=j/\j=min (d+a) c.length:=⟨min (d+a) c.length,G,rfl⟩;have an:d<=j:=G;have ap:j<=c.length:=G;have X:(c.drop d).take (j-d)=(c.drop d).take a:=by
  rw[List.take_eq_take_iff];simp;omega
 have F:=N;unfold yV at F;simp[u,o,H,O,Q,F,W,P,al,an,ap,X];have hr:((List.range l).map λi=>yV e c a (i*a))++[yV e c a d]=(List.range (l+1)).map λi=>yV e c a (i*a):=by rw[List.range_succ,List.map_append,r];rfl
 rw[hr]at x;obtain⟨M,aE,aN,E⟩:=x;have z:=m.sz;rw[List.map_map]at M;exact⟨aA,λj=>(aN 0 j).elim C G,M,⟨E.hp,E.low,iH E.sz⟩,(aE 0 G C).trans u,rfl,by rw[r];simp[Int.add_mul]⟩;rintro k h ⟨s,d,r,C,A,m,u,o⟩;have S:¬d<c.length:=by
  rw[r,<-B];have:=Nat.div_add_mod (c.length+(a-1)) a;have a7:=Nat.mod_lt (c.length+(a-1)) (show a>0 by omega);rw[Nat.mul_comm]at this;omega
 simp[u,o,S];refine⟨.tuple [sl (((List.range n).map λi=>yV e c a (i*a)).map eJ.t),J 0],⟨_,0,rfl,λx Z=>?_⟩,m.hp,by rw[A.qY V];rfl⟩;obtain⟨i,_,rfl⟩:=List.mem_map.1 Z;exact⟨XG q L w I _,by simp[yV];omega⟩;exact⟨dT,0,V,V,Gr.nil _ _,by exact⟨V,V,V⟩,by simp[v]⟩
end
noncomputable section
open Go Go.TI Tryz
section
attribute [-simp] List.map_take List.map_drop List.map_append
def II:iE:=⟨Int×Nat,λa=>[J a.1,J a.2],λa=>True,λa=> .ej (jx a.1 a.2),λa c b=>by simp at b;rw[b.1,show a.2=c.2 by omega]⟩
def ab2:II.Ok prog cx 152:=by refine iz [] (js 19 [] func152) (λc=>1) (by simp[II]) ?_;rintro⟨b,e⟩ _ f a;simp[II]at a|-;by_cases d:0<=b<;>simp[*,f152,jx]
def Ww{c:ik}(ht:c.p 152=D II)(a:Int)(b:Nat):rl prog cx c 152 [J a,J b]=D (.ej (jx a b)):=iF ht ab2 (a,b) trivial
def KR(c:eJ)(b:Int):Bool:=match wU c.kH.count b with|some a=>decide (1<=a)|none=>false
def zv:iE:=⟨eJ×Int,λa=>[a.1.t,J a.2],λa=>True,λa=> .ej (KR a.1 a.2),λa c b=>by simp at b;rw[eJ.inj b.1,b.2]⟩
def Sp:zv.Ok prog cx 153:=by refine iz [(152,II)] (js 23 [] func153) (λe=>1) (by simp[zv]) ?_;rintro⟨d,c⟩ _ i b;simp[zv]at b|-;cases a:jx c d.kH.count.length;simp[*,f153,Ww,KR,pT a];have⟨f,g,h⟩:=jm a;simp[*,f153,Ww,KR,fO (fT.1 a).1]
def Ak{c:ik}(ht:c.p 153=D zv)(b:eJ)(a:Int):rl prog cx c 153 [b.t,J a]=D (.ej (KR b a)):=iF ht Sp (b,a) trivial
@[simp]theorem WJ (a:List T):fa (sl a)=none:=by cases a<;>rfl
def sv(a b:aa jI):Bool:=match a,b with|none,_=>true|some _,none=>false|some a,some b=>decide (a.ver=b.ver)
@[simp]def ah2 (a b:jI):sv (some a) (some b)=decide (a.ver=b.ver):=a9
def mK(b c:H)(a:Nat):gJ b c a=sv (b.get a) (c.get a):=by
 unfold gJ sv;rcases b.get a with _|d
 rfl;cases c.get a<;>simp
def IH:iE:=⟨Int×Nat,λa=>[J a.1,J a.2],λa=>True,λa=> .ej (jx a.1 a.2),λa c b=>by simp at b;rw[b.1,show a.2=c.2 by omega]⟩
def ab1:IH.Ok prog cx 83:=by refine iz [] (js 19 [] func83) (λc=>1) (by simp[IH]) ?_;rintro⟨b,e⟩ _ f a;simp[IH]at a|-;by_cases d:0<=b<;>simp[*,f83,jx]
def aa0{c:ik}(ht:c.p 83=D IH)(a:Int)(b:Nat):rl prog cx c 83 [J a,J b]=D (.ej (jx a b)):=iF ht ab1 (a,b) trivial
def Gu:iE:=⟨fR,λa=>[a.t],λa=>True,λa=> .ej (oy a),λa c b=>by simp at b;rw[fR.inj b]⟩
def Yx:Gu.Ok prog cx 42:=by refine iz [] (js 7 [] func42) (λc=>1) (by simp[Gu]) ?_;rintro(a:fR) _ e b;simp[Gu]at b|-;by_cases d:a.fc=3<;>simp[*,f42,oy]
def KO{b:ik}(ht:b.p 42=D Gu)(a:fR):rl prog cx b 42 [a.t]=D (.ej (oy a)):=iF ht Yx a trivial
def aca:Gu.Ok prog cx 222:=by refine iz [] (js 7 [] func222) (λc=>1) (by simp[Gu]) ?_;rintro(a:fR) _ e b;simp[Gu]at b|-;by_cases d:a.fc=3<;>simp[*,f222,oy]
def WH{b:ik}(ht:b.p 222=D Gu)(a:fR):rl prog cx b 222 [a.t]=D (.ej (oy a)):=iF ht aca a trivial
def Cg:iE:=⟨Int,λa=>[J a],λa=>True,λa=> .ej (ue a),λa c b=>by simp at b;rw[b]⟩
def UH:Cg.Ok prog cx 186:=by refine iz [] (js 29 [] func186) (λc=>1) (by simp[Cg]) ?_;rintro(a:Int) _ i b;simp[Cg]at b|-;by_cases d:a=6;simp[*,f186,ue];by_cases e:a=8;simp[*,f186,ue];by_cases f:a=10;simp[*,f186,ue];by_cases g:a=17;simp[*,f186,ue];by_cases h:a=21<;>simp[*,f186,ue]
def Zl{b:ik}(ht:b.p 186=D Cg)(a:Int):rl prog cx b 186 [J a]=D (.ej (ue a)):=iF ht UH a trivial
def DJ:iE:=⟨fR×fR,λa=>[a.1.t,a.2.t],λa=>True,λa=> .ej (mr a.1 a.2),λa c b=>by simp at b;rw[fR.inj b.1,fR.inj b.2]⟩
def Sj:DJ.Ok prog cx 138:=by refine iz [(42,Gu)] (js 31 [] func138) (λa=>1) (by simp[DJ]) ?_;rintro⟨a,b⟩ _ h c;simp[DJ]at c|-;cases d:oy a;simp[*,f138,KO,mr];cases e:oy b;simp[*,f138,KO,mr];cases f:decide (a.obj=b.obj)<;>cases g:decide (a.fc=4)<;>simp[*,f138,KO,mr]
def HQ{c:ik}(ht:c.p 138=D DJ)(a b:fR):rl prog cx c 138 [a.t,b.t]=D (.ej (mr a b)):=iF ht Sj (a,b) trivial
def wj:iE:=⟨iC×Int×Int,λa=>[a.1.t,J a.2.1,J a.2.2],λa=>jx a.2.1 a.1.w.ei.length=true/\jx a.2.2 a.1.w.ei.length=true,λa=> .ej (mr (mP a.1.w.ei a.2.1) (mP a.1.w.ei a.2.2)),λa c b=>by simp at b;rw[iC.inj b.1,b.2.1,b.2.2]⟩
def Vj:wj.Ok prog cx 177:=by refine iz [(222,Gu)] (js 463 [(1,[(8,14),(10,14),(11,14)])] func177) (λa=>1) (by simp[wj]) ?_;rintro⟨e,h,i⟩ b t d;simp[wj]at b d|-;obtain⟨j,k,l⟩:=d;have⟨a,d,f⟩:=jm b.1;have⟨c,m,g⟩:=jm b.2;have n:=fO (fT.1 b.1).1;have o:=fO (fT.1 b.2).1;rw[show mP e.w.ei h=a by simp[mP,f],show mP e.w.ei i=c by simp[mP,g]];cases p:oy a;simp[*,f177,WH,mK,mr];cases q:oy c;simp[*,f177,WH,mK,mr];cases r:decide (a.obj=c.obj)<;>cases s:decide (a.fc=4)<;>simp[*,f177,WH,mK,mr]
def FK{d:ik}(ht:d.p 177=D wj)(a:iC)(b c:Int)(e:jx b a.w.ei.length)(f:jx c a.w.ei.length):rl prog cx d 177 [a.t,J b,J c]=D (.ej (mr (mP a.w.ei b) (mP a.w.ei c))):=iF ht Vj (a,b,c) ⟨e,f⟩
end
def DY{d:iw->Bool}{b c:iw}(a:c∈jJ d b):c=b/\d b=true:=by unfold jJ at a;split at a;simp at a;exact⟨a,by assumption⟩;simp at a
def SA{e:GX}{c:iw}(h:c∈e.oH):
 (∃a b,c=gR a b/\e.vR c=true)\/(∃a f,c=gC f/\f∈e.Eg a)\/(∃a b,c=gL a b/\e.vR c=true)\/(∃a b g i,c=gA a b g i/\e.vR c=true):=by
 unfold GX.oH at h;simp only[List.mem_append]at h;rcases h with((h|h)|h)|h
 rw[cT]at h;obtain⟨a,_,h⟩:=h;rw[cT]at h;obtain⟨b,_,h⟩:=h;obtain⟨rfl,d⟩:=DY h;exact .inl ⟨a,b,rfl,d⟩;rw[cT]at h;obtain⟨a,_,h⟩:=h;rw[List.mem_map]at h;obtain⟨f,j,rfl⟩:=h;exact .inr (.inl ⟨a,f,rfl,j⟩);rw[cT]at h;obtain⟨a,_,h⟩:=h;rw[cT]at h;obtain⟨b,_,h⟩:=h;obtain⟨rfl,d⟩:=DY h;exact .inr (.inr (.inl ⟨a,b,rfl,d⟩));rw[cT]at h;obtain⟨a,_,h⟩:=h;rw[cT]at h;obtain⟨b,_,h⟩:=h;split at h;rw[cT]at h;obtain⟨g,_,h⟩:=h;rw[cT]at h;obtain⟨i,_,h⟩:=h;obtain⟨rfl,d⟩:=DY h;exact .inr (.inr (.inr ⟨a,b,g,i,rfl,d⟩));simp at h
def GX.G7{e:GX}{d:iw}(f:d∈e.oH):e.vR d=true:=by rcases SA f with⟨b,c,rfl,a⟩|⟨b,i,rfl,a⟩|⟨b,c,rfl,a⟩|⟨b,c,g,h,rfl,a⟩;exact a;exact(QC _ _ _ a).1;exact a;exact a
def ahz(a:eJ):aa GX:=if a.ei.length<=16/\a.gG.d8.length<=4 then(ana a.gG a.kH.gH a.ei).map λb=>⟨a.gG,a.ei,b⟩else none
def yN.ana{b:eJ}(a:yN b):ahz b=D b.gx:=by unfold ahz;rw[ax ⟨a.len,a.rU⟩,WQ _ _ a.run];rfl
end
noncomputable section
open Go Go.TI Tryz
attribute [-simp] List.map_take List.map_drop List.map_append ij fU fH Bool.not_or Bool.not_and
section
attribute [-simp] size_cons
def wy{e:fJ}{d:iq}{a:Int}(h:m9 e d)(c:jx a e.fQ.length):∃b,lr a=D a.toNat/\d.fQ[a.toNat]? =D b/\oX d a=b:=by rw[<-(oN h).1]at c;have⟨b,f,g⟩:=jm c;exact⟨b,fO (fT.1 c).1,f,by simp[oX,g]⟩
def FF{d:fJ}{e:iq}{b:Int}(g:m9 d e)(h:jx b d.je.length):∃a c,lr b=D b.toNat/\d.je[b.toNat]? =D a/\lr a.mN=D a.mN.toNat/\e.fQ[a.mN.toNat]? =D c/\vI d e b=c:=by have⟨a,f,k⟩:=jm h;have⟨c,i,j,l⟩:=wy g (vH g f);exact⟨a,c,fO (fT.1 h).1,f,i,j,by simp[*,vI]⟩
def xR{e:fJ}{d:iq}{a:Int}(h:m9 e d)(c:jx a e.d8.length):∃b,lr a=D a.toNat/\d.d8[a.toNat]? =D b/\pW d a=b:=by rw[<-(oN h).2.2]at c;have⟨b,f,g⟩:=jm c;exact⟨b,fO (fT.1 c).1,f,by simp[pW,g]⟩
def kj.at{b:eJ}(j:kj b){i:Int}(c:jx i b.ei.length):∃a:fR,b.ei[i.toNat]? =D a/\lr i=D i.toNat/\b.gx.e i=a/\jx a.eG b.gG.d8.length/\ky b.gG a.fc a.obj=true:=by have⟨a,d,f,g,h⟩:=j.ok.e c;exact⟨a,d,fO (fT.1 c).1,f,g,h⟩
def kj.rd{w:eJ}(c:kj w){b:Int}(g:jx b w.ei.length):(∀d∈(w.gx.s b).fQ,d.fZ.length<=2000)/\(w.gx.s b).C9:=by have e:=c.sm.rV (w:=w.gG) (w.ei.take b.toNat);rw[(c.ok.s g).1];exact⟨λd hl=>by have f:=e.r d hl;have h:=c.ok.len;simp at f;omega,e.a⟩
def OS(a:gh)(b:H):fdW b 0 abl a.t=be a.gH.t b:=by unfold gh.t gh.cs iq.t iq.cs;simp[-iq.fold,-gh.fold]
def wn:iE:=⟨eJ×Int×Int,λa=>[a.1.t,J a.2.1,J a.2.2],λa=>kj a.1/\jx a.2.1 a.1.ei.length/\jx a.2.2 a.1.ei.length=true,λa=> .ej (a.1.gx.p8 a.2.1 a.2.2),λa c b=>by simp at b;rw[eJ.inj b.1,b.2.1,b.2.2]⟩
def Vp:wn.Ok prog cx 90:=by
 refine iz [(139,nP),(77,E7)] (js 77371547675299043809952719 [(1,[(6,12),(8,12),(9,12)])] func90) (λ_=>10) (by simp[wn]) ?_;rintro⟨d,l,r⟩ ⟨g,m,t⟩ Z q
 dsimp at g m t
 simp[wn]at q|-;have⟨S,L,M,N,X,Y⟩:=g.at m;have⟨b,H,I,K,W,k⟩:=g.at t;have⟨y,j⟩:=g.ok.s m;have x:=(g.rd m).1;have O:=λ{R:ik} (ht:R.p 139=D nP)=>Ek ht BA d l g;generalize rV d.gG d.kH (d.ei.take l.toNat)=z at*
 rw[y]at x j;have a:=GX.p8.eq_1 d.gx l r;rw[K,N,y,show d.gx.w=d.gG from rfl]at a;generalize d.gx.p8 l r=T at*
 simp[f90,q,H,I,L,M,mK];refine fG (λn=>?_) (λn=>?_);simp at n;simp[a,n];have P:¬b.eG=S.eG:=iD n;rw[aw P]at a;simp[q,O,OS];have u:∀c:fk,z.gH.fQ[b.obj.toNat]? =D c->c.fZ.length<=1099511627776:=λc hl=>iH (x c (aD hl));cases v:decide (b.fc=6)with
 |true=>
  have e:b.fc=6:=iD v;have⟨c,l1,l2,l3⟩:=wy j (mM k G);have hl:=u c l2;rw[ax (.inl e),l3]at a;simp[l1,l2,Ph,hl,a]
 |false=>
  cases f:decide (b.fc=10)with
  |true=>
   have e:b.fc=10:=iD f;have⟨c,l1,l2,l3⟩:=wy j (mM k G);have hl:=u c l2;rw[ax (.inr e),l3]at a;simp[f,l1,l2,Ph,hl,a]
  |false=>
   have Q:¬(b.fc=6\/b.fc=10):=by simp at v f;omega
   rw[aw Q]at a;cases h:decide (b.fc=8)with
   |true=>
    have e:b.fc=8:=iD h;have⟨c,l1,l2,l3⟩:=wy j (mM k G);rw[ax e,l3]at a;simp[f,h,l1,l2,a]
   |false=>
    rw[aw (iD h)]at a;cases i:decide (b.fc=17)with
    |true=>
     have e:b.fc=17:=iD i;have⟨U,c,A,B,C,E,F⟩:=FF j (qC k G);rw[ax e,F]at a;simp[f,h,i,A,B,C,E,a]
    |false=>
     rw[aw (iD i)]at a;cases o:decide (b.fc=21)with
     |true=>
      rw[ax (iD o)]at a;simp[f,h,i,o,a]
     |false=>
      rw[aw (iD o)]at a;simp[f,h,i,o,a]
structure uq(w:eJ)(c:fK):Prop where
 hw:kj w
 hc:yS 1000000 w c
def pZ{e:Type}{b:List e}{c:Int}(a:jx c b.length):b≠ []:=λd=>by rw[d,fT]at a;simp at a
def uq.l{c:eJ}{a:fK}(b:uq c a)(d:c.ei≠ []):a.gH.fQ.length<=4/\a.gH.done.length<=2/\a.gH.d8.length<=4:=by have e:=oN (b.hc.ft d);have f:=kW b.hw.wb;omega
def uq.sm{d:eJ}{c:fK}(a:uq d c)(b:d.ei≠ []):c.gH.sm:=⟨iH (a.l b),iH (a.l b),iH (a.l b),λe f=>iH (a.hc.rd e f)⟩
def uq.ev{a:eJ}{b:fK}(c:uq a b):a.ei.length<=1000000:=iH c.hw.ok.len
def uq.od{c:eJ}{a:fK}(b:uq c a):a.order.length<=1000000:=iH b.hc.od
def qr{c:List fR}{a:Int}{b:fR}(e:0<=a)(d:c[a.toNat]? =D b):mP c a=b:=by unfold mP wU;rw[ax e,d];rfl
def sq:iE:=⟨eJ×fK×Int,λa=>[a.1.t,a.2.1.t,J a.2.2],λa=>uq a.1 a.2.1,λa=> .ej (jw a.1 a.2.1 a.2.2),λa c b=>by simp at b;rw[show a=c from aG (eJ.inj b.1) (aG (fK.inj b.2.1) b.2.2)]⟩
def LS:sq.Ok prog cx 32:=by
 refine iz [(30,o7),(78,oq),(33,qJ)] (js 16863 [] func32) (λo=>5) (by simp[sq]) ?_;rintro⟨a,b,d⟩ (c:uq a b) A j;simp[sq]at j|-;obtain⟨u,v,w⟩:=j;have hE:=jw.eq_1 a b d;generalize jw a b d=n at*
 have z:=λ{f:ik} (ht:f.p 30=D o7)=>C5 ht a b d c.ev c.od;by_cases h:jG a b d<0;rw[ax h]at hE;simp[*,f32];rw[aw h]at hE;have g:=qP h;have⟨e,i,q,r,s,t⟩:=c.hw.at g;rw[qr (fT.1 g).1 i]at hE;have m:=c.hw.ev e (aD i);have l:a.gG.je.length<=1099511627776:=iH (kW c.hw.wb);have x:=λ{f:ik} (ht:f.p 78=D oq)=>yv ht a.gG b.gH d e.fc e.obj l (c.sm (pZ g));have y:=λ{f:ik} (ht:f.p 33=D qJ)=>Jo ht a b d e.nH c.ev m.1;cases k:jM a.gG b.gH d e.fc e.obj;rw[k]at hE;simp[*,f32];rw[k,bj]at hE;simp[*,f32]
def RU:we.Ok prog cx 179:=by refine iz [] (js 19 [] func179) (λc=>1) (by simp[we]) ?_;rintro⟨b,e⟩ _ f a;simp[we]at a|-;by_cases d:0<=b<;>simp[*,f179,jx]
def C2{c:ik}(ht:c.p 179=D we)(a:Int)(b:Nat):rl prog cx c 179 [J a,J b]=D (.ej (jx a b)):=iF ht RU (a,b) trivial
def Gl:iE:=⟨fJ×iq,λa=>[a.1.t,a.2.t],λa=>m9 a.1 a.2=true/\a.1.je.length<=1000000,λa=> .ej true,λa b c=>rfl⟩
def Yq:Gl.Ok prog cx 178:=by
 refine iz [(179,we)] (js 35315368591455 [] func178) (λm=>1000005) (by simp[Gl]) ?_;rintro⟨e,q⟩ ⟨f,k⟩ a j
 dsimp at f k
 simp[Gl]at j|-;have⟨l1,l2,l3⟩:=oN f;simp[*,f178];refine gW e.je.length G (λh a d=>iS 2 d/\d.get 0=D (dU 6 0 [e.t])/\TI.Y a 2=D (dY 0)/\TI.Y a 33=D (sl (e.je.map j7.t))/\TI.Y a 34=D (J e.je.length)/\TI.Y a 35=D (J h)) ?_ ?_ G ⟨by exact⟨V,V,V⟩,V⟩;rintro h a d l n ⟨c,i,g⟩;have o:=vH f (aF l);have p:=c.ne (b:=0) G;simp[*,c.low,C2];exact c.cons _;rintro a d ⟨c,i,g⟩;simp[g,c.hp]
def zw:iE:=⟨fJ×Int×Int,λa=>[a.1.t,J a.2.1,J a.2.2],λa=>ky a.1 a.2.1 a.2.2=true,λa=> .ej true,λa b c=>rfl⟩
def Sr:zw.Ok prog cx 180:=by
 refine iz [(179,we)] (js 606826398900554784047567 [] func180) (λh=>1) (by simp[zw]) ?_;rintro⟨g,a,f⟩ b j c;replace b:ky g a f=true:=b;simp[zw]at c|-;have hr:=xu b;have d:a=1\/a=2\/a=3\/a=4\/a=5\/a=6\/a=7\/a=8\/a=9\/a=10\/a=11\/a=12\/a=13\/a=14\/a=15\/a=16\/a=17\/a=18\/a=19\/a=20\/a=21\/a=22\/a=23:=G;rcases d with rfl|rfl|rfl|rfl|rfl|rfl|rfl|rfl|rfl|rfl|rfl|rfl|rfl|rfl|rfl|rfl|rfl|rfl|rfl|rfl|rfl|rfl|rfl
 case inr.inr.inr.inr.inr.inl|inr.inr.inr.inr.inr.inr.inl|inr.inr.inr.inr.inr.inr.inr.inl|inr.inr.inr.inr.inr.inr.inr.inr.inl|inr.inr.inr.inr.inr.inr.inr.inr.inr.inl|inr.inr.inr.inr.inr.inr.inr.inr.inr.inr.inl=>
  have hl:=mM b G;obtain⟨k,i,e⟩:=jm hl;simp[ky,e]at b;simp[*,f180,C2,fO (fT.1 hl).1]
 all_goals
  simp[ky]at b;simp[*,f180,C2]
def wc:iE:=⟨List Int×Int,λa=>[sl (a.1.map (T.int .i64)),J a.2],λa=>a.1.length<=1000000,λa=> J (qA a.1 a.2 0),λa c b=>by simp at b;rw[j3 (λ_ _ b=>iD b) b.1,b.2]⟩
def U6:wc.Ok prog cx 70:=by refine yW (tb:=⟨pt [],ht []⟩) jk iX (js 66483 [] func70) (λ_=>1000005) (by simp[wc]) nl9 ?_;rintro⟨c,h⟩ hl b f;replace hl:c.length<=1000000:=hl;simp[wc]at f|-;simp[f70,f];refine gW c.length G (λd b e=>e=hE/\qA (c.drop d) h d=qA c h 0/\TI.Y b 0=D (sl (c.map (T.int .i64)))/\TI.Y b 1=D (J h)/\TI.Y b 7=D (J c.length)/\TI.Y b 8=D (J d)) ?_ ?_ G (by simp[f]);rintro d b e j k ⟨rfl,a,i⟩;rw[aL j]at a;simp[qA]at a;simp[*];refine fG (λg=>?_) (λg=>?_);rw[ax (by simpa[eq_comm]using g)]at a;simp[<-a];rw[aw (by simpa[eq_comm]using g)]at a;simp[*];rintro b e ⟨rfl,a,i⟩;rw[cq]at a;simp[qA]at a;simp[i,<-a]
def KL{c:ik}(ht:c.p 70=D wc)(a:List Int)(b:Int)(hl:a.length<=1000000):rl prog cx c 70 [sl (a.map (T.int .i64)),J b]=D (J (qA a b 0)):=iF ht U6 (a,b) hl
def nO:iE:=⟨List Int×Int,λa=>[sl (a.1.map (T.int .i64)),J a.2],λa=>a.1.length<=1000000,λa=> .ej (decide (a.2∈a.1)),λa c b=>by simp at b;rw[j3 (λ_ _ b=>iD b) b.1,b.2]⟩
def Oi:nO.Ok prog cx 73:=by refine yW (tb:=⟨pt [(70,wc)],ht []⟩) jk iX (js 19 [] func73) (λc=>1) (by simp[nO]) nl9 ?_;rintro⟨b,e⟩ hl d a;replace hl:b.length<=1000000:=hl;simp[nO]at a|-;simp[f73,a,KL,hl,Bw]
def oP{c:ik}(ht:c.p 73=D nO)(a:List Int)(b:Int)(hl:a.length<=1000000):rl prog cx c 73 [sl (a.map (T.int .i64)),J b]=D (.ej (decide (b∈a))):=iF ht Oi (a,b) hl
structure EnG(w:fJ)(s:iq)(t k o:Int):Prop where
 f:m9 w s
 th:jx t w.d8.length
 n:ky w k o
 c:w.je.length<=1000000
 r:∀l∈s.fQ,l.fZ.length<=1000000
structure EnF(w:fJ)(s:iq)(t k o:Int):Prop where
 f:m9 w s
 th:jx t w.d8.length
 n:ky w k o
 e:B0 w s t k o
 c:w.je.length<=1000000
 r:∀l∈s.fQ,l.fZ.length<=1000000
def QA(a b:fJ×iq×Int×Int×Int)(c:([a.1.t,a.2.1.t,J a.2.2.1,J a.2.2.2.1,J a.2.2.2.2]:List T)=[b.1.t,b.2.1.t,J b.2.2.1,J b.2.2.2.1,J b.2.2.2.2]):a=b:=by simp at c;exact aG (fJ.inj c.1) (aG (iq.inj c.2.1) (aG c.2.2.1 (aG c.2.2.2.1 c.2.2.2.2)))
def Ci:iE:=⟨fJ×iq×Int×Int×Int,λa=>[a.1.t,a.2.1.t,J a.2.2.1,J a.2.2.2.1,J a.2.2.2.2],λa=>EnG a.1 a.2.1 a.2.2.1 a.2.2.2.1 a.2.2.2.2/\a.2.2.2.1≠1/\a.2.2.2.1≠17/\(pW a.2.1 a.2.2.1).jq=2,λa=> .ej (B0 a.1 a.2.1 a.2.2.1 a.2.2.2.1 a.2.2.2.2),λa b c=>by rw[QA a b c]⟩
def UQ:Ci.Ok prog cx 181:=by
 refine iz [(73,nO)] (js 5868843906288553182383292937158044313155908148351 [] func181) (λn=>1) (by simp[Ci]) ?_;rintro⟨A,y,m,a,k⟩ ⟨⟨b,ht,c,h,hr⟩,i,j,f⟩ z g
 dsimp at b ht c h hr i j f
 simp[Ci]at g|-;have x:=xu c;obtain⟨l1,l2,l3⟩:=oN b;have hc:a=2\/a=3\/a=4\/a=5\/a=12\/a=13\/(a=6\/a=7\/a=8\/a=9\/a=10\/a=11)\/(a=14\/a=15)\/(a=16\/a=18\/a=19)\/(a=20\/a=21)\/(a=22\/a=23):=G;rcases hc with rfl|rfl|rfl|rfl|rfl|rfl|hc|hc|hc|hc|hc
 case inr.inr.inr.inr.inr.inr.inl=>
  obtain⟨d,a1,a2,a3⟩:=wy b (mM c G);have hl:=hr d (aD a2);rcases hc with rfl|rfl|rfl|rfl|rfl|rfl<;>cases l:decide (d.jY=-1)<;>simp[*,f181,oP,B0]
 case inr.inr.inr.inr.inr.inr.inr.inl=>
  obtain⟨d,a1,a2,a3⟩:=xR b ht;rw[a3]at f;rcases hc with rfl|rfl<;>simp[*,f181,B0]
 case inr.inr.inr.inr.inr.inr.inr.inr.inl=>
  obtain⟨o,d,p,q,r,s,t⟩:=FF b (qC c G);rcases hc with rfl|rfl|rfl<;>simp[*,f181,B0]
 case inr.inr.inr.inr.inr.inr.inr.inr.inr.inl=>
  obtain⟨d,a1,a2,a3⟩:=xR b (AG c G);rcases hc with rfl|rfl<;>cases l:decide (k=m)<;>simp[*,f181,B0]
 case inr.inr.inr.inr.inr.inr.inr.inr.inr.inr=>
  have e:=uQ c G;rw[<-l2]at e;obtain⟨u,v,w⟩:=jm e;rcases hc with rfl|rfl<;>simp[*,f181,fO (fT.1 e).1,B0,HD]
 all_goals
  simp[*,f181,B0]
def pL:iE:=⟨fJ×iq×Int×Int×Int,λa=>[a.1.t,a.2.1.t,J a.2.2.1,J a.2.2.2.1,J a.2.2.2.2],λa=>EnG a.1 a.2.1 a.2.2.1 a.2.2.2.1 a.2.2.2.2,λa=> .ej (B0 a.1 a.2.1 a.2.2.1 a.2.2.2.1 a.2.2.2.2),λa b c=>by rw[QA a b c]⟩
def Og:pL.Ok prog cx 124:=by
 refine iz [(178,Gl),(179,we),(180,zw),(181,Ci)] (js 4605278686335 [] func124) (λq=>1) (by simp[pL]) ?_;rintro⟨b,e,f,a,c⟩ g F n;replace g:EnG b e f a c:=g;have⟨h,ht,l,o,hr⟩:=id g;simp[pL]at n|-;have y:∀{d:ik},d.p 178=D Gl->rl prog cx d 178 [b.t,e.t]=D (.ej true):=λht=>iF ht Yq (b,e) ⟨h,o⟩;have z:∀{d:ik},d.p 180=D zw->rl prog cx d 180 [b.t,J a,J c]=D (.ej true):=λht=>iF ht Sr (b,a,c) l;have⟨k,a1,a2,a3⟩:=xR h ht;simp[*,f124,C2];by_cases i:a=1;subst i;simp[B0,a3];by_cases j:a=17;subst j;have⟨r,B,s,u,v,w,x⟩:=FF h (qC l G);cases C:decide (k.jq=4)<;>cases E:decide (k.cond=c)<;>simp[*,B0];by_cases m:k.jq=2;have A:∀{d:ik},d.p 181=D Ci->rl prog cx d 181 [b.t,e.t,J f,J a,J c]=D (.ej (B0 b e f a c)):=λht=>iF ht UQ (b,e,f,a,c) ⟨g,i,j,a3▸m⟩;simp[*];have:B0 b e f a c=false:=by unfold B0;rw[aw i,aw j,a3,ax m]
 simp[*]
def Jp{a:ik}(ht:a.p 124=D pL){w:fJ}{s:iq}{t k o:Int}(b:EnG w s t k o):rl prog cx a 124 [w.t,s.t,J t,J k,J o]=D (.ej (B0 w s t k o)):=iF ht Og (w,s,t,k,o) b
def S8{b:ik}(ht:b.p 124=D pL){w:fJ}{s:iq}{t k o:Int}(a:EnF w s t k o):rl prog cx b 124 [w.t,s.t,J t,J k,J o]=D (.ej true):=by rw[Jp ht ⟨a.f,a.th,a.n,a.c,a.r⟩,a.e]
structure Ns where
 (v:T) (es:List T)
def vh(e:Nat)(a:Ns)(c:List T)(b:H):Prop:=c=[a.v]/\b.jQ a.v=D a.es/\(∀d∈a.es,d.cells.length=e)/\a.es.length<=1000000/\iS 0 b
def ry(f:Nat)(e:Ns)(g:List T)(b:H)(d:T)(c:H):Prop:=Gr c d f e.es/\Nb b c/\∀a,fa d=D a->b.size<=a
def yr{a bytes:Nat}{l:aj}(x:H4 prog cx l (.clone a bytes))(v:1<=bytes)(w:bytes<=1000):(jS Ns (vh a) (ry a)).Ok prog cx l:=by
 intro i b ⟨⟨p,e⟩,y⟩;have n:∀h:Ns,vh a h i b->∃d c,Cu (.clone a bytes) i b=D (d,c)/\ry a h i b d c:=by
  rintro⟨p,e⟩ ⟨rfl,g,m,hl,o⟩
  dsimp at g m hl
  show∃d c,(Z (b.jQ p) λe=>List.casesOn e (some (dT,b)) λ_ _=>b.jK a bytes [] e)=D (d,c)/\_;rw[g,fj];rcases e with _|⟨H,F⟩
  exact⟨_,_,rfl,Gr.nil _ _,Nb.refl o,V⟩;refine⟨_,_,rR m v (aU (Nat.mul_le_mul hl w) G),Gr.new (ep:=0) (ver:=0) (ex:=false) V,(Nb.refl o).cons _,λr j=>by simp at j;omega⟩
 have⟨d,c,k,C⟩:=n _ y;refine⟨d,c,λh g=>?_,λq A B s z u=>x _ _ _ _ k q A B s z u⟩;have⟨r2,E,f,t⟩:=n h g;rw[k]at f;simp[ay,aI]at f;rw[f.1,f.2];exact t
def CC:(jS Ns (vh 1) (ry 1)).Ok prog cx 68:=yr (tZ (fn:=f68) (t:=39) (tb:=4) (te:=Dp) iX func68 dW dW dW dW dW dW dW) dR (bytes:=8) dR 
def GR:(jS Ns (vh 1) (ry 1)).Ok prog cx 67:=yr (tZ (fn:=f67) (t:=34) (tb:=4) (te:=XJ) iX func67 dW dW dW dW dW dW dW) dR (bytes:=1) dR 
def LX:(jS Ns (vh 3) (ry 3)).Ok prog cx 121:=yr (tZ (fn:=f121) (t:=35) (tb:=4) (te:=Ev) iX func121 dW dW dW dW dW dW dW) dR (bytes:=24) dR 
def LkG(f:H)(d:Nat->Prop)(e:T)(c:fk):Prop:=∃a,e= .eQ [J c.jY,a]/\Gr f a 1 (iy c.fZ)/\∀b,fa a=D b->d b
def LkD(b:List T):Prop:=∀(c d:Nat) (e f g h:T) (a:Nat),b[c]? =D (.eQ [g,e])->b[d]? =D (.eQ [h,f])->fa e=D a->fa f=D a->c=d
def aaG(c:iq)(j:List T)(h:H)(i:T)(b:H):Prop:=∃d e f g,i=Rt c d e f/\Fg h.size b.size b d e f g c/\Nb h b/\jr (LkG b λa=>h.size<=a/\a<b.size/\fa d≠some a/\fa e≠some a/\fa f≠some a) g c.fQ/\LkD g
structure ClO(S:iq)(h h':H)(i:Nat)(es:List T)(ver:Nat):Prop where
 nb:Nb h h'
 z:h.size+3<=h'.size
 b0:h'.get h.size=D (dU 4 0 [S.t])
 b1:h'.get (h.size+1)=D (dU 4 0 [.eQ [dT,J 0,dT,dT]])
 b2:h'.get (h.size+1+1)=D ⟨2,0,ver,true,false,es⟩
 l:es.length=S.fQ.length
 c:∀e∈es,∃x y,e= .eQ [x,y]
 d:LkD es
 bd:∀(j:Nat) (o x:T) (c:Nat),es[j]? =D (.eQ [o,x])->fa x=D c->c<h'.size
 a:jr (LkG h' λk=>h.size+3<=k/\k<h'.size) (es.take i) (S.fQ.take i)
def Vl:(jS iq IK aaG).Ok prog cx 125:=by
 refine jz (tb:=⟨pt [],ht [(68,jS Ns (vh 1) (ry 1)),(67,jS Ns (vh 1) (ry 1)),(121,jS Ns (vh 3) (ry 3))]⟩) jk iX (js 30783 [(5,[(3,6)])] func125) (λ_ _=>1000005) (λl a d cL=>by obtain⟨rfl,_⟩:=cL;simp[f125]) ?_;rintro f _ d ⟨rfl,c7,hl,ds,ht,hr⟩ z bW;simp at bW;have b6:=c7.hr;simp[f125,bW,show f.fQ.length*32<=70368744177664 by omega];refine gW f.fQ.length G (λl z i=>∃v ver,ClO f d i l v ver/\TI.Y z 1=D (dY d.size)/\TI.Y z 2=D (dY (d.size+1))/\TI.Y z 3=D (.arr (d.size+1+1) 0 0 f.fQ.length false)/\TI.Y z 11=D (sl (f.fQ.map fk.t))/\TI.Y z 12=D (J f.fQ.length)/\TI.Y z 13=D (J l)) ?_ ?_ G ?_;rintro l z i bX dm ⟨v,ver,⟨x,c1,aN,aX,a7,bs,bn,bp,aA,an⟩,cv⟩;have aE:iS 0 i:=⟨x.ok.hp,x.ok.low,aB _⟩;have ea:=hr f.fQ[l] (aH bX);have cX:f.fQ.take (l+1)=f.fQ.take l++[f.fQ[l]]:=aT bX;have⟨di,dk,dn⟩:=bn v[l] (aH G);have ee:(d.size+1+1=i.size)=False:=dP;have ec:=aE.low;simp[*];generalize f.fQ[l]=w at*
 have bH:=aE.cons (dU 2 1 [w.t]);refine ma CC V ⟨sl (iy w.fZ),iy w.fZ⟩ ⟨rfl,V,by simp[T.cells],dP,bH⟩ ?_;rintro r N ⟨K,y,av⟩
 dsimp at K
 have dd:=y.ok.sz;simp at dd;have bu:N.get (d.size+1+1)=D ⟨2,0,ver,true,false,v⟩:=(y.get (d.size+1+1) dP).trans (by rw[fg,aw G];exact a7);have ef:gJ (i.cons (dU 2 1 [w.t])) N (d.size+1+1):=il (y.get _ dP);have eh:gJ (i.cons (dU 2 1 [w.t])) N i.size:=il (y.get _ V);simp[*,K.iW,K.cells,fD];have ap:∀c,c<i.size->c≠d.size+1+1->(fF N (d.size+1+1) ⟨2,0,ver+1,true,false,v.set l (.eQ [J w.jY,r])⟩).get c=i.get c:=λc e O=>by
  rw[ez bu,aw O];exact(y.get c dP).trans d2
 have de:=x.ok.sz;refine⟨v.set l (.eQ [J w.jY,r]),ver+1,⟨⟨(⟨y.ok.hp,y.ok.low,aB _⟩:iS 0 N).put _ _|>.hp,(⟨y.ok.hp,y.ok.low,aB _⟩:iS 0 N).put _ _|>.low,dP⟩,λc e=>(ap c G G).trans (x.get c e)⟩,dP,(ap _ G G).trans aN,(ap _ G G).trans aX,by rw[ez bu,ax rfl],iD bs,λC E=>?_,?_,?_,?_⟩;rcases cw E with q|q;exact bn C q;exact⟨_,_,q⟩;intro P k B g o bZ c h A j p;rw[cG]at h A;split at h<;>split at A;omega;split at h;simp[ay,T.eQ.injEq,cr,and_true]at h;have:=av c (h.2▸j);have:=aA k _ _ c A p;simp at*;omega;simp at h;split at A;simp[ay,T.eQ.injEq,cr,and_true]at A;have:=av c (A.2▸p);have:=aA P _ _ c h j;simp at*;omega;simp at A;exact bp P k B g o bZ c h A j p;intro P o B c h j;rw[cG]at h;rw[iB];split at h;split at h;simp[ay,T.eQ.injEq,cr,and_true]at h;have⟨_,_,_,_,p,_⟩:=K.box (b:=c) (h.2▸j);exact H.fN p;simp at h;have:=aA P _ _ c h j;omega;rw[cX,aT dP];refine jr.append ?_ (.cons ?_ .nil);rw[List.take_set_of_le (az _)];exact an.imp λC m ⟨al,R,S,u⟩=>⟨al,R,S.mono λc e=>ap c (u c e).2 (iH (u c e).1),λc e=>⟨(u c e).1,qN (u c e).2⟩⟩;simp[List.getElem_set_self];refine⟨r,rfl,(K.mono λc e=>by rw[ez bu,aw (by have:=av c e;simp at this;omega)]),λc e=>⟨by have:=av c e;simp at this;omega,?_⟩⟩;have⟨_,_,_,_,p,_⟩:=K.box e;have:=H.fN p;simpa using this;rintro z i ⟨v,ver,⟨x,c1,aN,aX,a7,bs,bn,bp,aA,an⟩,cv⟩;have aE:iS 0 i:=⟨x.ok.hp,x.ok.low,aB _⟩;have bS:∀g c,(fF i d.size g).get c=if c=d.size then some g else i.get c:=λg c=>ez aN g c;simp[*];have⟨L,X⟩:∃L,L=fF i d.size (dU 4 1 [.eQ [.arr (d.size+1+1) 0 0 f.fQ.length false,J f.tx,sl (f.done.map T.ej),sl (f.d8.map ew.t)]]):=⟨_,rfl⟩;have eo:L.size=i.size:=by rw[X];simp
 have c9:iS 0 L:=X▸aE.put _ _;have gA:∀c,c≠d.size->L.get c=i.get c:=λc e=>by rw[X,bS,aw e]
 have ca:L.get d.size=D (dU 4 1 [.eQ [.arr (d.size+1+1) 0 0 f.fQ.length false,J f.tx,sl (f.done.map T.ej),sl (f.d8.map ew.t)]]):=by rw[X,bS,ax rfl]
 rw[<-X];refine jl GR V ⟨sl (f.done.map T.ej),f.done.map T.ej⟩ ⟨rfl,V,by intro C E;obtain⟨b,_,rfl⟩:=List.mem_map.1 E;rfl,dP,c9⟩ ?_;rintro I s ⟨U,Q,b7⟩
 dsimp at U
 have er:=Q.ok.sz;have c4:=(Q.get d.size G).trans ca;have bT:∀g c,(fF s d.size g).get c=if c=d.size then some g else s.get c:=λg c=>ez c4 g c;simp[*,U.iW,U.cells,fD];have⟨M,Z⟩:∃M,M=fF s d.size (dU 4 2 [.eQ [.arr (d.size+1+1) 0 0 f.fQ.length false,J f.tx,I,sl (f.d8.map ew.t)]]):=⟨_,rfl⟩;have et:M.size=s.size:=by rw[Z];simp
 have bH:iS 0 M:=Z▸(⟨Q.ok.hp,Q.ok.low,aB _⟩:iS 0 s).put _ _;have bi:∀c,c≠d.size->M.get c=s.get c:=λc e=>by rw[Z,bT,aw e]
 have cb:M.get d.size=D (dU 4 2 [.eQ [.arr (d.size+1+1) 0 0 f.fQ.length false,J f.tx,I,sl (f.d8.map ew.t)]]):=by rw[Z,bT,ax rfl]
 rw[<-Z];refine jl LX V ⟨sl (f.d8.map ew.t),f.d8.map ew.t⟩ ⟨rfl,V,by intro C E;obtain⟨b,_,rfl⟩:=List.mem_map.1 E;rfl,dP,bH⟩ ?_;rintro ae n ⟨gT,F,b8⟩
 dsimp at gT
 have eu:=F.ok.sz;have Sh:iS 0 n:=⟨F.ok.hp,F.ok.low,aB _⟩;have c6:=(F.get d.size G).trans cb;have eb:n.get (d.size+1)=_:=(F.get (d.size+1) G).trans ((bi _ G).trans ((Q.get _ G).trans ((gA _ G).trans aX)));have cp:∀g c,(fF n d.size g).get c=if c=d.size then some g else n.get c:=λg c=>ez c6 g c;have W:∀g B c,(fF (fF n d.size g) (d.size+1) B).get c=if c=d.size+1 then some B else if c=d.size then some g else n.get c:=λg B c=>by
  rw[nT (by simp[Sh.hp]) dP,cp]
 simp[*,gT.iW,gT.cells,fD];rw[bR G,aM]at an;have a8:∀c,c<i.size->c≠d.size->n.get c=i.get c:=λc e O=>(F.get c G).trans ((bi c O).trans ((Q.get c G).trans (gA c O)));have b9:∀c,c<s.size->c≠d.size->n.get c=s.get c:=λc e O=>(F.get c G).trans (bi c O);have de:=x.ok.sz;have bA:∀c,fa I=D c->i.size<=c/\c<s.size:=λc e=>⟨iH (b7 c e),by have⟨_,_,_,_,p,_⟩:=U.box e;exact H.fN p⟩;have bC:∀c,fa ae=D c->s.size<=c/\c<n.size:=λc e=>⟨iH (b8 c e),by have⟨_,_,_,_,p,_⟩:=gT.box e;exact H.fN p⟩;have bN:jr (LkG (mF d (fF (fF n d.size (dU 4 3 [.eQ [.arr (d.size+1+1) 0 0 f.fQ.length false,J f.tx,I,ae]])) (d.size+1) (dU 4 1 [.eQ [.arr (d.size+1+1) 0 0 f.fQ.length false,J f.tx,I,ae]]))) λc=>d.size<=c/\c<n.size/\fa (.arr (d.size+1+1) 0 0 f.fQ.length false)≠some c/\fa I≠some c/\fa ae≠some c) v f.fQ:=an.imp λC w ⟨al,R,S,u⟩=>⟨al,R,S.mono λc e=>by
  have:=u c e;rw[iA,W,aw G,aw G,a8 _ G G],λc e=>by
  have:=u c e;exact⟨G,G,dP,λq=>iH (bA c q),λq=>iH (bC c q)⟩⟩
 refine⟨.arr (d.size+1+1) 0 0 f.fQ.length false,I,ae,v,rfl,⟨?_,U.mono λc e=>?_,gT.mono λc e=>?_,bN.imp λC w ⟨al,R,S,u⟩=>⟨al,R,.inr S,iD u⟩,λc e=>?_⟩,⟨⟨?_,?_,?_⟩,λc e=>?_⟩,iD bN,bp⟩;rw[<-bs];exact Gr.new (ep:=0) (ver:=ver) (ex:=true) (by rw[iA,W,aw G,aw G,a8 _ G G];exact a7);have:=bA c e;rw[iA,W,aw G,aw G,b9 _ G G];have:=bC c e;rw[iA,W,aw G,aw G];simp;rcases e with q|q|q
 simp at q;omega;have:=bA c q;omega;have:=bC c q;omega;exact(((Sh.put _ _).put _ _).out d).hp;exact(((Sh.put _ _).put _ _).out d).low;simp;omega;rw[iA,W,aw G,aw G,a8 _ G G];exact x.get c e;simp;refine⟨ao f.fQ.length (.eQ [J 0,dT]),0,⟨(((Nb.refl b6).cons _).cons _).cons _|>.ok,λc e=>(((((Nb.refl b6).cons _).cons _).cons _).get c e).trans (iI d c)⟩,V,V,V,V,V,λC E=>⟨_,_,(bU E)⟩,?_,?_,.nil⟩;intro P k B g o bZ c h _ j _;have:=bU (aD h);simp[T.eQ.injEq,cr,and_true]at this;rw[this.2]at j;simp at j;intro P o B c h j;have:=bU (aD h);simp[T.eQ.injEq,cr,and_true]at this;rw[this.2]at j;simp at j
def Au:iE:=⟨ew×Int,λa=>[a.1.t,J a.2],λa=>True,λa=> .ej (decide (a.1.jq=3)&&decide (a.1.cond=a.2)),λa c b=>by simp at b;rw[ew.inj b.1,b.2]⟩
def UG:Au.Ok prog cx 184:=by refine iz [] (js 23 [] func184) (λb=>1) (by simp[Au]) ?_;rintro⟨d,c⟩ _ e a;simp[Au]at a|-;simp[f184,a]
def QU{c:ik}(ht:c.p 184=D Au)(a:ew)(b:Int):rl prog cx c 184 [a.t,J b]=D (.ej (decide (a.jq=3)&&decide (a.cond=b))):=iF ht UG (a,b) trivial
def Rm(d:Int):∀(a c:List ew) (b:Nat),jh d (a++c) b=jh d a b++jh d c (b+a.length):=by
 intro a;induction a with
 |nil=>intro c b;rfl
 |cons f a e=>intro c b;simp[cg,jh,e,aZ];rw[show b+(a.length+1)=b+1+a.length by omega];split<;>rfl
def Bj(c:Int)(b:List ew){a:Nat}(d:a<b.length):jh c (b.take (a+1)) 0=jh c (b.take a) 0++(if b[a].jq=3/\b[a].cond=c then [(a:Int)]else []):=by rw[aT d,Rm,List.length_take,cM G];simp[jh]
def py(a:Int)(W:List Int):Int:=if a∈W then a else W.headD (-1)
structure Nl where
 (S:iq) (c0 c2 c3:T) (c wk:Int)
structure adA(h h':H)(c3:T)(l:List ew):Prop where
 g:Gr h' c3 3 (l.map ew.t)
 ok:iS h.size h'
 fr:∀c,c<h.size->fa c3≠some c->h'.get c=h.get c
def aax(a:Nl)(d:List T)(b:H):Prop:=d=[Rt a.S a.c0 a.c2 a.c3,J a.c,J a.wk]/\Gr b a.c3 3 (a.S.d8.map ew.t)/\iS 0 b/\a.S.d8.length<=1000000
def Uq(a:Nl)(g:List T)(d:H)(f:T)(e:H):Prop:=∃b,f= J b/\b=py a.wk (jh a.c a.S.d8 0)/\adA d e a.c3 (if jh a.c a.S.d8 0=[]then a.S.d8 else a.S.d8.modify b.toNat (mn 4))
def RR{wk:Int}{W:List Int}{b:Nat}(d:∀c∈W,0<=c/\c<b):py wk (W++[(b:Int)])=if py wk W<0\/(b:Int)=wk then(b:Int)else py wk W:=by
 unfold py;by_cases a:wk∈W;have:=d wk a;rw[ax (by simp[a]),ax a,aw G];rw[aw a];by_cases e:(b:Int)=wk;subst e;rw[ax V,ax (.inr rfl)];rw[aw (by simp[a];omega)];rcases W with _|⟨c,W⟩
 simp;have:=d c V;simp;intro f;omega
def UU:(jS Nl aax Uq).Ok prog cx 130:=by
 refine jz (tb:=⟨pt [(184,Au)],ht []⟩) jk iX (js 9126837199 [] func130) (λ_ _=>1000005) (λi a d bA=>by obtain⟨rfl,_⟩:=bA;simp[f130]) ?_;rintro⟨⟨L,aX,bT,b⟩,X,Z,F,c,wk⟩ _ d ⟨rfl,m,aN,hl⟩ g an;simp only at m hl;simp[Rt]at an;obtain⟨a8,h,al⟩:=an;have aA:=λh:H=>m.len (cx:=cx) h Rq _ rfl;rw[aK]at aA;have U:∀e,fa F=D e->e<d.size:=λe bu=>by obtain⟨_,_,_,_,bC,_⟩:=m.box bu;exact H.fN bC
 simp[f130,a8,aA];refine gW b.length G (λi g h'=>Nb d h'/\d.size<h'.size/\h'.get d.size=D (dU 4 0 [.eQ [X,J aX,Z,F]])/\TI.Y g 1=D (J c)/\TI.Y g 2=D (J wk)/\TI.Y g 3=D (dY d.size)/\TI.Y g 7=D (J (py wk (jh c (b.take i) 0)))/\TI.Y g 11=D F/\TI.Y g 12=D (J b.length)/\TI.Y g 13=D (J i)) ?_ ?_ G ?_;rintro i g h' O ap ⟨f,bH,E,h⟩;have s:iS 0 h':=⟨f.ok.hp,f.ok.low,aB _⟩;obtain⟨e,I,S,K,a7,y,o,j,P⟩:=m.at (x:=b[i].t) (i:=i) (by simp[O]);rw[aK]at y P;subst y;have n:=(f.get e (H.fN o)).trans o;have bW:(e=h'.size)=False:=qN (H.fN n);have bN:=s.low;have R:=Bj c b O;simp[h,O,n,j,bN,QU];generalize b[i]=l at*
 have bp:∀x∈jh c (b.take i) 0,0<=x/\x<i:=λx j=>by
  obtain⟨r,v,z⟩:=wW j;simp at z;omega
 have M:=RR (wk:=wk) bp;have aE:=f.cons (dU 3 1 [l.t]);have T:(h'.cons (dU 3 1 [l.t])).get d.size=D (dU 4 0 [.eQ [X,J aX,Z,.arr e I 0 b.length false]]):=by rw[fg,aw G];exact E
 refine fG (λq=>?_) (λq=>?_);simp only[aC,cj,aO]at q;rw[ax ⟨q.1.1,q.1.2⟩]at R;rw[ax q.2,<-R]at M;simp[h,ap];exact⟨aE,G,iD T,M.symm⟩;simp[h,ap];refine⟨aE,G,iD T,?_⟩;rw[R];split;rename_i av;simp only[Bool.and_eq_false_iff,ci,bK]at q;rw[M,aw];rcases q with(q|q)|q
 exact absurd av.1 q;exact absurd av.2 q;rintro(k|k);exact q.1 k;exact q.2 k;simp;rintro g h' ⟨f,bH,E,h,al,bn,C,bi⟩;rw[aM]at C;simp[C,bi];have s:iS 0 h':=⟨f.ok.hp,f.ok.low,aB _⟩;refine fG (λq=>?_) (λq=>?_);have q:0<=py wk (jh c b 0):=iD q;have p:py wk (jh c b 0)∈jh c b 0:=by
  generalize jh c b 0=W at*
  unfold py at*
  split
  assumption
  rename_i A;rw[aw A]at q;rcases W with _|⟨x,W⟩
  simp at q;simp
 obtain⟨r,v,z⟩:=wW p;have Q:jh c b 0≠ []:=λk=>by rw[k]at p;simp at p
 obtain⟨l,ht⟩:∃l,b[r]? =D l:=⟨_,aF z⟩;obtain⟨e,I,S,K,a7,y,o,j,P⟩:=m.at (x:=l.t) (i:=r) (by simp[ht]);rw[aK]at y P;subst y;have n:=(f.get e (H.fN o)).trans o;simp at v;simp[bn,C,E,v,n,j,z];refine⟨_,rfl,v.symm,?_⟩;simp only;rw[aw Q,cN,qD ht];have bS:=H.fN o;refine⟨?_,⟨((s.put e _).out d).hp,((s.put e _).out d).low,dP⟩,λB w A=>?_⟩;have ae:=(m.mono (h':=h') λu N=>f.get u (U u N)).setAt rfl n r (mn 4 l).t (h':=mF d (fF h' e ⟨3,I,S+1,K,false,a7.set r (mn 4 l).t⟩)) (ver2:=S+1) (ex2:=K) (by rw[iA,ez n,ax rfl]);rw[<-bg]at ae;exact ae;simp at A;rw[iA,ez n,aw G];exact f.get B w;have q:¬0<=py wk (jh c b 0):=iD q;have Q:jh c b 0=[]:=by
  generalize bs:jh c b 0=W at*
  have p:∀x∈W,0<=x:=λx j=>by rw[<-bs]at j;obtain⟨r,v,z⟩:=wW j;omega
  unfold py at q;split at q;rename_i A;exact absurd (p _ A) q;rcases W with _|⟨x,W⟩;rfl;have:=p x V;simp at q;omega
 simp[C];refine⟨_,rfl,rfl,?_⟩;simp only;rw[ax Q];exact⟨(m.mono (h':=h') λu N=>f.get u (U u N)).out d,⟨(s.out d).hp,(s.out d).low,dP⟩,λB w _=>(iA d h' B).trans (f.get B w)⟩;simp;exact⟨⟨((Nb.refl aN.hr).cons _).ok,λc w=>(((Nb.refl aN.hr).cons _).get c w).trans (iI d c)⟩,h,al,by simp[py,jh]⟩
def GS(b:Int)(a:ew):ew:=if a.jq=3/\a.cond=b then mn 4 a else a
def aay(a:Nl)(d:List T)(b:H):Prop:=d=[Rt a.S a.c0 a.c2 a.c3,J a.c]/\Gr b a.c3 3 (a.S.d8.map ew.t)/\iS 0 b/\a.S.d8.length<=1000000
def Ur(a:Nl)(f:List T)(b:H)(e:T)(d:H):Prop:=e= J (jh a.c a.S.d8 0).length/\adA b d a.c3 (a.S.d8.map (GS a.c))
def LH:(jS Nl aay Ur).Ok prog cx 131:=by
 refine jz (tb:=⟨pt [(184,Au)],ht []⟩) jk iX (js 270071 [] func131) (λ_ _=>1000005) (λi a d bn=>by obtain⟨rfl,_⟩:=bn;simp[f131]) ?_;rintro⟨⟨L,bC,bN,b⟩,ap,av,v,e,bZ⟩ _ d ⟨rfl,z,ae,hl⟩ l S
 dsimp at z hl
 simp[Rt]at S;obtain⟨aN,m⟩:=S;have Z:=λm:H=>z.len (cx:=cx) m Rq _ rfl;rw[aK]at Z;have P:∀f,fa v=D f->f<d.size:=λf A=>by obtain⟨_,_,_,_,bs,_⟩:=z.box A;exact H.fN bs
 simp[f131,aN,Z];refine gW b.length G (λi l h'=>iS d.size h'/\d.size<h'.size/\h'.get d.size=D (dU 4 0 [.eQ [ap,J bC,av,v]])/\(∀c,c<d.size->fa v≠some c->h'.get c=d.get c)/\Gr h' v 3 (((b.take i).map (GS e)++b.drop i).map ew.t)/\TI.Y l 1=D (J e)/\TI.Y l 2=D (dY d.size)/\TI.Y l 5=D (J (jh e (b.take i) 0).length)/\TI.Y l 9=D v/\TI.Y l 10=D (J b.length)/\TI.Y l 11=D (J i)) ?_ ?_ G ?_;rintro i l h' n T ⟨u,N,E,y,r,m⟩;have bA:iS 0 h':=⟨u.hp,u.low,aB _⟩;have W:((b.take i).map (GS e)++b.drop i)[i]? =D b[i]:=by
  rw[cZ dP];simp[cM (show i<=b.length by omega),n]
 obtain⟨f,aA,an,Q,bH,U,I,X,bi⟩:=r.at (x:=b[i].t) (i:=i) (by simp[W]);have a8:(((b.take i).map (GS e)++b.drop i).map ew.t).length=b.length:=dP;rw[a8]at U bi;subst U;have bW:(f=h'.size)=False:=qN (H.fN I);have A:f<d.size:=P f rfl;have bu:=bA.low;have B:=Bj e b n;have bT:(jh e (b.take i) 0).length<=i:=by have:=B4 e (b.take i) 0;simp at this;omega
 have a7:binop .add (J ((jh e (b.take i) 0).length:Int)) (J 1)=D (J (((jh e (b.take i) 0).length:Int)+1)):=jf G G;have M:(b.take (i+1)).map (GS e)++b.drop (i+1)=((b.take i).map (GS e)++b.drop i).set i (GS e b[i]):=by
  rw[List.set_append_right _ _ dP,aT n,List.map_append,aL n];simp[cM (show i<=b.length by omega)];rw[aL n];rfl
 simp[m,n,I,X,bu,QU];have w:GS e b[i]=if b[i].jq=3/\b[i].cond=e then mn 4 b[i]else b[i]:=rfl;generalize b[i]=h at*
 have al:=u.cons (dU 3 1 [h.t]);have q:∀c,c<h'.size->(h'.cons (dU 3 1 [h.t])).get c=h'.get c:=λc g=>by rw[fg,aw G]
 refine fG (λp=>?_) (λp=>?_);simp[aC,aO]at p;rw[ax p]at B w;have K:=(q f G).trans I;have O:=(q d.size N).trans E;have bX:(f=d.size)=False:=dP;simp[m,O,K,X,n,a7,T];have F:∀C c,(fF (h'.cons (dU 3 1 [h.t])) f C).get c=if c=f then some C else(h'.cons (dU 3 1 [h.t])).get c:=λC c=>ez K C c;refine⟨al.put _ _,G,by rw[F,aw G];exact O,λc g s=>by rw[F,aw (λp=>s p.symm),q c G];exact y c g (iD s),?_,by rw[B];simp⟩;have aE:=r.mono (h':=h'.cons (dU 3 1 [h.t])) λc g=>q c (by simp at g;omega);have:=aE.setAt rfl K i (mn 4 h).t (h':=fF (h'.cons (dU 3 1 [h.t])) f ⟨3,aA,an+1,Q,false,bH.set i (mn 4 h).t⟩) (ver2:=an+1) (ex2:=Q) (by rw[F,ax rfl]);rw[<-bg,<-w,<-M]at this;rw[w]at this;exact this;rw[aw (iD p)]at B w;simp[m,T];refine⟨al,G,by simpa using(q d.size N).trans E,λc g s=>by rw[aw G];exact y c g (by simpa using s),?_,by rw[B];simp⟩;have bp:((b.take i).map (GS e)++b.drop i).set i h=(b.take i).map (GS e)++b.drop i:=by
  apply dx;intro j;rw[cG];split;rename_i k;subst k;rw[W];simp;omega;rfl
 rw[w,bp]at M;have:=r.mono (h':=h'.cons (dU 3 1 [h.t])) λc g=>q c (by simp at g;omega);rw[<-M]at this;simpa using this;rintro l h' ⟨u,N,E,y,r,m,bS,R,aX⟩;rw[aM,cq,bJ]at r;rw[aM]at R;simp[R,aX];exact⟨rfl,r.out d,⟨(u.out d).hp,(u.out d).low,dP⟩,λc g s=>(iA d h' c).trans (y c g s)⟩;simp;exact⟨⟨ae.hr.hp,ae.hr.low,az _⟩|>λ(o:iS d.size (TI.hr d))=>o.cons _,λc g _ p=>by omega,(z.mono (h':=TI.hr d) λf _=>iI d f).mono λf A=>by rw[fg,aw (qN (P f A))],m,by simp[jh]⟩
structure InP(h h':H)(v:T)(l:List Int):Prop where
 g:Gr h' v 1 (iy l)
 ok:iS h.size h'
 fr:∀c,c<h.size->fa v≠some c->h'.get c=h.get c
def UZ:pI prog cx 267 (λa:Int=>[J a]) (λ_=>True) (λ_ d=>d= .ej false):=by refine yF (tb:=⟨pt [],ht []⟩) jk iX (js 5 [] func267) (λ_=>10) (λa e c=>iD c) V nl9 ?_;rintro(a:Int) _ f b;simp at b;simp[f267,b]
def IG:iE:=⟨Int×Int,λa=>[J a.1,J a.2],λa=>True,λa=> .ej (decide (a.1<a.2)),λa c b=>by simp at b;rw[b.1,b.2]⟩
def abY:IG.Ok prog cx 229:=by refine yW (tb:=⟨pt [(267,UZ.jV)],ht []⟩) jk iX (js 19 [] func229) (λa=>1) (by simp[IG]) nl9 ?_;rintro⟨a,b⟩ _ f c;simp[IG]at c|-;obtain⟨_,rfl,d⟩:=UZ.use a trivial;obtain⟨_,rfl,e⟩:=UZ.use b trivial;simp[*,f229]
def Wt{c:ik}(ht:c.p 229=D IG)(a b:Int):rl prog cx c 229 [J a,J b]=D (.ej (decide (a<b))):=iF ht abY (a,b) trivial
structure Xi where
 (A:List Int) (t:Int) (v:T)
def aaz(a:Xi)(c:List T)(b:H):Prop:=c=[a.v,J 0,J ((a.A++[a.t]).length:Nat)]/\Gr b a.v 1 (iy (a.A++[a.t]))/\iS 0 b/\No a.A/\a.t∉a.A/\a.A.length<=10
def JT(a:Xi)(d:List T)(b:H)(e:T)(c:H):Prop:=InP b c a.v (nW a.A a.t)
def OH{d:Int}:∀{b a:List Int},(∀c∈b,c<d)->(∀c∈a,d<c)->nW (b++a) d=b++d::a:=by
 intro b;induction b with
 |nil=>
  intro a _ e;rcases a with _|⟨f,a⟩
  rfl;have:=e f V;simp[nW];rw[aw G,aw G]
 |cons c b i=>intro a g e;have:=g c V;simp[cg,nW];rw[ax this,i (λf h=>g f (by simp[h])) e]
def Ru{b:List Int}{c:Int}{a:Nat}(d:a<b.length):((iy (b.take (a+1)++c::b.drop (a+1))).set (a+1) (J b[a])).set a (J c)=iy (b.take a++c::b.drop a):=by have e:(b.take a).length=a:=dP;rw[aT d,aL d];simp only[iy,List.map_append,aR,aQ,cg,cm];have f:(List.map (T.int .i64) (b.take a)).length=a:=iD e;rw[List.set_append_right _ _ G,List.set_append_right _ _ G,f];simp
def Sf:(jS Xi aaz JT).Ok prog cx 223:=by
 refine jz (tb:=⟨pt [(229,IG)],ht []⟩) jk iX (js 1073746119 [] func223) (λ_ _=>100) (λi a e aA=>by obtain⟨rfl,_⟩:=aA;simp[f223]) ?_;rintro⟨b,f,m⟩ _ e ⟨rfl,ae,C,M,ht,hl⟩ h N
 dsimp at ae M ht hl
 simp at N;simp[f223,N];have bH:Gr (TI.hr e) m 1 (iy (b++[f])):=ae.mono λl _=>iI e l;have bp:binop .add (J 0) (J 1)=D (J 1):=jf G G;simp[bp];refine pU (b.length+1) (λk h h'=>1<=k/\InP e (mF e h') m (if k<=b.length then b++[f]else nW b f)/\iS e.size h'/\TI.Y h 0=D m/\TI.Y h 1=D (J 0)/\TI.Y h 2=D (J ((b.length:Int)+1))/\TI.Y h 6=D (J k)) ?_ G (k:=1) G ?_;rintro k h h' b7 ⟨b6,s,E,n⟩;have ca:iS 0 h':=⟨E.hp,E.low,aB _⟩;by_cases b8:k<b.length+1;have O:binop .add (J (k:Int)) (J 1)=D (J ((k:Int)+1)):=jf G G;rw[ax G]at s;have L:Gr h' m 1 (iy (b++[f])):=s.g.mono λl _=>(iA e h' l).symm;have bN:binop .sub (J (k:Int)) (J 1)=D (J ((k-1:Nat):Int)):=by rw[lK G G];congr 2;omega
 simp[n,show(k:Int)<b.length+1 by omega];by_cases av:k<b.length;have⟨p1,H,I⟩:=(show qk h' 1 m _ from .inr L).idx (te:=Dp) rfl rfl (i:=k) (x:= J b[k]) (by simp[List.getElem?_append,av]) rfl;have⟨p2,a7,a8⟩:=(show qk h' 1 m _ from .inr L).idx (te:=Dp) rfl rfl (i:=k-1) (x:= J b[k-1]) (by simp[List.getElem?_append,show k-1<b.length by omega]) rfl;have S:¬b[k]<b[k-1]:=by
  have:=List.pairwise_iff_getElem.1 M (k-1) k G av G;omega
 refine pU 1 (λ_ h j=>h'=j/\TI.Y h 0=D m/\TI.Y h 1=D (J 0)/\TI.Y h 2=D (J ((b.length:Int)+1))/\TI.Y h 6=D (J k)/\TI.Y h 7=D (J k)) ?_ G (k:=0) G (by simp[n]);rintro _ h _ _ ⟨rfl,n⟩;simp[n,H,I,a7,a8,bN,Wt,S,O];exact⟨k+1,G,G,G,by rw[ax G];exact s,E,V⟩;have bu:k=b.length:=G;subst bu;have bs:=s.fr;refine pU b.length (λW h j=>∃o,o+W=b.length/\Gr j m 1 (iy (b.take o++f::b.drop o))/\iS e.size j/\(∀d,d<e.size->fa m≠some d->j.get d=e.get d)/\(∀x∈b.drop o,f<x)/\TI.Y h 0=D m/\TI.Y h 1=D (J 0)/\TI.Y h 2=D (J ((b.length:Int)+1))/\TI.Y h 6=D (J b.length)/\TI.Y h 7=D (J o)) ?_ G (k:=0) G ⟨b.length,G,iD L,E,λd v r=>(iA e h' d).symm.trans (bs d v r),V,by simp[n]⟩;rintro W h j aA ⟨o,bZ,B,p,Z,ap,n⟩;have cb:iS 0 j:=⟨p.hp,p.low,aB _⟩;have fin:(∀x∈b.take o,x<f)->InP e (mF e j) m (nW b f):=λhl=>by
  have A:=OH hl ap;rw[da]at A;rw[A];exact⟨B.out e,⟨(p.out e).hp,(p.out e).low,by simp;exact p.sz⟩,λd v r=>(iA e j d).trans (Z d v r)⟩
 rcases o with _|c;simp[n,O];exact⟨b.length+1,G,G,G,aw G▸fin V,p,V⟩;have y:c<b.length:=G;have bn:(iy (b.take (c+1)++f::b.drop (c+1))).length=b.length+1:=dP;have H:(b.take (c+1)++f::b.drop (c+1))[c+1]? =D f:=by rw[cZ dP];simp[cM (show c+1<=b.length by omega)]
 have I:(b.take (c+1)++f::b.drop (c+1))[c]? =D b[c]:=by rw[cH dP];simp[y]
 have⟨l,K,z,t,F,P,w,aN,bA⟩:=B.at (x:= J f) (i:=c+1) (by rw[br,H];rfl);have⟨bS,bT,cp,bW,cv,Q,R,U,S⟩:=B.at (x:= J b[c]) (i:=c) (by rw[br,I];rfl);rw[P]at Q;simp at Q;obtain⟨rfl,rfl⟩:=Q;rw[w]at R;simp at R;obtain⟨rfl,rfl,rfl⟩:=R;rw[bn]at P bA S;subst P;have aE:binop .sub (J ((c:Int)+1)) (J 1)=D (J (c:Int)):=by rw[lK G G];congr 2;omega
 have aX:lr ((c:Int)+1)=D (c+1):=by have:=fO (show(0:Int)<=((c+1:Nat):Int)by omega);simpa using this
 by_cases T:f<b[c];have u:∀q d,(fF j l q).get d=if d=l then some q else j.get d:=λq d=>ez w q d;have an:∀q X d,(fF (fF j l q) l X).get d=if d=l then some X else j.get d:=λq X d=>by
  rw[ez (x:=q) (by rw[u,ax rfl]),u];split<;>rfl
 have bC:∀x,(F.set (c+1) x)[c]? =D (J b[c]):=λx=>by rw[cG,aw G];exact U
 simp[n,aE,aX,w,aN,U,show c+1<b.length+1 by omega,show c<b.length+1 by omega,show(0:Int)<(c:Int)+1 by omega,Wt,T,u,bC];have bi:=B.setAt rfl w (c+1) (J b[c]) (h':=fF j l ⟨1,K,z+1,t,false,F.set (c+1) (J b[c])⟩) (ver2:=z+1) (ex2:=t) (by rw[u,ax rfl]);have al:=bi.setAt rfl (by rw[u,ax rfl]) c (J f) (h':=fF (fF j l ⟨1,K,z+1,t,false,F.set (c+1) (J b[c])⟩) l ⟨1,K,z+1+1,t,false,(F.set (c+1) (J b[c])).set c (J f)⟩) (ver2:=z+1+1) (ex2:=t) (by rw[an,ax rfl]);rw[Ru y]at al;refine⟨W+1,G,G,c,G,al,(p.put _ _).put _ _,λd v r=>by rw[an,aw (λA=>r A.symm)];exact Z d v (iD r),λx hx=>?_,rfl⟩;rw[aL y]at hx;rcases List.mem_cons.1 hx with rfl|hx
 exact T;exact ap x hx;simp[n,aE,aX,w,aN,U,show c+1<b.length+1 by omega,show c<b.length+1 by omega,show(0:Int)<(c:Int)+1 by omega,Wt,T,O];refine⟨b.length+1,G,G,G,?_,p,V⟩;rw[aw G];refine fin λx hx=>?_;obtain⟨i,bX,rfl⟩:=List.mem_take_iff_getElem.1 hx;have b9:b[c]≠f:=λk=>ht (k▸aH y);rcases aW i c with k|k
 have:=List.pairwise_iff_getElem.1 M i c G y k;omega;have:i=c:=G;subst this;omega;rw[aw G]at s;simp[n,show¬(k:Int)<b.length+1 by omega];exact s;exact⟨G,by
  have:(if 1<=b.length then b++[f]else nW b f)=b++[f]:=by
   split;rfl;rw[show b=[]from bw G];rfl
  rw[this];exact⟨bH.out e,⟨(C.hr.out e).hp,(C.hr.out e).low,az _⟩,λd _ _=>(iA e _ d).trans (iI e d)⟩,⟨C.hr.hp,C.hr.low,az _⟩,by simp[N]⟩
def aav(a:Xi×Int)(c:List T)(b:H):Prop:=c=[a.1.v,J 0,J ((a.1.A++[a.1.t]).length:Nat),J a.2]/\Gr b a.1.v 1 (iy (a.1.A++[a.1.t]))/\iS 0 b/\No a.1.A/\a.1.t∉a.1.A/\a.1.A.length<=10
def Uo(a:Xi×Int)(d:List T)(b:H)(e:T)(c:H):Prop:=InP b c a.1.v (nW a.1.A a.1.t)
def InP.out{h c:H}{e:T}{d:List Int}(a:InP (TI.hr h) c e d):InP h (mF h c) e d:=⟨a.g.out h,⟨(a.ok.out h).hp,(a.ok.out h).low,by have:=a.ok.sz;simpa using this⟩,λb f i=>(iA h c b).trans ((a.fr b (iD f) i).trans (iI h b))⟩
def af0:(jS (Xi×Int) aav Uo).Ok prog cx 182:=by
 refine jz (tb:=⟨pt [],ht [(223,jS Xi aaz JT)]⟩) jk iX (js 10384593871817177683247510831234831 [] func182) (λ_ _=>100) (λt p c l=>by obtain⟨rfl,_⟩:=l;simp[f182]) ?_;rintro⟨⟨a,h,d⟩,u⟩ _ c ⟨rfl,e,o,f,ht,hl⟩ b g
 dsimp at e f ht hl
 simp at g;have s:binop .sub (J ((a.length:Int)+1)) (J 0)=D (J ((a.length:Int)+1)):=by rw[lK G G];simp
 have m:Gr (TI.hr c) d 1 (iy (a++[h])):=e.mono λi _=>iI c i;simp[f182];refine pU 1 (λ_ b j=>TI.hr c=j/\TI.Y b 0=D d/\TI.Y b 1=D (J 0)/\TI.Y b 2=D (J ((a.length:Int)+1))) ?_ G (k:=0) G (by simp[g]);rintro _ b _ _ ⟨rfl,q⟩;simp[*,show(a.length:Int)+1<=12 by omega];refine jl Sf V ⟨a,h,d⟩ ⟨V,m,o.hr,f,ht,hl⟩ ?_;rintro v r n;simp;exact n.out
def u6:iE:=⟨eJ×fK×Int,λa=>[a.1.t,a.2.1.t,J a.2.2],λa=>uq a.1 a.2.1,λa=> J (jG a.1 a.2.1 a.2.2),λa c b=>by simp at b;rw[show a=c from aG (eJ.inj b.1) (aG (fK.inj b.2.1) b.2.2)]⟩
def kj.rU{c:eJ}(e:kj c){b:fR}(f:b∈c.ei):jx b.eG c.gG.d8.length=true:=by obtain⟨i,g,rfl⟩:=List.getElem_of_mem f;have⟨b,a,_,_,d,_⟩:=e.at (i:=i) (by rw[fT];omega);simp[cN]at a;rw[aF g]at a;simp[ay]at a;rw[a];exact d
def Oo{e:Int}{i:List Int}:∀{b:List fR} (c:Nat),(∀a∈b,a.eG≠e)->uw e i b c=-1:=by
 intro b;induction b with
 |nil=>intro c _;rfl
 |cons a b g=>
  intro c d;unfold uw;rw[aw λh=>d a V h.1];exact g _ λa f=>d a (by simp[f])
def Yf:u6.Ok prog cx 64:=by
 refine iz [(73,nO)] (js 137454944735 [] func64) (λz=>1000) (by simp[u6]) ?_;rintro⟨a,g,d⟩ (i:uq a g) e k;simp[u6]at k|-;have hl:=i.ev;have E:=i.hw.ok.len;have F:=i.od;cases m:jx d a.gG.d8.length;have H:=sw m;have B:jG a g d=-1:=Oo 0 λA w y=>by have:=i.hw.rU w;rw[y,m]at this;simp at this
 by_cases L:d<0;simp[*,f64];simp[*,f64,show(a.gG.d8.length:Int)<=d by omega];have⟨M,N⟩:=fT.1 m;simp[f64,k,show¬d<0 by omega,show¬(a.gG.d8.length:Int)<=d by omega];refine gW a.ei.length G (λj e h=>iS 2 h/\h.get 0=D (dU 15 0 [a.t])/\h.get 1=D (dU 9 0 [g.t])/\TI.Y e 2=D (J d)/\TI.Y e 3=D (dY 0)/\TI.Y e 4=D (dY 1)/\TI.Y e 20=D (sl (a.ei.map fR.t))/\TI.Y e 21=D (J a.ei.length)/\TI.Y e 22=D (J j)/\uw d g.order (a.ei.drop j) j=jG a g d) ?_ ?_ G ⟨⟨V,V,V⟩,V,V,by simp[k,jG]⟩;rintro j e h x C ⟨f,p,q,r,u,v,s,n,o,c⟩;rw[aL x]at c;simp[uw]at c;have I:=f.ne (b:=0) G;have K:=f.ne (b:=1) G;simp[*,f.low,oP];refine fG (λl=>?_) (λl=>?_);rw[ax (iD l)]at c;simp[f.hp,<-c];rw[aw (iD l)]at c;simp[*,f.cons];rintro e h ⟨f,p,q,r,u,v,s,n,o,c⟩;rw[cq]at c;simp[uw]at c;simp[n,o,f.hp,<-c]
def KK{d:ik}(ht:d.p 64=D u6)(b:eJ)(a:fK)(c:Int)(e:uq b a):rl prog cx d 64 [b.t,a.t,J c]=D (J (jG b a c)):=iF ht Yf (b,a,c) e
end
end
noncomputable section
open Go Go.TI
def Kq{c:fJ}{b a:iq}(d:m9 c b)(hl:a.fQ.length=b.fQ.length/\a.done.length=b.done.length/\a.d8.length=b.d8.length):m9 c a=true:=by
 unfold m9 at*
 rw[hl.1,hl.2.1,hl.2.2];exact d
def yS.up{b Mq:Nat}{d:eJ}{c:fK}(a:yS b d c)(g:b<=Mq):yS Mq d c:=⟨a.fx,a.wk,a.ce,a.fu,a.ft,λe f=>iH (a.rd e f),a.C9,iH a.od⟩
def yS.go{f:Nat}{c:eJ}{d:fK}(a:yS f c d)(i:Int)(e:fR)(g h:Int):yS (f+1) c (Ed c d i e g h):=by have hl:=yx c.gG d.gH g e.fc e.obj h;refine⟨?_,?_,λb=>?_,λb=>?_,λb=>Kq (a.ft b) ⟨hl.1,hl.2.1,hl.2.2⟩,Jt a.rd _ _ _ _ _,yy a.C9 _ _ _ _ _,?_⟩;have:=a.fx;simp[Ed];grind;have:=a.wk;simp[Ed];grind;have:=a.ce b;simp[Ed];grind;have:=a.fu b;simp[Ed];grind;have:=a.od;simp[Ed,aY,aZ,cW];omega
def yS.step{c:Nat}{a:eJ}{b:fK}(e:yS c a b)(d:io)(f:jw a b d.eG):yS (c+1) a (kf a b d).1:=by unfold kf;rw[ax f];exact e.go _ _ _ _
def yS.start{w:eJ}(h:kj w):yS 1000 w (ls w):=by
 have c:w.ei≠ []->ox w.gG w.kH=true:=λa=>by
  have⟨d,e,b⟩:=List.exists_cons_of_ne_nil a;have hr:=h.ok.run;unfold runs at hr;rw[b]at hr;simp[r7,aC]at hr;exact(qO hr.1).1
 refine⟨by simp[ls],by simp[ls],λa=>?_,λa=>?_,λa=>?_,h.sm.r,h.ok.C9,by simp[ls]⟩
 all_goals
  have:=c a;unfold ox at this;simp[aC,aO]at this;simp[ls,this]
def ajn(a:Int): -9223372036854775808<=IntKind.i64.wrap a/\IntKind.i64.wrap a<9223372036854775808:=by simp only[IntKind.wrap,IntKind.bits,IntKind.signed];by_cases b:a% 2^64>=(2:Int)^(64-1)<;>simp<;>omega
def PB{a:Int}(b: -9223372036854775808<=a)(c:a<9223372036854775808):IntKind.i64.wrap a=a:=by rw[<-kz,kI b c]
def wK(b:Int):List fR->Nat->List Int
 | [],_=>[]
 |e::c,a=>if e.eG=b then(a:Int)::wK b c (a+1)else wK b c (a+1)
def GE(d:Int):∀(a:List fR) (b:Nat),(wK d a b).length<=a.length:=by
 intro a;induction a with
 |nil=>intro b;simp[wK]
 |cons e a c=>intro b;have:=c (b+1);simp only[wK,aZ];split<;>simp<;>omega
def UB(d:Int):∀(a c:List fR) (b:Nat),wK d (a++c) b=wK d a b++wK d c (b+a.length):=by
 intro a;induction a with
 |nil=>intro c b;rfl
 |cons f a e=>
  intro c b;simp[cg,wK,e,aZ];rw[show b+1+a.length=b+(a.length+1)by omega];split<;>rfl
def UA{t:Int}:∀{l:List fR} {i:Nat} {x:Int},x∈wK t l i->∃a:Nat,x=(i+a:Nat)/\a<l.length:=by
 intro l;induction l with
 |nil=>intro i x h;simp[wK]at h
 |cons c l d=>
  intro i x h;simp[wK]at h;have b:x∈wK t l (i+1)->∃a:Nat,x=(i+a:Nat)/\a<(c::l).length:=λh=>by
   have⟨a,e,f⟩:=d h;exact⟨a+1,G,dP⟩
  split at h;rcases List.mem_cons.1 h with h|h;exact⟨0,G,V⟩;exact b h;exact b h
def L5(f:Int):∀(b:List fR) (c:Nat) (a:Int),0<=a->a<9223372036854775808->yf f b c a=(wK f b c).getD a.toNat (-1):=by
 intro b;induction b with
 |nil=>intro c a _ _;simp[yf,wK]
 |cons i b e=>
  intro c a g h;simp[yf,wK];split;split;rename_i d;subst d;simp;rename_i d;rw[PB G G,e _ _ G G,show a.toNat=(a-1).toNat+1 by omega];simp;exact e _ _ g h
def Vs(d:Int):∀(a:List fR) (c:Nat) (b:Int),a.length<=1000000->-9223372036854775808<=b->b<0->yf d a c b=-1:=by
 intro a;induction a with
 |nil=>intro c b _ _ _;simp[yf]
 |cons j a e=>
  intro c b f g h;simp[aZ]at f;simp[yf];split;rw[aw G];by_cases i:b=-9223372036854775808;subst i;have:IntKind.i64.wrap (-9223372036854775808-1)=9223372036854775807:=dR;have hl:=GE d a (c+1);rw[this,L5 d a _ _ G G,dy,bY G];rfl;rw[PB G G];exact e _ _ G G G;exact e _ _ G g h
def kj.cnt{a:eJ}(b:kj a)(d:a.ei≠ []):a.kH.count.length=a.gG.d8.length:=by have⟨e,f,c⟩:=List.exists_cons_of_ne_nil d;have hr:=b.ok.run;unfold runs at hr;rw[c]at hr;simp[r7,aC]at hr;have:=(qO hr.1).1;unfold ox at this;simp[aC,aO]at this;exact this.2
end
noncomputable section
open Go Go.TI Tryz
attribute [-simp] List.map_take List.map_drop List.map_append ij fU fH Bool.not_or Bool.not_and
section
attribute [-simp] size_cons
def wh:iE:=⟨eJ×fK×Int×List Int,λa=>[a.1.t,a.2.1.t,J a.2.2.1,sl (a.2.2.2.map (T.int .i64))],λa=>uq a.1 a.2.1/\a.1.ei≠ []/\a.2.2.2.length<=1000000,λa=> .ej (ou a.1 a.2.1 a.2.2.1 a.2.2.2),λa c b=>by simp at b;rw[show a=c from aG (eJ.inj b.1) (aG (fK.inj b.2.1) (aG b.2.2.1 (j3 V b.2.2.2)))]⟩
def U9:wh.Ok prog cx 69:=by
 refine iz [] (js 633825300270344703797589335871 [] func69) (λa=>1000005) (by simp[wh]) ?_;rintro⟨c,g,t,l⟩ ⟨S,a8,hl⟩ d aE
 dsimp at S a8 hl
 simp[wh]at aE|-;obtain⟨M,v,j⟩:=aE;have ca:=S.hw.cnt a8;have cb:=S.hw.ok.len;cases l with
 |nil=>
  have:ou c g t []:=by unfold ou;split<;>simp
  simp[f69,M,v,j,this]
 |cons a0 l0=>
 have bu:decide ((a0::l0).length=0)=false:=V;generalize a0::l0=l at*
 have W:decide (l=[])=false:=by cases l<;>simp at bu|-
 cases F:jx t c.kH.count.length with
 |false=>
  have Q:ou c g t l=false:=by unfold ou;rw[pT F];exact W
  have cp:=sw F;by_cases s:t<0;simp[f69,M,v,j,W,Q,show decide (t<0)=true by simpa using s];simp[f69,M,v,j,W,Q,show decide (t<0)=false by simpa using s,show decide ((c.gG.d8.length:Int)<=t)=true by simp;omega]
 |true=>
 have⟨first,bp,bs⟩:=jm F;have bX:=fO (fT.1 F).1;have Q:ou c g t l=l.all (BJ c g.fixed t first):=by unfold ou;rw[bs]
 have⟨cv,cL⟩:=fT.1 F;simp[f69,M,v,j,W,Q,bX,bp,show decide (t<0)=false by simp;omega,show decide ((c.gG.d8.length:Int)<=t)=false by simp;omega,show decide ((c.kH.count.length:Int)<=t)=false by simp;omega];refine gW c.ei.length G (λi d m=>∃r,Gr m r 1 (iy (wK t (c.ei.take i) 0))/\(∀b,fa r=D b->2<=b)/\iS 2 m/\m.get 0=D (dU 15 0 [c.t])/\m.get 1=D (dU 9 0 [g.t])/\TI.Y d 2=D (J t)/\TI.Y d 3=D (sl (l.map (T.int .i64)))/\TI.Y d 5=D (dY 1)/\TI.Y d 9=D (J first)/\TI.Y d 10=D r/\TI.Y d 43=D (sl (c.ei.map fR.t))/\TI.Y d 44=D (J c.ei.length)/\TI.Y d 45=D (J i)) ?_ ?_ G ⟨dT,Gr.nil _ _,V,⟨V,V,V⟩,V,V,by simp[j]⟩;rintro i d m I E ⟨r,u,L,k,X,y,j⟩;have aN:=GE t (c.ei.take i) 0;rw[List.length_take]at aN;have w:=UB t (c.ei.take i) [c.ei[i]] 0;rw[<-aT I,List.length_take,cM G]at w;simp[wK]at w;generalize wK t (c.ei.take i) 0=o at*
 have al:=k.cons (dU 7 1 [c.ei[i].t]);have aA:Gr (m.cons (dU 7 1 [c.ei[i].t])) r 1 (iy o):=u.mono λb P=>by
  have⟨_,_,_,_,s,_⟩:=u.box P;rw[fg,aw (iH (H.fN s))]
 have bS:=k.ne (b:=0) G;have bT:=k.ne (b:=1) G;simp[j,I,k.low];refine fG (λq=>?_) (λq=>?_);rw[ax (iD q)]at w;have⟨c4,z,ap,b7⟩:=aA.mR (cx:=cx) (f:=T.int .i64) (al.Di (aB _)) kE rfl nc rfl V (λ_=>rfl) (i:Int) dP;obtain⟨a1,a2,a3,a4⟩:=b7;simp at ap;have cX:=al.sz;have av:∀b,b<2->z.get b=m.get b:=λb P=>(a2 b G λs=>iH (L b s)).trans (by rw[fg,aw (iH k.sz)]);simp[j,E,ap];exact⟨_,by rw[w];simpa using a1,λb P=>(a3 b P).elim (L b) λs=>by omega,⟨a4.hp,a4.low,iH a4.sz⟩,(av 0 G).trans X,(av 1 G).trans y,rfl⟩;rw[aw (iD q)]at w;simp[j,E,bS,bT,X,y];exact⟨_,by rw[w];simpa using aA,L,al,rfl⟩
 .rintro d m ⟨r,u,L,k,X,y,j⟩;rw[aM]at u;have aN:=GE t c.ei 0;have bA:=λx=>UA (t:=t) (l:=c.ei) (i:=0) (x:=x);have bW:∀h:Int,-9223372036854775808<=h->h<9223372036854775808->yf t c.ei 0 h=if 0<=h then(wK t c.ei 0).getD h.toNat (-1)else-1:=λh bN K=>by
   split;exact L5 t _ _ _ G K;exact Vs t _ _ _ G bN G
  generalize wK t c.ei 0=o at*
  simp[j];refine gW l.length G (λn d z=>z=m/\TI.Y d 5=D (dY 1)/\TI.Y d 9=D (J first)/\TI.Y d 10=D r/\TI.Y d 59=D (sl (l.map (T.int .i64)))/\TI.Y d 60=D (J l.length)/\TI.Y d 61=D (J n)/\(l.drop n).all (BJ c g.fixed t first)=l.all (BJ c g.fixed t first)) ?_ ?_ G (by simp[j])
  .rintro n d z I E ⟨rfl,N,p,A,O,B,C,e⟩;rw[aL I,cA]at e;simp[p,O,B,C,I];refine fG (λq=>?_) (λq=>?_);have:BJ c g.fixed t first l[n]:=by unfold BJ;rw[q];rfl
   rw[this,bj]at e;simp[N,p,A,O,B,C,E,e];have bC:BJ c g.fixed t first l[n]=yJ g.fixed (yf t c.ei 0 (IntKind.i64.wrap (l[n]-first))):=by unfold BJ;rw[q];rfl
   have⟨bZ,b6⟩:=ajn (l[n]-first);rw[bC,bW _ bZ b6]at e;have R:=λv=>u.len (cx:=cx) v pJ _ rfl;simp at R;have U:=tv .i64 l[n] first
   generalize IntKind.i64.wrap (l[n]-first)=h at*
   have aX:yJ g.fixed (-1)=false:=rfl;cases p1:decide (h<0)with
   |true=>
    rw[aw (by simp at p1;omega),aX,dC]at e;simp[p,U,p1,k.hp,<-e]
   |false=>
   have ae:0<=h:=iD p1;rw[ax ae]at e;cases p2:decide ((o.length:Int)<=h)with
   |true=>
    have:o.getD h.toNat (-1)=-1:=by rw[dy,bY (by simp at p2;omega)];rfl
    rw[this,aX,dC]at e;simp[p,A,U,p1,p2,R,k.hp,<-e]
   |false=>
   have K:h.toNat<o.length:=by simp at p2;omega
   have⟨x,a7,bH⟩:=bA o[h.toNat] (aH K);have Z:x<g.fixed.length:=S.hc.fx▸bH;have:o.getD h.toNat (-1)=x:=by rw[dy,aF K];simpa using a7
   rw[this,show yJ g.fixed x=g.fixed[x]by simp[yJ,wU,Z]]at e;have⟨b,b8,c6,b9,c7,c1,bi,bn,an⟩:=u.CI (te:=Dp) rfl (i:=h.toNat) (iD K);simp[a7]at an;have p3:decide (g.fixed.length<=x)=false:=dP;cases p4:g.fixed[x];rw[p4,dC]at e;simp[N,p,A,U,p1,p2,p3,p4,R,fO ae,bi,bn,an,y,Z,k.hp,<-e];rw[p4,bj]at e;simp[N,p,A,O,B,C,U,p1,p2,p3,p4,R,fO ae,bi,bn,an,y,Z,E,e]
  rintro d z ⟨rfl,N,p,A,O,B,C,e⟩;rw[cq]at e;simp at e;simp[B,C,k.hp];simpa using e
def Q2{e:ik}(ht:e.p 69=D wh)(a:eJ)(b:fK)(d:Int)(c:List Int)(f:uq a b)(g:a.ei≠ [])(hl:c.length<=1000000):rl prog cx e 69 [a.t,b.t,J d,sl (c.map (T.int .i64))]=D (.ej (ou a b d c)):=iF ht U9 (a,b,d,c) ⟨f,g,hl⟩
def qK:iE:=⟨eJ×fK×Int,λa=>[a.1.t,a.2.1.t,J a.2.2],λa=>uq a.1 a.2.1/\jx a.2.2 a.1.gG.d8.length=true,λa=> .ej (jw a.1 a.2.1 a.2.2),λa c b=>by simp at b;rw[show a=c from aG (eJ.inj b.1) (aG (fK.inj b.2.1) b.2.2)]⟩
def Oh:qK.Ok prog cx 63:=by
 refine iz [(64,u6),(124,pL),(69,wh)] (js 16863 [] func63) (λu=>5) (by simp[qK]) ?_;rintro⟨w,a,t⟩ ⟨c,f⟩ C m
 dsimp at c f
 simp[qK]at m|-;have hE:=jw.eq_1 w a t;generalize jw w a t=r at*
 have B:=λ{d:ik} (ht:d.p 64=D u6)=>KK ht w a t c;by_cases g:jG w a t<0;rw[ax g]at hE;simp[*,f63];rw[aw g]at hE;have e:=qP g;have⟨b,h,v,x,y,i⟩:=c.hw.at e;rw[qr (fT.1 e).1 h]at hE;have q:=c.hw.ev b (aD h);have n:w.gG.je.length<=1000000:=iH (kW c.hw.wb);have j:=c.hc.ft (pZ e);have z:=λ{d:ik} (ht:d.p 124=D pL)=>Jp ht (w:=w.gG) (s:=a.gH) (t:=t) (k:=b.fc) (o:=b.obj) ⟨j,f,i,n,c.hc.rd⟩;have A:=λ{d:ik} (ht:d.p 69=D wh)=>Q2 ht w a t b.nH c (pZ e) q.1;have l:jM w.gG a.gH t b.fc b.obj=B0 w.gG a.gH t b.fc b.obj:=by unfold jM;rw[j,f,i];rfl
 rw[l]at hE;simp[*,f63]
def Ej{d:ik}(ht:d.p 63=D qK)(a:eJ)(b:fK)(c:Int)(e:uq a b)(f:jx c a.gG.d8.length):rl prog cx d 63 [a.t,b.t,J c]=D (.ej (jw a b c)):=iF ht Oh (a,b,c) ⟨e,f⟩
end
def Tj(b c:H)(f:Nat)(e:List (T×aa (Nat×List T))):Prop:=∃d g,oQ c d f g e/\(∀a,Fp c d a->b.size<=a)/\iS b.size c/\∀a,a<b.size->c.get a=b.get a
def Tj.of{b f d:H}{e j k:Nat}{h:List (T×aa (Nat×List T))}(n:oQ d e j k h)(c:Step e f d)(i:∀a,Fp f e a->b.size<=a)(l:b.size<=f.size)(m:∀a,a<b.size->f.get a=b.get a):Tj b (mF b d) j h:=
 ⟨e,k,n.step ((iS.out ⟨c.ok.hp,c.ok.low,aB _⟩ b)) λa _=>iA b d a,λa g=>by
   rw[jN (iA b d e)]at g;rcases c.fp a g with q|q
   exact i a q;omega,iS.out ⟨c.ok.hp,c.ok.low,aU l c.ok.sz⟩ b,λa g=>(iA b d a).trans ((c.get a G λq=>iH (i a q)).trans (m a g))⟩
def pS8(a:fJ)(b:List T)(c:H):Prop:=b=[a.t]/\iS 0 c/\a.fQ.length<=1000000/\a.fI.length<=1000000/\a.d8.length<=1000000
def Dq(b:Nat):List ew:=(List.range b).map λa=>⟨if a=0 then 1 else 0,0,false⟩
def Rs(a:Nat):Dq (a+1)=Dq a++[⟨if a=0 then 1 else 0,0,false⟩]:=by unfold Dq;rw[List.range_succ,List.map_append];rfl
def qS8(a:fJ)(_:List T)(e:H)(g:T)(f:H):Prop:=∃b c d,g= .eQ [b,J (-1),c,d]/\Tj e f 4 [(b,some (2,(ao a.fQ.length ()).map Ce)),(J (-1),none),(c,some (1,(ao a.fI.length false).map T.ej)),(d,some (3,(Dq a.d8.length).map ew.t))]
def Sz8(e:Nat)(f:H)(Lk:List Unit)(a:List Bool)(Th:List ew):Prop:=∃g b c d,oQ f e 4 g [(b,some (2,Lk.map Ce)),(J (-1),none),(c,some (1,a.map T.ej)),(d,some (3,Th.map ew.t))]
def ajK:(jS fJ pS8 qS8).Ok prog cx 101:=by
 refine jz (tb:=⟨pt [],ht []⟩) jk iX (js 9071038046463 [] func101) (λ_ _=>1000005) (λe a h bi=>by obtain⟨rfl,_⟩:=bi;simp[f101]) ?_;rintro(w:fJ) _ h ⟨rfl,aX,hl,bN,ht⟩ d av;simp at av;simp[f101,av];generalize P:fF _ _ _=m;have Q:iS 0 m:=P▸(((aX.hr.cons _).cons _).cons _).put _ _;have bT:m.size=h.size+3:=by rw[<-P];simp
 have M:∀j,m.get j=if j=h.size+2 then some (dU 4 1 [.eQ [dT,J (-1),dT,dT]])else if j=h.size+1 then some uY else if j=h.size then some (dU 6 0 [w.t])else h.get j:=λj=>by
  rw[<-P,nT (((aX.hr.cons _).cons _).cons _).hp V,fg,fg,fg,iI];simp only[size_cons,qq];by_cases N:j=h.size+2<;>simp[N,uY]
 have⟨bu,R⟩:=oQ.start (h:=m) (w:=h.size+2) (szw:=4) (ver:=1) (F:=[(dT,some (2,[])),(J (-1),none),(dT,some (1,[])),(dT,some (3,[]))]) Q (by rw[M,ax rfl];rfl) V;have L:Lb (h.size+2) m h.size (dU 6 0 [w.t]):=⟨by rw[M,aw G,aw G,ax rfl],λN=>iH (R _ N)⟩;have bp:Lb (h.size+2) m (h.size+1) uY:=⟨by rw[M,aw G,ax rfl],λN=>iH (R _ N)⟩;have bs:∀j,j<h.size->m.get j=h.get j:=λj I=>by rw[M,aw G,aw G,aw G]
 clear P M;refine gW w.fQ.length G (λe d g=>Sz8 (h.size+2) g (ao e ()) [] []/\Step (h.size+2) m g/\TI.Y d 1=D (dY h.size)/\TI.Y d 2=D (dY (h.size+1))/\TI.Y d 3=D (dY (h.size+2))/\TI.Y d 4=D (J e)) ?_ ?_ G ⟨⟨_,_,_,_,bu⟩,Step.refl Q,V⟩;rintro e d g K E ⟨⟨ver,o,p,u,b⟩,c,i⟩;have l:=b.get;simp at l;have⟨n,q,k,s⟩:=(b.gr 0 rfl).mR (cx:=cx) (f:=Ce) b.ok KC rfl FC rfl V (λ_=>rfl) () dP;have⟨r,X,y⟩:=b.app 0 rfl s;have⟨z,v⟩:=y _ rfl;simp only[<-List.replicate_succ']at v;simp[-List.map_replicate]at r z v;simp only[Ce]at k;simp[i,K,(L.step c).get,l,k,r,fD,s.1.iW,s.1.cells,E];exact⟨⟨_,_,_,_,v⟩,c.trans z⟩;rintro d g ⟨⟨ver,o,p,u,b⟩,c,i,A,B,C⟩;simp[i,C,(L.step c).get];refine gW w.fI.length G (λe d g=>Sz8 (h.size+2) g (ao w.fQ.length ()) (ao e false) []/\Step (h.size+2) m g/\TI.Y d 1=D (dY h.size)/\TI.Y d 2=D (dY (h.size+1))/\TI.Y d 3=D (dY (h.size+2))/\TI.Y d 5=D (J e)) ?_ ?_ G ⟨⟨_,_,_,_,b⟩,c,by simp[i,A,B]⟩;clear b c i A B C;rintro e d g K E ⟨⟨ver,o,p,u,b⟩,c,i⟩;have l:=b.get;simp at l;have⟨n,q,k,s⟩:=(b.gr 2 rfl).mR (cx:=cx) (f:=T.ej) b.ok Eh rfl Jj rfl V V false dP;have⟨r,X,y⟩:=b.app 2 rfl s;have⟨z,v⟩:=y _ rfl;simp only[<-List.replicate_succ']at v;simp[-List.map_replicate]at r z v;simp[i,K,(L.step c).get,l,k,r,fD,s.1.iW,s.1.cells,E];exact⟨⟨_,_,_,_,v⟩,c.trans z⟩;clear b c i A B C;rintro d g ⟨⟨ver,o,p,u,b⟩,c,i,A,B,C⟩;simp[i,C,(L.step c).get];refine gW w.d8.length G (λe d g=>Sz8 (h.size+2) g (ao w.fQ.length ()) (ao w.fI.length false) (Dq e)/\Step (h.size+2) m g/\TI.Y d 1=D (dY h.size)/\TI.Y d 2=D (dY (h.size+1))/\TI.Y d 3=D (dY (h.size+2))/\TI.Y d 6=D (J e)) ?_ ?_ G ⟨⟨_,_,_,_,b⟩,c,by simp[i,A,B]⟩;clear b c i A B C;rintro e d g K E ⟨⟨ver,o,p,u,b⟩,c,i⟩;have l:=b.get;simp at l;have bW:=c.ok.sz;have bS:(h.size=g.size)=False:=dP;have aA:(h.size+2=g.size)=False:=dP;have aN:=(L.step c).get;have aE:∀O,∃n q,ju cx ((g.cons (dU 3 O [ew.t ⟨if e=0 then 1 else 0,0,false⟩])).cons (dU 3 0 [ew.t ⟨if e=0 then 1 else 0,0,false⟩])) 35 35 u (.arr (g.size+1) 0 0 1 false)=be n q/\n.iW/\n.cells=[n]/\q.get (h.size+2)=D (dU 4 ver [.eQ [o,J (-1),p,u]])/\gJ (g.cons (dU 3 O [ew.t ⟨if e=0 then 1 else 0,0,false⟩])) q (h.size+2)=true/\Sz8 (h.size+2) (fF q (h.size+2) (dU 4 (ver+1) [.eQ [o,J (-1),p,n]])) (ao w.fQ.length ()) (ao w.fI.length false) (Dq (e+1))/\Step (h.size+2) m (fF q (h.size+2) (dU 4 (ver+1) [.eQ [o,J (-1),p,n]])):=λO=>by
  have ap:=b.cons (dU 3 O [ew.t ⟨if e=0 then 1 else 0,0,false⟩]);have bH:=Step.cons b.ok b.lt (dU 3 O [ew.t ⟨if e=0 then 1 else 0,0,false⟩]);have⟨n,q,k,s⟩:=(ap.gr 3 rfl).mR (cx:=cx) (f:=ew.t) ap.ok HG rfl FD rfl V (λ_=>rfl) (⟨if e=0 then 1 else 0,0,false⟩:ew) (by simp[Dq];omega);have⟨r,X,y⟩:=ap.app 3 rfl s;have⟨z,v⟩:=y _ rfl;rw[<-Rs]at z v;rw[size_cons]at k;exact⟨n,q,k,s.1.iW,s.1.cells,r,X,⟨_,_,_,_,v⟩,(c.trans bH).trans z⟩
 by_cases S:e=0;subst S;have⟨n,q,k,r,y,Z,ae,al,an⟩:=aE 2;simp at k ae;have a7:binop .add (J 0) (J 1)=D (J 1):=iD E;simp[i,K,aN,l,aA,b.ok.low,k,r,y,Z,fD,a7];exact⟨al,an⟩;have⟨n,q,k,r,y,Z,ae,al,an⟩:=aE 1;simp[S]at k ae;simp[i,S,K,aN,l,aA,b.ok.low,k,r,y,Z,fD,E];exact⟨al,an⟩;clear b c i A B C;rintro d g ⟨⟨ver,o,p,u,b⟩,c,i⟩;have l:=b.get;simp at l;have U:=bp.step c;have W:=U.get;unfold uY at W;have bA:=b.rx U (dU 4 1 [.eQ [o,J (-1),p,u]]);have a8:(fF g (h.size+1) (dU 4 1 [.eQ [o,J (-1),p,u]])).get (h.size+1)=_:=(ez W _ _).trans (ax rfl);simp[i,(L.step c).get,l,W,fD,a8,-List.map_replicate];have bC:Step (h.size+2) h m:=⟨⟨Q.hp,Q.low,G⟩,λj I _=>bs j I,λj I=> .inr (iH (R j I))⟩;exact⟨o,p,u,rfl,Tj.of bA (Step.rx b.ok U _ h (bC.trans c) G) (λj I=>by
  rcases I with rfl|⟨x,bn,_⟩;omega;have:=H.fN bn;omega) (az _) λ_ _=>rfl⟩
def N8(a:fJ)(b:List T)(c:H):Prop:=b=[a.t]/\iS 0 c/\a.fQ.length<=1000000/\a.fI.length<=1000000/\a.d8.length<=1000000/\a.cells.length<=1000000
def XE(a:fJ)(c d e f g h:T)(b:List Int):List (T×aa (Nat×List T)):=[(c,some (2,(ao a.fQ.length ()).map Ce)),(J (-1),none),(d,some (1,(ao a.fI.length false).map T.ej)),(e,some (3,(Dq a.d8.length).map ew.t)),(f,some (1,b.map (T.int .i64))),(g,some (1,(ao a.fI.length 0).map (T.int .i64))),(h,some (1,(ao a.d8.length 0).map (T.int .i64)))]
def NU(g:fJ)(_:List T)(h:H)(j:T)(i:H):Prop:=∃a b c d e f,j= .eQ [a,J (-1),b,c,d,e,f]/\Tj h i 7 (XE g a b c d e f (g.cells.map ji.kH))
def afX:(jS fJ N8 NU).Ok prog cx 48:=by
 refine jz (tb:=⟨pt [],ht [(101,jS fJ pS8 qS8)]⟩) jk iX (js 1048607 [(1,[(1,3),(1,5),(1,7),(1,9),(1,11)])] func48) (λ_ _=>1000005) (λp s h bX=>by obtain⟨rfl,_⟩:=bX;simp[f48]) ?_;rintro(d:fJ) _ h ⟨rfl,b8,hl,C,ht,j⟩ w k;simp at k;have dd:d.fI.length*8<=70368744177664:=G;have de:d.d8.length*8<=70368744177664:=G;simp[f48,k];generalize y:((TI.hr h).cons _).cons _=u;have b9:iS 0 u:=y▸(b8.hr.cons _).cons _;refine ma ajK V d ⟨rfl,b9,hl,C,ht⟩ ?_;rintro _ c ⟨m,n,o,rfl,g,U,i,bp,an,S⟩;have c9:u.size=h.size+2:=by rw[<-y];simp
 have c7:=an.sz;rw[c9]at c7;have c1:u.get h.size=D (dU 6 0 [d.t]):=by rw[<-y];simp
 have c4:u.get (h.size+1)=D pX:=by rw[<-y];simp[pX]
 have c6:∀a,a<h.size->u.get a=h.get a:=λa j=>by rw[<-y,fg,aw dP,fg,aw dP,iI]
 clear y;have a0:=(S h.size G).trans c1;have a1:=(S (h.size+1) G).trans c4;have cp:=il (S h.size G);have ea:(h.size=c.size)=False:=dP;have eb:(h.size=c.size+1)=False:=dP;have cX:gJ u c (c.size+1+1):=jF (mG _ G);have O:=λp a aA W (E: [(m,some (2,(ao d.fQ.length ()).map Ce)),(J (-1),none),(n,some (1,(ao d.fI.length false).map T.ej)),(o,some (3,(Dq d.d8.length).map ew.t))][p]? =D (a,some (aA,W)))=>And.intro (i.gr p E).iW (i.gr p E).cells;have bs:=O 0 m _ _ rfl;have bu:=O 2 n _ _ rfl;have bA:=O 3 o _ _ rfl;have cv:gJ u c c.size:=jF (mG _ G);have cL:gJ u c (c.size+1):=jF (mG _ G);simp[*];generalize P:fF _ _ _=q;have bn:iS 0 c:=⟨an.hp,an.low,aB _⟩;have LG:iS 0 q:=P▸(((bn.cons _).cons _).cons _).put _ _;have eh:q.size=c.size+3:=by rw[<-P];simp
 have A:∀a,q.get a=if a=c.size+2 then some (dU 7 1 [.eQ [m,J (-1),n,o,dT,.arr c.size 0 0 d.fI.length false,.arr (c.size+1) 0 0 d.d8.length false]])else if a=c.size+1 then some ⟨1,0,0,true,false,ao d.d8.length (J 0)⟩else if a=c.size then some ⟨1,0,0,true,false,ao d.fI.length (J 0)⟩else c.get a:=λa=>by
  rw[<-P,nT (((bn.cons _).cons _).cons _).hp V,fg,fg,fg];simp only[size_cons];by_cases r:a=c.size+2;simp[r];by_cases M:a=c.size+1<;>by_cases ee:a=c.size<;>simp[*]
 clear P;have R:∀a,a<c.size->q.get a=c.get a:=λa r=>by rw[A,aw G,aw G,aw G]
 have Q:∀(l:Nat) s,(XE d m n o dT (.arr c.size 0 0 d.fI.length false) (.arr (c.size+1) 0 0 d.d8.length false) [])[l]? =D s->∀a,fa s.1=D a->(l<4/\[(m,some (2,(ao d.fQ.length ()).map Ce)),(J (-1),none),(n,some (1,(ao d.fI.length false).map T.ej)),(o,some (3,(Dq d.d8.length).map ew.t))][l]? =D s/\h.size+2<=a/\a<c.size)\/(l=5/\a=c.size)\/(l=6/\a=c.size+1):=by
  intro l s k a j;have b6:=λ(F: [(m,some (2,(ao d.fQ.length ()).map Ce)),(J (-1),none),(n,some (1,(ao d.fI.length false).map T.ej)),(o,some (3,(Dq d.d8.length).map ew.t))][l]? =D s)=>And.intro F (And.intro (show h.size+2<=a from iH (bp a (i.FA (aD F) j))) (i.fp a (i.FA (aD F) j)));unfold XE at k;rcases l with _|_|_|_|_|_|_|l
  iterate 4 exact .inl ⟨G,b6 k⟩
  simp at k;subst k;simp at j;simp at k;subst k;simp at j;exact .inr (.inl ⟨rfl,j.symm⟩);simp at k;subst k;simp at j;exact .inr (.inr ⟨rfl,j.symm⟩);simp at k
 have aN:oQ q (c.size+2) 7 1 (XE d m n o dT (.arr c.size 0 0 d.fI.length false) (.arr (c.size+1) 0 0 d.d8.length false) []):=by
  refine⟨LG,by rw[A,ax rfl];rfl,λf C=>?_,λl K bT s b k bH a L M=>bT ?_⟩;have al:=λp a aA W (E: [(m,some (2,(ao d.fQ.length ()).map Ce)),(J (-1),none),(n,some (1,(ao d.fI.length false).map T.ej)),(o,some (3,(Dq d.d8.length).map ew.t))][p]? =D (a,some (aA,W)))=>(i.gr p E).mono (h':=q) λr bZ=>R r (i.fp r (i.FA (aD E) bZ));unfold XE at C;simp only[cz,cV,or_false]at C;rcases C with rfl|rfl|rfl|rfl|rfl|rfl|rfl
  exact⟨al 0 _ _ _ rfl,show(2:Nat)≠7 by decide⟩;show fa _=none;simp;exact⟨al 2 _ _ _ rfl,show(1:Nat)≠7 by decide⟩;exact⟨al 3 _ _ _ rfl,show(3:Nat)≠7 by decide⟩;exact⟨Gr.nil _ _,show(1:Nat)≠7 by decide⟩;exact⟨.inr ⟨c.size,0,0,true,_,V,by rw[A,aw G,aw G,ax rfl],V⟩,show(1:Nat)≠7 by decide⟩;exact⟨.inr ⟨c.size+1,0,0,true,_,V,by rw[A,aw G,ax rfl],V⟩,show(1:Nat)≠7 by decide⟩
  .rcases Q l s k a L with⟨a7,Z,dn,ds⟩|⟨a7,Z⟩|⟨a7,Z⟩<;>rcases Q K b bH a M with⟨r1,r2,r3,r4⟩|⟨r1,r2⟩|⟨r1,r2⟩<;>try omega
   exact Decidable.byContradiction λe=>i.dis l K e s b Z r2 a L M
 have X:∀a,Fp q (c.size+2) a->h.size+2<=a:=by
  rintro a (rfl|⟨x,I,v,aX,r⟩);omega;rw[aN.get]at I;cases I;simp only[ir,aV,cB,bJ,T.cells]at aX;obtain⟨f,bN,rfl⟩:=List.mem_map.1 aX;have⟨l,F,bS⟩:=List.mem_iff_getElem.1 bN;rcases Q l f (by rw[aF F,bS]) a r with⟨_,_,K,_⟩|⟨_,K⟩|⟨_,K⟩<;>omega
 have a8:Lb (c.size+2) q h.size (dU 6 0 [d.t]):=⟨(R _ G).trans a0,λr=>iH (X _ r)⟩;have b7:Lb (c.size+2) q (h.size+1) pX:=⟨(R _ G).trans a1,λr=>iH (X _ r)⟩;have cb:Step (c.size+2) h q:=⟨⟨LG.hp,LG.low,G⟩,λa j _=>(R a G).trans ((S a G).trans (c6 a j)),λa j=> .inr (iH (X a j))⟩;clear A Q O bs bu bA cv cL cX cp;refine gW d.cells.length G (λp w N=>(∃U a,oQ N (c.size+2) 7 U (XE d m n o a (.arr c.size 0 0 d.fI.length false) (.arr (c.size+1) 0 0 d.d8.length false) ((d.cells.take p).map ji.kH)))/\Step (c.size+2) q N/\TI.Y w 1=D (dY h.size)/\TI.Y w 2=D (dY (h.size+1))/\TI.Y w 3=D (dY (c.size+2))/\TI.Y w 4=D (J p)) ?_ ?_ G ⟨⟨_,_,aN⟩,Step.refl LG,V⟩;rintro p w N bW dm ⟨⟨U,a,i⟩,z,bC⟩;have B:=i.get;unfold XE at B;simp at B;have⟨ef,h',di,aE⟩:=(i.gr 4 rfl).mR (cx:=cx) (f:=T.int .i64) i.ok rO rfl Bb rfl V (λ_=>rfl) d.cells[p].kH dP;have⟨L,ec,M⟩:=i.app 4 rfl aE;have⟨av,ap⟩:=M _ rfl;unfold XE at L av ap;simp only[aR,bL,cS,cJ]at L av ap;simp[*,(a8.step z).get,fD,aE.1.iW,aE.1.cells];exact⟨⟨_,_,by unfold XE;rw[aT bW,List.map_append];exact ap⟩,z.trans av⟩;rintro w N ⟨⟨U,a,i⟩,z,bC⟩;rw[aM]at i;have B:=i.get;unfold XE at B;simp at B;have ae:=b7.step z;have bi:=ae.get;unfold pX at bi;have ca:=i.rx ae (dU 7 1 [.eQ [m,J (-1),n,o,a,.arr c.size 0 0 d.fI.length false,.arr (c.size+1) 0 0 d.d8.length false]]);have dk:(fF N (h.size+1) (dU 7 1 [.eQ [m,J (-1),n,o,a,.arr c.size 0 0 d.fI.length false,.arr (c.size+1) 0 0 d.d8.length false]])).get (h.size+1)=_:=(ez bi _ _).trans (ax rfl);simp[-List.map_replicate, *,(a8.step z).get,fD];exact⟨m,n,o,_,_,_,rfl,Tj.of ca (Step.rx i.ok ae _ h (cb.trans z) G) (λa j=>by
  rcases j with rfl|⟨x,I,_⟩;omega;have:=H.fN I;omega) (az _) λ_ _=>rfl⟩
end
noncomputable section
open Go Go.TI Tryz
noncomputable abbrev gN(a:Func)(b:Nat):rS:=gq cx a b false
noncomputable abbrev gK(a:Func)(b:Nat):rS:=gq cx a b true
def gO{b:aj}{a:Func}{d:Nat}{c:Bool}(e:prog.funcs[b]? =D a)(f:A5 ⟨a,d,c,none⟩=true:=by kernel_rfl):nh prog cx b (gq cx a d c):=akq jk iX e f
def g66:rS:=λ_ _ a b=>Cu ((.clone 2 16)) a b
def acH:nh prog cx 66 g66:=vd (tZ (fn:=f66) (t:=54) (tb:=4) (te:=E4) iX func66 dW dW dW dW dW dW dW)
def g67:rS:=λ_ _ a b=>Cu ((.clone 1 1)) a b
def acG:nh prog cx 67 g67:=vd (tZ (fn:=f67) (t:=34) (tb:=4) (te:=XJ) iX func67 dW dW dW dW dW dW dW)
def g68:rS:=λ_ _ a b=>Cu ((.clone 1 8)) a b
def acF:nh prog cx 68 g68:=vd (tZ (fn:=f68) (t:=39) (tb:=4) (te:=Dp) iX func68 dW dW dW dW dW dW dW)
def ag4:rS:=λ_ _ a b=>Cu ((.clone 3 24)) a b
def YN:nh prog cx 121 ag4:=vd (tZ (fn:=f121) (t:=35) (tb:=4) (te:=Ev) iX func121 dW dW dW dW dW dW dW)
def ag3:rS:=λ_ _ a b=>Cu (.qp) a b
def acM:(f275.name== "runtime.NumGoroutine")=false:=dW
def acL:f275.body.isNone=true:=dW
def acJ:Extern.findNext f275=none:=dW
def acK:Extern.find f275=D Extern.BytealgIndexByte.indexByte:=dW
def acI:H4 prog cx 275 .qp:= @Kf prog cx 275 f275 func275 acM acL acJ acK
def YM:nh prog cx 275 ag3:=vd acI
def qs:Tree rS:=(.fw (.fw (.fw (.fw (.fw (.fw (.fw (.fw .nil 7 (gN f7 7) .nil) 8 (gN f8 37086407215374335) .nil) 13 (gN f13 2105007) (.fw (.fw .nil 18 (gN f18 138478519) .nil) 19 (gN f19 35184372091469) .nil)) 20 (gN f20 127) (.fw (.fw (.fw .nil 21 (gN f21 2475880648186041451831757567) .nil) 22 (gN f22 7) .nil) 23 (gN f23 127) (.fw .nil 24 (gN f24 2270491528167423) .nil))) 25 (gN f25 2954892465099842490915138798468358981925535743) (.fw (.fw (.fw (.fw .nil 26 (gN f26 1125908631781503) .nil) 27 (gN f27 5508284103923639383255319264801237402987617783) .nil) 28 (gN f28 9241386564217587711) (.fw (.fw .nil 29 (gK f29 1048607) .nil) 35 (gN f35 829180818552508142370930303613581122868418894632663968482586879) .nil)) 39 (gN f39 40953575029616206113996799) (.fw (.fw (.fw .nil 48 (gN f48 1048607) .nil) 52 (gN f52 9223372036871623167) .nil) 53 (gN f53 4215) (.fw .nil 54 (gN f54 8796093286397) .nil)))) 55 (gN f55 19808249554385699031857790975) (.fw (.fw (.fw (.fw (.fw .nil 56 (gN f56 8864829278711) .nil) 57 (gN f57 9223389645163727807) .nil) 58 (gN f58 2417851783344448572752095) (.fw (.fw .nil 59 (gN f59 983087) .nil) 60 (gN f60 7725) .nil)) 61 (gN f61 332306998946231919705005790102318975) (.fw (.fw (.fw .nil 62 (gN f62 31) .nil) 63 (gN f63 16863) .nil) 64 (gN f64 137454944735) (.fw .nil 65 (gN f65 772424076352653274097095092108232752774234854811365887) .nil))) 66 (g66) (.fw (.fw (.fw (.fw .nil 67 (g67) .nil) 68 (g68) .nil) 69 (gN f69 633825300270344703797589335871) (.fw (.fw .nil 70 (gN f70 66483) .nil) 73 (gN f73 19) .nil)) 74 (gN f74 3) (.fw (.fw (.fw .nil 75 (gK f75 71) .nil) 76 (gN f76 11) .nil) 78 (gN f78 13215461614728367217751695970865548304603543200842114553566203007) (.fw .nil 87 (gN f87 79) .nil))))) 88 (gN f88 7231) (.fw (.fw (.fw (.fw (.fw (.fw .nil 89 (gN f89 18463641368405213903) .nil) 94 (gN f94 6434029281764525972148499167221040878727244754944919609542655) .nil) 95 (gN f95 95827739445721067874190659254502973333984266632037375) (.fw (.fw .nil 96 (gN f96 31) .nil) 101 (gN f101 9071038046463) .nil)) 102 (gN f102 17184194575) (.fw (.fw (.fw .nil 103 (gK f103 68723687231) .nil) 104 (gN f104 4504699140047487) .nil) 106 (gN f106 576460753379335951) (.fw .nil 107 (gN f107 9224506733391652861) .nil))) 108 (gN f108 4432473883133) (.fw (.fw (.fw (.fw .nil 110 (gN f110 19342850151455133005856767) .nil) 111 (gN f111 316913254556860716756833993695) .nil) 112 (gN f112 275) (.fw (.fw .nil 113 (gN f113 11) .nil) 114 (gN f114 8934607822903) .nil)) 115 (gN f115 479) (.fw (.fw (.fw .nil 116 (gN f116 67109327) .nil) 118 (gN f118 1238093369775042453301102031) .nil) 119 (gN f119 4196311) (.fw .nil 121 (ag4) .nil)))) 122 (gN f122 95) (.fw (.fw (.fw (.fw (.fw .nil 123 (gN f123 95) .nil) 124 (gN f124 4605278686335) .nil) 125 (gK f125 30783) (.fw (.fw .nil 133 (gK f133 2247) .nil) 134 (gN f134 2147484735) .nil)) 135 (gN f135 19) (.fw (.fw (.fw .nil 136 (gN f136 606826398900554784047567) .nil) 140 (gN f140 137506128175) .nil) 141 (gN f141 36051629065113551) (.fw .nil 146 (gN f146 19) .nil))) 147 (gN f147 1099511628339) (.fw (.fw (.fw (.fw .nil 148 (gN f148 18889470444974887141823) .nil) 149 (gN f149 332312079452150195464880550324504575) .nil) 150 (gN f150 4330618893) (.fw .nil 151 (gN f151 131635) .nil)) 154 (gN f154 348794743007212715313826391199890521722863) (.fw (.fw (.fw .nil 155 (gN f155 12259964349774246101165194645239424850975965214878597119) .nil) 160 (gN f160 19) .nil) 162 (gN f162 33587517) (.fw .nil 163 (gN f163 4101) .nil)))))) 164 (gN f164 21853) (.fw (.fw (.fw (.fw (.fw (.fw (.fw .nil 165 (gN f165 37396817117309) .nil) 166 (gN f166 51) .nil) 167 (gN f167 40536831200067837) (.fw (.fw .nil 168 (gN f168 72128100255664255) .nil) 169 (gN f169 1242795222330225588904675325) .nil)) 170 (gN f170 1237940043933112819970491391) (.fw (.fw (.fw .nil 171 (gN f171 1053) .nil) 172 (gN f172 151115745466229840684019) .nil) 174 (gK f174 18191) (.fw .nil 175 (gN f175 365376106316094180278949616271352870286206697499) .nil))) 176 (gN f176 10633824283312870803151638865622599647) (.fw (.fw (.fw (.fw .nil 177 (gN f177 463) .nil) 178 (gN f178 35315368591455) .nil) 179 (gN f179 19) (.fw (.fw .nil 180 (gN f180 606826398900554784047567) .nil) 181 (gN f181 5868843906288553182383292937158044313155908148351) .nil)) 185 (gK f185 5575) (.fw (.fw (.fw .nil 186 (gN f186 29) .nil) 188 (gN f188 5) .nil) 189 (gN f189 131613) (.fw .nil 190 (gN f190 5) .nil)))) 191 (gN f191 11161304336780981658631819976322344575566047) (.fw (.fw (.fw (.fw (.fw .nil 192 (gN f192 4362601011) .nil) 193 (gN f193 19) .nil) 194 (gK f194 2097183) (.fw (.fw .nil 195 (gN f195 1182933510117985879039) .nil) 197 (gN f197 19) .nil)) 198 (gN f198 19) (.fw (.fw (.fw .nil 199 (gN f199 5) .nil) 200 (gN f200 35500589085) .nil) 201 (gN f201 5) (.fw .nil 202 (gN f202 1125908496810045) .nil))) 203 (gN f203 262565) (.fw (.fw (.fw (.fw .nil 204 (gN f204 541) .nil) 205 (gN f205 328307) .nil) 206 (gN f206 1574131) (.fw (.fw .nil 207 (gN f207 275) .nil) 208 (gN f208 529021) .nil)) 209 (gN f209 1125902054326279) (.fw (.fw (.fw .nil 210 (gN f210 32909) .nil) 211 (gN f211 262707) .nil) 212 (gN f212 262707) (.fw .nil 213 (gN f213 14474012017383023515249485065460760621927424225494418519668988771800801378299) .nil))))) 214 (gN f214 36893488147419136123) (.fw (.fw (.fw (.fw (.fw (.fw .nil 218 (gN f218 20282409606012871684182924853463) .nil) 219 (gN f219 158456325028530997355645763711) .nil) 220 (gN f220 1037) (.fw (.fw .nil 221 (gN f221 1099578740959) .nil) 222 (gN f222 7) .nil)) 237 (gK f237 20426010943356750102455122975) (.fw (.fw (.fw .nil 238 (gN f238 1) .nil) 241 (gN f241 5) .nil) 242 (gK f242 262175) (.fw .nil 243 (gK f243 9904163146420522906957187071) .nil))) 249 (gN f249 19) (.fw (.fw (.fw (.fw .nil 250 (gN f250 2293) .nil) 251 (gN f251 2149585011) .nil) 252 (gN f252 526461) (.fw (.fw .nil 253 (gN f253 8606909437) .nil) 254 (gN f254 182687706027492332498828539273953093013162958911) .nil)) 255 (gN f255 70368744310543) (.fw (.fw (.fw .nil 256 (gN f256 83) .nil) 257 (gN f257 33688639) .nil) 258 (gN f258 4196847) (.fw .nil 260 (gN f260 1049655) .nil)))) 270 (gN f270 5) (.fw (.fw (.fw (.fw (.fw .nil 275 (ag3) .nil) 276 (gN f276 8211) .nil) 280 (gN f280 131527) (.fw (.fw .nil 281 (gN f281 563501857374451) .nil) 282 (gN f282 2863311549) .nil)) 283 (gN f283 18483898770635358239) (.fw (.fw (.fw .nil 284 (gN f284 7) .nil) 285 (gN f285 99132251962343631) .nil) 286 (gN f286 8703) (.fw .nil 287 (gN f287 8590200303) .nil))) 295 (gN f295 594912002450663878599) (.fw (.fw (.fw (.fw .nil 297 (gN f297 13) .nil) 302 (gN f302 32819) .nil) 305 (gN f305 132109) (.fw .nil 308 (gN f308 749019592093908130998168547243562859198691857383367) .nil)) 313 (gN f313 72339071195682803) (.fw (.fw (.fw .nil 322 (gN f322 8407165) .nil) 323 (gN f323 2101491) .nil) 325 (gN f325 9224502335110254589) (.fw .nil 326 (gN f326 715827901) .nil)))))))
def afH:qs.Xu λa b=>nh prog cx a b:=by
 unfold qs
 repeat' first|exact .nil|exact gO dW|exact acH|exact acG|exact acF|exact YN|exact YM|refine .fw ?_ ?_ ?_
def Lt:∀a b,(λa=>qs.find a) a=D b->nh prog cx a b:=λa b c=>afH.find c
end
noncomputable section
open Go Go.TI Tryz
attribute [-simp] List.map_take List.map_drop List.map_append ij fU fH Bool.not_or Bool.not_and
def ko:fJ:=⟨[⟨[120],0,0,false,0⟩,⟨[121],0,0,false,1⟩,⟨[118],0,0,true,0⟩,⟨[113],0,2,false,0⟩,⟨[113],1,2,false,0⟩],[⟨[109],false⟩,⟨[110],false⟩,⟨[114],true⟩],[⟨[99],0⟩],[[102]],[[109,97,105,110],[116,49],[116,50],[116,51]],
 [⟨0,0,1⟩,⟨0,1,2⟩,⟨0,2,3⟩,⟨0,3,4⟩,⟨0,4,5⟩,⟨0,5,6⟩,⟨1,0,11⟩,⟨1,1,12⟩,⟨1,2,13⟩,⟨1,3,14⟩,⟨1,4,15⟩,⟨1,5,16⟩,⟨2,0,21⟩,⟨2,1,22⟩,⟨2,2,23⟩,⟨2,3,24⟩,⟨2,4,25⟩,⟨2,5,26⟩,⟨3,0,31⟩,⟨3,1,32⟩,⟨3,2,33⟩,⟨3,3,34⟩,⟨3,4,35⟩,⟨3,5,36⟩]⟩
def aba:∀a b,(λa=>(Tree.fw .nil 44 (gN f44 81788943) .nil).find a) a=D b->nh prog cx a b:=λa b c=>(Tree.Xu.fw .nil (gO func44) .nil).find c
def RM:mT prog cx 44 [] ko.t:=Ct (mI _ dW) (EX aba 10000 _ _ _ _ _ dW)
def JJ:iE:=⟨Unit,λ_=>[],λ_=>True,λ_=>ko.t,λ_ _ _=>rfl⟩
def UE:JJ.Ok prog cx 44:=λ_ _=>RM
def QT{a:ik}(ht:a.p 44=D JJ):rl prog cx a 44 []=D ko.t:=iF ht UE () trivial
def NQ:li ko=true:=by decide+kernel
def yT(e:Nat)(a:List Int)(c:Nat)(d:H):Prop:=∃f b,d.get c=D (dU 2 f [.eQ [sl (a.map (T.int .u8)),J b]])/\((min e a.length:Nat):Int)<=b
def yT.tp{e:Nat}{a:List Int}{b:Nat}{c:H}(g:yT e a b c):Tp a b c:=by obtain⟨h,f,d,i⟩:=g;exact⟨h,f,d,G⟩
def yT.eq{e:Nat}{b:List Int}{a:Nat}{c d:H}(j:yT e b a c)(h:d.get a=c.get a):yT e b a d:=by obtain⟨k,i,g,f⟩:=j;exact⟨k,i,h▸g,f⟩
def yT.le{d e:Nat}{a:List Int}{b:Nat}{c:H}(g:yT d a b c)(k:e<=d):yT e a b c:=by obtain⟨h,i,f,j⟩:=g;exact⟨h,i,f,G⟩
structure Pw where
 (L:List Int) (b p:Nat) (n:Int)
def Lx(a:Pw)(d:List T)(c:H):Prop:=d=[dY a.b,J a.n]/\yT a.p a.L a.b c/\iS 0 c/\1<=a.n/\a.n<=100/\okB a.L
def RP(a:Pw)(g:List T)(e:H)(f:T)(c:H):Prop:=∃d:Nat,f= J d/\(d:Int)<a.n/\yT (a.p+1) a.L a.b c/\Sm a.b e c
abbrev mv:mU:=jS Pw Lx RP
def Yg:mv.Ok prog cx 91:=by
 refine jz (tb:=⟨pt [],ht []⟩) jk iX (js 262163 [] func91) (λ_ _=>5) (λC a h v=>by obtain⟨rfl,_⟩:=v;simp[f91]) ?_;rintro⟨b,e,E,f⟩ _ h ⟨rfl,⟨i,d,g,w⟩,m,t,u,o,l⟩ F p
 dsimp at g w t u o l
 simp at p;simp[*,f91];refine fG (λj=>?_) (λj=>?_);simp at j;simp;exact⟨0,V,dQ,⟨i,d,by rw[iA,iI];exact g,dQ⟩,Sm.out (Sm.refl m.hr)⟩;simp at j;have H:IntKind.i64.wrap (d+1)=d+1:=by rw[<-kz];exact kI G G
 have I:IntKind.i64.wrap d=d:=by rw[<-kz];exact kI G G
 have y:Sm e (hr h) _:=(Sm.refl m.hr).put (x:=(dU 2 i [.eQ [sl (b.map (T.int .u8)),J d]])) (by rw[iI];exact g) (dU 2 (i+1) [.eQ [sl (b.map (T.int .u8)),J (d+1)]]);have n:(fF (hr h) e (dU 2 (i+1) [.eQ [sl (b.map (T.int .u8)),J (d+1)]])).get e=_:=(ez (h:=hr h) (by rw[iI];exact g) _ e).trans (ax rfl);simp[*,qI,fD];generalize fF (hr h) e _=z at*
 obtain⟨c,rfl⟩:∃c:Nat,d=c:=⟨d.toNat,G⟩;have r:c<b.length:=G;have q:=l b[c] (aH r);have A: -9223372036854775808<=b[c]:=G;have B:b[c]<9223372036854775808:=G;have t0:=Int.tmod_nonneg f q.1;have t1:=Int.tmod_lt_of_pos b[c] (show 0<f by omega);simp[*,tv,Gf (a:=b[c]) (show¬f=0 by omega)];have⟨k,s⟩:∃k:Nat,b[c].tmod f=k:=⟨(b[c].tmod f).toNat,G⟩;exact⟨k,by rw[s],dQ,⟨_,_,by rw[iA];exact n,dQ⟩,Sm.out y⟩
structure wE(p:Nat)(L:List Int)(b:Nat)(h h':H):Prop where
 w:Tw L b h h'
 g:yT p L b h'
def wE.refl{d:Nat}{b:List Int}{c:Nat}{a:H}(f:iS 0 a)(e:yT d b c a):wE d b c a a:=⟨Tw.refl f e.tp,e⟩
def wE.le{e f:Nat}{a:List Int}{b:Nat}{c d:H}(h:wE e a b c d)(i:f<=e):wE f a b c d:=⟨h.w,h.g.le i⟩
theorem wE.cons{e:Nat}{a:List Int}{b:Nat}{c d:H}(w:wE e a b c d)(f:jI):wE e a b c (d.cons f):=⟨w.w.cons f,w.g.eq (by rw[fg,aw (iH w.w.tp.lt)])⟩
theorem wE.put{h:Nat}{e:List Int}{b:Nat}{a d:H}(i:wE h e b a d){c:Nat}{x:jI}(f:d.get c=D x)(l:a.size<=c)(k:b<a.size)(j:jI):wE h e b a (fF d c j):=⟨i.w.put f l k j,i.g.eq (by rw[ez f,aw G])⟩
def wE.call{h f:Nat}{b:List Int}{a:Nat}{d e c:H}(j:wE h b a d e)(i:Sm a e c)(g:yT f b a c):wE f b a d c:=⟨j.w.call i g.tp,g⟩
def wE.cut{h:Nat}{e:List Int}{c:Nat}{a b:H}(d:wE h e c (TI.hr a) b)(p:iS 0 a)(f:c<a.size){j l:T}{i:T->H->Prop}(m:∃k,j4 b a.size j=D k/\cn k=l)
 (o:Sm c a (yo a b)->yT h e c (yo a b)->i l (yo a b)):BY a j b i:=d.w.cut p f m λq _=>o q (d.g.eq (CZ d.w.ok.hp d.w.size f))
def Vw{tb:ik}{g:Nat}{e:List Int}{a:Nat}{c:H}(ht:tb.h 91=D mv)(s:yT g e a c)(n:iS 0 c)(m:okB e)(b:Int)(k:1<=b)(l:b<=100):∃(f:Nat) (d:H),hl prog cx tb 91 [dY a,J b] c=D (J f,d)/\(f:Int)<b/\yT (g+1) e a d/\Sm a c d:=by have i:Lx ⟨e,a,g,b⟩ [dY a,J b] c:=⟨rfl,s,n,k,l,m⟩;have⟨_,d,j,o⟩:=Ja ht Yg ⟨_,i⟩;obtain⟨f,rfl,p,q,r⟩:=o _ i;exact⟨f,d,j,p,q,r⟩
def Aa:List Int:=[3,3,3,3,3,4,4,4,4,4,5,5,5,6,6,6,7,7,7,8,9,10,11,12,13,14,14,15,16,16,17,17,18,18,19,20,1,1,2,21,22,23,23]
def xY:iE:=⟨Unit,λ_=>[],λ_=>True,λ_=>sl (Aa.map (T.int .i64)),λ_ _ _=>rfl⟩
def Yn:xY.Ok prog cx 142:=by refine iz [] (js 1 [] func142) (λ_=>5) (by simp[xY]) ?_;rintro _ _ b a;simp[xY]at a|-;simp[f142,iU,Aa]
def _root_.Go.TI.Xt.EN{d b:H}{f g:T}{e:Nat}{c:List T}(a:Xt d f e c g b):iS 0 b:=⟨a.2.2.2.hp,a.2.2.2.low,aB _⟩
def _root_.Go.TI.Xt.Zw{i e:H}{j k:T}{d:List Int}(c:Xt i j 1 (d.map (T.int .i64)) k e)(g:Int)(m:d.length<=1000000):∃a b,ju cx (e.cons (dU 1 0 [J g])) 39 39 k (.arr e.size 0 0 1 false)=be a b/\a.iW/\a.cells=[a]/\Xt i j 1 ((d++[g]).map (T.int .i64)) a b:=by have⟨a,b,l,h⟩:=c.1.mR (cx:=cx) (f:=T.int .i64) c.EN kE rfl nc rfl V (λ_=>rfl) g dP;exact⟨a,b,l,h.1.iW,h.1.cells,c.trans h⟩
def Cz:pI prog cx 187 (λa:gh=>[a.t]) (λa=>a.gH.d8.length<=1000) (λa y=>∃n:List Int,y=sl (n.map (T.int .i64))/\n.length<=a.gH.d8.length):=by
 refine j2 [] (js 134975 [] func187) (λa=>a.gH.d8.length+5) (λA b e=>by simp at e;exact gh.inj e) ?_;rintro a hl d l;simp at l;simp[f187,l];generalize k:H.cons hE _=i;have p:i.get 0=D (dU 7 0 [a.t]):=by subst k;simp
 have j:iS 1 i:=by subst k;exact⟨V,V,V⟩
 refine gW a.gH.d8.length G (λg d e=>TI.Y d 1=D (dY 0)/\TI.Y d 8=D (sl (a.gH.d8.map ew.t))/\TI.Y d 9=D (J a.gH.d8.length)/\TI.Y d 10=D (J g)/\∃(h:T) (f:List Int),TI.Y d 3=D h/\Xt i dT 1 (f.map (T.int .i64)) h e/\f.length<=g) ?_ ?_ G ⟨V,V,V,V,dT,[],V,Xt.refl (Gr.nil _ _) ⟨j.hp,j.low,aB _⟩,az _⟩;rintro g d e F E ⟨r,v,w,s,h,f,u,c,m⟩;have N:=j.sz;have B:=(c.2.1 0 G V).trans p;have o:iS 1 e:=⟨c.2.2.2.hp,c.2.2.2.low,iH c.2.2.2.sz⟩;have I:=o.ne (b:=0) G;simp[*,o.low];refine fG (λx=>?_) (λx=>?_);have⟨M,C,q,K,L,z⟩:=(c.cons (dU 3 1 [a.gH.d8[g].t])).Zw g G;rw[size_cons]at q;simp[*];exact⟨_,z,dP⟩;simp[*];exact⟨_,c.cons _,G⟩;rintro d e ⟨r,v,w,s,h,f,u,c,m⟩;simp[*,c.1.iW,c.1.qY V,c.2.2.2.hp];exact⟨f,rfl,m⟩
structure E2 where
 (L:List Int) (b p:Nat) (v:T) (ns:List Int)
def x7(a:E2)(d:List T)(c:H):Prop:=d=[dY a.b,a.v]/\Gr c a.v 1 (a.ns.map (T.int .i64))/\fa a.v≠some a.b/\yT a.p a.L a.b c/\iS 0 c/\okB a.L/\a.ns.length<=1000
def xm(a:E2)(g:List T)(e:H)(f:T)(c:H):Prop:=∃d:List Int,f=sl (d.map (T.int .i64))/\d.length<=a.ns.length/\yT a.p a.L a.b c/\Sm a.b e c
def wE.xt{m:Nat}{k:List Int}{b:Nat}{c e f:H}{n t:T}{s:Nat}{o:List T}(d:wE m k b c e)(j:Xt e n s o t f)(q:∀a,fa n=D a->c.size<=a)(l:b<c.size):wE m k b c f:=by have u:=d.w.size;have i:∀a,a<c.size->f.get a=e.get a:=λa h=>j.2.1 a G λr=>iH (q a r);exact⟨⟨j.EN,iH j.2.2.2.sz,λa h p=>(i a h).trans (d.w.get a h p),d.w.tp.eq (i b l)⟩,d.g.eq (i b l)⟩
def _root_.Go.TI.FT.ajq{c:H}{o:Nat->Prop}{g p:Nat}(l:p<=12)(s:∀a,o a->g<=a){b n:T}(ft:FT c o p b n)(r:∀i,b≠ .eQ i)(w:∀i,b≠ .tuple i):∃k,j4 c g b=D k/\cn k=n:=by
 have q:=(ft.deep l).fzN s;have u:(Z (jA c 0 b) λb=>some (cn b))=D n:=(ft.deep l).fz;have v:j4 c g b=jA c 0 b:=by
  rcases ft.deep l with⟨z,m,rfl⟩|⟨a,d,h,f,e,C,E,rfl,y,F,x,rfl⟩|⟨i,B,rfl,x,rfl⟩;cases b<;>first|exact(r _ rfl).elim|exact q|(simp[kT]at z)|exact(w _ rfl).elim
  have m:∀j,jA c j (.arr a d h f e)=(Bool.casesOn (Nat.ble j a) (some (.arr a d h f e)) (TI.freeze c j 12 (.arr a d h f e)):aa T):=λj=>rfl;show jA c g (.arr a d h f e)=jA c 0 (.arr a d h f e);rw[m,m,show Nat.ble g a=true from cE (s a y),show Nat.ble 0 a=true from cE (aB a),q];exact absurd rfl (r _)
 rw[<-v]at u;have⟨k,A,t⟩:=ed.1 u;simp[ay]at t;exact⟨k,A,t⟩
def AQ{c g h:Type}{d:g->h->Prop}{e:c->g}{f:c->h}{a:List c}(i:∀b,d (e b) (f b)):jr d (a.map e) (a.map f):=by
 induction a with
 |nil=>exact .nil
 |cons b a j=>exact .cons (i b) j
def _root_.Go.TI.Gr.afr{l:Type}{a:l->T}{b:H}{h:T}{s g d:Nat}{j:List l}(f:Gr b h s (j.map a))(v:d<=11)(q:∀i,fa h=D i->g<=i)(p:∀c b Vq,FT b Vq d (a c) (a c)):∃k,j4 b g h=D k/\cn k=sl (j.map a):=
 (f.ft (Vq:=λe=>g<=e) (d:=d) q (AQ λc=>p c _ _)).ajq G (λ_ r=>r) (λm=>by rcases f with⟨rfl,_⟩|⟨e,n,t,o,u,rfl,_⟩<;>simp) (λm=>by rcases f with⟨rfl,_⟩|⟨e,n,t,o,u,rfl,_⟩<;>simp)
def abU:(jS E2 x7 xm).Ok prog cx 145:=by
 refine uB (tb:=⟨pt [],ht [(91,mv)]⟩) jk iX (js 16781299 [] func145) (λ_ _=>1005) (λi a m aX=>by obtain⟨rfl,_⟩:=aX;simp[f145]) ?_;rintro⟨X,p,U,I,z⟩ _ m ⟨rfl,v,R,F,S,O,hl⟩ e y
 dsimp at v R F O hl
 simp at y;have P:=F.tp.lt;simp[f145,y,v.len];refine gW z.length G (λi e q=>TI.Y e 0=D (dY p)/\TI.Y e 1=D I/\TI.Y e 8=D I/\TI.Y e 9=D (J z.length)/\TI.Y e 10=D (J i)/\wE U X p (TI.hr m) q/\∃(h:T) (l:List Int),TI.Y e 5=D h/\Gr q h 1 (l.map (T.int .i64))/\(∀b,fa h=D b->m.size<=b)/\l.length<=i) ?_ ?_ G ⟨by simp[y],by simp[y],V,V,V,wE.refl S.hr (F.eq (iI m p)),_,[],V,Gr.nil _ _,V,az _⟩;rintro i e q Q E ⟨r,s,u,o,n,j,h,l,t,go,f,aE⟩;have N:Gr q I 1 (z.map (T.int .i64)):=v.mono λb c=>by
  have⟨_,_,_,_,A,_⟩:=v.box c;exact(j.w.get b (H.fN A) λC=>R (C▸c)).trans (iI m b)
 have⟨bn,bp,bS,bs,bT,_,al,ap,L⟩:=N.CI (te:=Dp) rfl (i:=i) (iD Q);have ae:binop .add (J (i:Int)) (J 3)=D (J ((i:Int)+3)):=jf G G;simp at L;simp[r,s,u,o,n,Q,al,ap,L,ae,N.len];have⟨k,av,an,bA,t2,W⟩:=Vw (tb:=⟨pt [],ht [(91,mv)]⟩) V j.g j.w.ok O 2 G G;refine adH (λc=>?_) (λc=>?_);simp[an,c];refine⟨_,_,⟨rfl,rfl⟩,?_⟩;have B:=(j.call W t2).le (Nat.le_succ U);have aN:fa h≠some p:=λA=>iH (f p A);have M:Gr av h 1 (l.map (T.int .i64)):=go.mono λb c=>W.get b λC=>aN (C▸c);simp;refine fG (λaA=>?_) (λaA=>?_);have⟨bN,bu,Z,bC,bH,K⟩:=(Xt.refl M B.w.ok).Zw z[i] G;simp[r,s,t,u,o,n,Z,E];exact⟨B.xt K f P,_,K.1,λb c=>(K.2.2.1 b c).elim (f b) λA=>by have:=B.w.size;simp at this;omega,dP⟩;simp[r,s,t,u,o,n,E];exact⟨B,_,M,f,G⟩;simp[c];refine⟨_,_,⟨rfl,rfl⟩,?_⟩;simp[r,s,t,u,o,n,E];exact⟨j,_,go,f,G⟩;rintro e q ⟨r,s,u,o,n,j,h,l,t,go,f,aE⟩;simp[t,o,n];exact j.cut S P (go.afr (d:=1) G f λx m bi=>iL ..) λa7 a8=>⟨l,rfl,dQ,a8,a7⟩
structure ZI where
 (L:List Int) (b p:Nat) (x0 x1 x2 x3 x4 x5 v:T) (K:List Int)
def tL(a:ZI)(d:List T)(c:H):Prop:=d=[dY a.b,.eQ [a.x0,a.x1,a.x2,a.x3,a.x4,a.x5,a.v]]/\yT a.p a.L a.b c/\iS 0 c/\okB a.L/\a.K.length<=98/\Gr c a.v 1 (a.K.map (T.int .i64))/\fa a.v≠some a.b/\(T.eQ [a.x0,a.x1,a.x2,a.x3,a.x4,a.x5,a.v]).iW=true
def qM(a:ZI)(g:List T)(e:H)(f:T)(d:H):Prop:=∃c:Int,f= J c/\-1<=c/\c<a.K.length/\yT a.p a.L a.b d/\Sm a.b e d
def Ah{g:Nat}{d:List Int}{c:Nat}{a b:H}(l:wE g d c (TI.hr a) b)(k:iS 0 a)(i:c<a.size){e:ak}{f:Int}{h:T->H->Prop}
 (j:Sm c a (yo a b)->yT g d c (yo a b)->h (.int e f) (yo a b)):BY a (.int e f) b h:=l.cut k i ⟨_,rfl,rfl⟩ j
def Qf:(jS ZI tL qM).Ok prog cx 92:=by
 refine uB (tb:=⟨pt [],ht [(91,mv)]⟩) jk iX (js 4194363 [] func92) (λ_ _=>5) (λi Z b Q=>by obtain⟨rfl,_⟩:=Q;simp[f92]) ?_;rintro⟨C,h,z,m,n,o,p,q,r,j,a⟩ _ b ⟨rfl,k,y,u,hl,d,x,I⟩ bs L
 dsimp at k u hl d x I
 simp at L;have M:=k.tp.lt;have aX:(h=b.size)=False:=dP;have l:=(wE.refl y.hr (k.eq (iI b h))).cons (dU 7 0 [.eQ [m,n,o,p,q,r,j]]);have⟨c,t,ap,a7,t2,A⟩:=Vw (tb:=⟨pt [],ht [(91,mv)]⟩) V l.g l.w.ok u (a.length+2) G G;have B:=(l.call A t2).le (Nat.le_succ z);have aE:=(A.get b.size G).trans (by rw[fg,qq,ax rfl]);have ae:binop .add (J (a.length:Int)) (J 2)=D (J ((a.length:Int)+2)):=jf G G;have fin:∀f:Int,-1<=f->f<a.length->BY b (J f) t (qM ⟨C,h,z,m,n,o,p,q,r,j,a⟩ [dY h,.eQ [m,n,o,p,q,r,j]] b):=λf S U=>Ah B y M λW Y=>⟨f,rfl,S,U,Y,W⟩;have bn:=d.cells;have bi:=d.len (cx:=cx);by_cases a8:(c:Int)-2<0;have X:binop .sub (J (c:Int)) (J 2)=D (J ((c:Int)-2)):=Ey rfl G G;simp[*,f92];exact fin _ G G;have⟨e,P⟩:∃e:Nat,(c:Int)-2=e:=⟨c-2,G⟩;have X:binop .sub (J (c:Int)) (J 2)=D (J (e:Int)):=Ey P G G;have O:e<a.length:=G;have K:Gr t j 1 (a.map (T.int .i64)):=d.mono λs v=>by
  have⟨_,_,_,_,R,_⟩:=d.box v;have:=H.fN R;exact(B.w.get s (iD this) λE=>x (E▸v)).trans (iI b s)
 have⟨al,av,bp,aA,bu,_,an,aN,F⟩:=K.CI (te:=Dp) rfl (i:=e) (iD O);simp at F;simp[*,f92];refine fG (λN=>?_) (λN=>?_);simp;exact fin _ G G;simp;exact fin _ G G 
def wE.next{tb:ik}{k:Nat}{e:List Int}{c:Nat}{j f:H}(i:wE k e c j f)(ht:tb.h 91=D mv)(o:okB e)(b:Int)(n:1<=b)(a:b<=100):
 ∃(d:Nat) (a:H),hl prog cx tb 91 [dY c,J b] f=D (J d,a)/\(d:Int)<b/\wE (k+1) e c j a/\Sm c f a:=by
 obtain⟨d,a,m,p,t2,l⟩:=Vw ht i.g i.w.ok o b n a;exact⟨d,a,m,p,i.call l t2,l⟩
structure Nm where
 (L:List Int) (b p:Nat) (k t:Int)
def DO(a:Nm)(d:List T)(c:H):Prop:=d=[dY a.b,J a.k,J a.t]/\yT a.p a.L a.b c/\iS 0 c/\okB a.L/\0<=a.t/\a.t<4/\1<=a.k/\a.k<=23
def wu(a:Nm)(g:List T)(e:H)(f:T)(d:H):Prop:=∃c:Int,f= J c/\-1<=c/\(a.k=3\/a.k=4->0<=c/\c<5)/\yT a.p a.L a.b d/\Sm a.b e d
def af2:(jS Nm DO wu).Ok prog cx 143:=by
 refine uB (tb:=⟨pt [],ht [(91,mv)]⟩) jk iX (js 8659206599 [] func143) (λ_ _=>5) (λP a e F=>by obtain⟨rfl,_⟩:=F;simp[f143]) ?_;rintro⟨l,b,i,c,f⟩ _ e ⟨rfl,s,n,u,I,K,C,E⟩ Q v
 dsimp at s u I K C E
 simp at v;have w:=s.tp.lt;have g:=wE.refl n.hr (s.eq (iI e b));have m:=λ{h:H} (g:wE i l b (TI.hr e) h)=>g.next (tb:=⟨pt [],ht [(91,mv)]⟩) V u;have fin:∀(h:H) (d:Int),wE (i+1) l b (TI.hr e) h->-1<=d->(c=3\/c=4->0<=d/\d<5)->BY e (J d) h (wu ⟨l,b,i,c,f⟩ [dY b,J c,J f] e):=λh d g o O=>Ah (g.le (Nat.le_succ i)) n w λp r=>⟨d,rfl,o,O,r,p⟩;by_cases y:c=3\/c=4;obtain⟨k,z,t,x,j,q⟩:=m (g.cons (dU 1 0 [J 0,J 0,J 0,J 1,J 1,J 2,J 3,J 4])) 8 G G;have B:=(q.get e.size G).trans (by rw[fg,qq,ax rfl]);rcases y with rfl|rfl<;>simp[*,f143]<;>rcases(by omega:k=0\/k=1\/k=2\/k=3\/k=4\/k=5\/k=6\/k=7)with rfl|rfl|rfl|rfl|rfl|rfl|rfl|rfl<;>simp[B]<;>exact fin _ _ j G G;by_cases M:c=6\/c=7;obtain⟨k,z,t,x,j,q⟩:=m g 2 G G;rcases M with rfl|rfl<;>simp[*,f143]<;>exact fin _ _ j G G;by_cases L:c=20\/c=21;obtain⟨k,z,t,x,j,q⟩:=m g 3 G G;have a1:binop .add (J f) (J 1)=D (J (f+1)):=Db rfl G G;have a2:binop .add (J (f+1)) (J (k:Int))=D (J (f+1+k)):=Db rfl G G;have a3:=Gf (k:= .i64) (a:=f+1+k) (b:=4) G;have t0:=Int.tmod_nonneg 4 (show 0<=f+1+k by omega);rcases L with rfl|rfl<;>simp[*,f143]<;>exact fin _ _ j G G;have A:∀d:Int,-1<=d->BY e (J d) (TI.hr e) (wu ⟨l,b,i,c,f⟩ [dY b,J c,J f] e):=λd o=>Ah g n w λp r=>⟨d,rfl,o,λN=>(y N).elim,r,p⟩;rcases(by omega:c=1\/c=2\/c=5\/c=8\/c=9\/c=10\/c=11\/c=12\/c=13\/c=14\/c=15\/c=16\/c=17\/c=18\/c=19\/c=22\/c=23)with rfl|rfl|rfl|rfl|rfl|rfl|rfl|rfl|rfl|rfl|rfl|rfl|rfl|rfl|rfl|rfl|rfl<;>simp[f143,v]<;>exact A _ G 
structure Nk where
 (L:List Int) (b p:Nat) (s:gh) (k o:Int)
def DM(a:Nk)(d:List T)(c:H):Prop:=d=[dY a.b,a.s.t,J a.k,J a.o]/\yT a.p a.L a.b c/\iS 0 c/\okB a.L/\(a.k=3->0<=a.o/\a.o<a.s.cells.length)/\1<=a.s.fI.length/\a.s.gH.d8.length<=98
def wt(a:Nk)(g:List T)(d:H)(e:T)(c:H):Prop:=∃f:Int,e= J f/\yT a.p a.L a.b c/\Sm a.b d c
def adh{tb:ik}(ht:tb.p 187=D Cz.jV){s:gh}(c:s.gH.d8.length<=1000):∃a:List Int,a.length<=s.gH.d8.length/\rl prog cx tb 187 [s.t]=D (sl (a.map (T.int .i64))):=by obtain⟨_,⟨a,rfl,hl⟩,b⟩:=Cz.use s c;exact⟨a,hl,b ht⟩
def afW:(jS Nk DM wt).Ok prog cx 144:=by
 refine uB (tb:=⟨pt [(187,Cz.jV)],ht [(91,mv)]⟩) jk iX (js 141296388017967 [] func144) (λ_ _=>5) (λi a c W=>by obtain⟨rfl,_⟩:=W;simp[f144]) ?_;rintro⟨o,d,m,s,b,h⟩ _ c ⟨rfl,A,x,C,r,R,X⟩ an e
 dsimp at A C r R X
 simp at e;have E:=A.tp.lt;have n:=(wE.refl x.hr (A.eq (iI c d))).cons (dU 7 0 [s.t]);have p:=n.next (tb:=⟨pt [(187,Cz.jV)],ht [(91,mv)]⟩) V C;have k:∀f:Int,BY c (J f) _ (wt ⟨o,d,m,s,b,h⟩ [dY d,s.t,J b,J h] c):=λf=>Ah n x E λy z=>⟨f,rfl,z,y⟩;have fin:∀(q:H) (f:Int),wE (m+1) o d (TI.hr c) q->BY c (J f) q (wt ⟨o,d,m,s,b,h⟩ [dY d,s.t,J b,J h] c):=λq f n=>Ah (n.le (Nat.le_succ m)) x E λy z=>⟨f,rfl,z,y⟩;have al:(d=c.size)=False:=dP;by_cases v:b=3;obtain⟨w,T⟩:∃w:Nat,h=w:=⟨h.toNat,iH (r v)⟩;have U:w<s.cells.length:=iH (r v);subst v;subst T;simp[f144,e,U];exact k _;by_cases Y:b=23;subst Y;simp[f144,e,show 0<s.fI.length by omega];exact k _;by_cases Z:b=4\/b=22;obtain⟨u,L,j,F,l,K⟩:=p 3 G G;rcases Z with rfl|rfl<;>simp[f144,e,j]<;>exact fin _ _ l;by_cases ae:b=5;obtain⟨u,L,j,F,l,K⟩:=p 2 G G;subst ae;simp[f144,e,j];exact fin _ _ l;have O:decide (b=3)=false:=aS G;have N:decide (b=23)=false:=aS G;have P:decide (b=4)=false:=aS G;have M:decide (b=22)=false:=aS G;have Q:decide (b=5)=false:=aS G;obtain⟨I,hl,B⟩:=adh (tb:=⟨pt [(187,Cz.jV)],ht [(91,mv)]⟩) V (s:=s) G;simp[f144,e,O,N,P,M,Q];refine fG (λg=>?_) (λg=>?_);simp[B];refine fG (λg=>?_) (λg=>?_);obtain⟨u,L,j,F,l,K⟩:=p I.length (by simp at g;omega) G;have S:u<I.length:=G;simp[e,j,S];exact fin _ _ l;simp;exact k _;simp;refine fG (λg=>?_) (λg=>?_);simp[B];exact k _;simp;exact k _
section
def _root_.Go.TI.oQ.copy{h a:H}{i w0 g q k:Nat}{c:List (T×aa (Nat×List T))}(f:oQ h i g q c)(p:iS 0 a)(n:a.get w0=D (dU g k [.eQ (c.map (·.1))]))(o:∀e,Fp h i e->a.get e=h.get e):oQ a w0 g k c:=by refine⟨p,n,λl j=>?_,f.dis⟩;have:=f.YS l j;unfold Fld at this|-;split at this;exact this;exact⟨this.1.mono λb m=>o b (f.FA j m),this.2⟩
structure E3 where
 (ver:Nat) (tx:Int) (c:Nat->T) (E:Nat->List T)
def E3.F(d:E3):List (T×aa (Nat×List T)):=[(d.c 0,some (2,d.E 0)),(J d.tx,none),(d.c 2,some (1,d.E 2)),(d.c 3,some (3,d.E 3)),(d.c 4,some (1,d.E 4)),(d.c 5,some (1,d.E 5)),(d.c 6,some (1,d.E 6))]
def E3.zf(d:E3)(f:Nat)(e:List T):E3:=⟨d.ver,d.tx,d.c,λa=>if a=f then e else d.E a⟩
def bgN(a:Nat):Nat:=if a=0 then 3 else if a=3\/a=6 then 4 else if a=4 then 5 else 1
def bgZ(a:Nat):Nat:=if a=0 then 2 else if a=3 then 3 else 1
def RvP(h:H)(w0:Nat)(y:H)(e:T):Prop:=e= dT\/∃(a:Nat) (c:Int),e= .arr a 0 0 1 false/\y.get a=D (dU 1 0 [J c])/\0<=c/\c<4/\¬Fp y w0 a/\h.size<=a
def Zt(h:H)(w0:Nat)(y:H)(c:Nat)(a:T):Prop:=
 if c=0 then∃(g:Int) (f:T),a= .eQ [J g,f]/\RvP h w0 y f
 else if c=2 then∃b,a= .ej b
 else if c=3 then∃i:ew,a=i.t
 else∃e:Int,a= J e/\(c=6->0<=e/\e<=4)
structure Dg(L:List Int)(b:Nat)(h:H)(w0:Nat)(d:E3)(y:H):Prop where
 s:oQ y w0 7 d.ver d.F
 tw:wE 0 L b (TI.hr h) y
 fp:∀c,Fp y w0 c->h.size+2<=c
 rb:y.get (h.size+1)=D pX
 ln:∀k,(d.E k).length=bgN k
 pr:∀k,∀e∈d.E k,Zt h w0 y k e
variable {L:List Int}{b:Nat}{h y y2:H}{w0:Nat}{d:E3}
def Dg.Tr(a:Dg L b h w0 d y):h.size+2<=y.size:=by have:=a.fp w0 (.inl rfl);have:=a.s.lt;omega
def Dg.nfr(a:Dg L b h w0 d y):¬Fp y w0 (h.size+1):=λc=>iH (a.fp _ c)
def RvP.step{f:T}(p:RvP h w0 y f)(l:∀a,h.size<=a->a<y.size->¬Fp y w0 a->y2.get a=y.get a/\¬Fp y2 w0 a):RvP h w0 y2 f:=by rcases p with o|⟨g,q,rfl,c,i,j,k,e⟩;exact .inl o;have⟨m,n⟩:=l g e (H.fN c) k;exact .inr ⟨g,q,rfl,m.trans c,i,j,n,e⟩
def Zt.step{g:Nat}{f:T}(c:Zt h w0 y g f)(i:∀a,h.size<=a->a<y.size->¬Fp y w0 a->y2.get a=y.get a/\¬Fp y2 w0 a):Zt h w0 y2 g f:=by unfold Zt at c|-;split;rename_i e;rw[ax e]at c;obtain⟨j,m,k,l⟩:=c;exact⟨j,m,k,l.step i⟩;rename_i e;rw[aw e]at c;exact c
def J6(e:Step w0 y y2):∀a,h.size<=a->a<y.size->¬Fp y w0 a->y2.get a=y.get a/\¬Fp y2 w0 a:=λa _ f c=>⟨e.get a f c,λg=>(e.fp a g).elim c λi=>by omega⟩
def Dg.tape(c:Dg L b h w0 d y)(e:Sm b y y2)(n:yT 0 L b y2)(q:b<h.size):Dg L b h w0 d y2:=by have i:∀a,Fp y w0 a->a≠b:=λa f j=>iH (c.fp a f);have g:=λa=>jN (e.get w0 (i w0 (.inl rfl))) a;exact⟨e.iY c.s λj=>i b j rfl,c.tw.call e n,λa f=>c.fp a (by rw[g]at f;exact f),(e.get _ G).trans c.rb,c.ln,λm o l=>(c.pr m o l).step λa p _ k=>⟨e.get a G,by rw[g];exact k⟩⟩
theorem Dg.cons(a:Dg L b h w0 d y)(c:jI):Dg L b h w0 d (y.cons c):=by have e:=Step.cons a.s.ok a.s.lt c;exact⟨a.s.cons c,a.tw.cons c,λf i=>(e.fp f i).elim (a.fp f) λl=>iH a.Tr,(e.get _ (iH a.Tr) a.nfr).trans a.rb,a.ln,λk g j=>(a.pr k g j).step (J6 e)⟩
def Dg.st(e:Dg L b h w0 d y)(z:b<h.size)(a:Nat)(u:d.F[a]? =D (d.c a,some (bgZ a,d.E a))){k p v:Nat}{q:Bool}{w:List T}(r:fa (d.c a)=D k)(t:y.get k=D ⟨bgZ a,p,v,q,false,w⟩)(i:Nat)(g:T)
 (x:(d.zf a ((d.E a).set i g)).F=d.F.set a (d.c a,some (bgZ a,(d.E a).set i g))) (C:Zt h w0 y a g):Dg L b h w0 (d.zf a ((d.E a).set i g)) (fF y k ⟨bgZ a,p,v+1,q,false,w.set i g⟩):=by
 obtain⟨n,sl⟩:=e.s.elem a u r t i g;have B:=e.s.FA (aD u) r;refine⟨x▸sl,e.tw.put t (qN (e.fp k B)) (iD z) _,λo A=>(n.fp o A).elim (e.fp o) λl=>iH e.Tr,(n.get _ (iH e.Tr) e.nfr).trans e.rb,λf=>?_,λf m j=>?_⟩;show(if f=a then _ else _:List T).length=_;split;rename_i l;subst l;rw[dq];exact e.ln f;exact e.ln f;have j:m∈(if f=a then(d.E a).set i g else d.E f):=j;refine Zt.step ?_ (J6 n);split at j;rename_i l;subst l;rcases cw j with I|rfl
 exact e.pr _ m I;exact C;exact e.pr f m j
def Dg.tx(a:Dg L b h w0 d y)(j:b<h.size)(e:Int):Dg L b h w0 ⟨d.ver+1,e,d.c,d.E⟩ (fF y w0 ⟨7,0,d.ver+1,true,false,[.eQ [d.c 0,J e,d.c 2,d.c 3,d.c 4,d.c 5,d.c 6]]⟩):=by have⟨f,sl⟩:=a.s.ajw 1 (v':= J e) V ⟨_,rfl⟩ _ rfl;exact⟨sl,a.tw.put a.s.get (qN (a.fp w0 (.inl rfl))) (iD j) _,λg k=>(f.fp g k).elim (a.fp g) λn=>iH a.Tr,(f.get _ (iH a.Tr) a.nfr).trans a.rb,a.ln,λm i l=>(a.pr m i l).step (J6 f)⟩
def yg{i:Type}{f:i->T}{P:i->Prop}:∀{e:List T},(∀c∈e,∃a,c=f a/\P a)->∃g:List i,e=g.map f/\∀a∈g,P a:=by
 intro e;induction e with
 |nil=>intro _;exact⟨[],rfl,V⟩
 |cons c e m=>
  intro h;obtain⟨a,rfl,l⟩:=h c V;obtain⟨g,rfl,j⟩:=m λc k=>h c (by simp[k]);exact⟨a::g,rfl,by simpa[l]using j⟩
def Dg.ld(i:Dg L b h w0 d y)(a:Nat)(r:d.F[a]? =D (d.c a,some (bgZ a,d.E a))){te:Ty}(u:te.size=bgZ a){j:Nat}(t:j<bgN a):∃e f l k g m,fa (d.c a)=D e/\my y te (d.c a) j=be (.eZ e f j 0) y/\y.get e=D ⟨bgZ a,f,l,k,false,g⟩/\g[j]? =D m/\Zt h w0 y a m:=by
 have hE:j<(d.E a).length:=by rw[i.ln];exact t
 have⟨e,f,l,k,g,q,n,p,o⟩:=(i.s.gr a r).CI (te:=te) u (i:=j) hE;exact⟨e,f,l,k,g,_,q,n,p,o,i.pr a _ (aH hE)⟩
end
section
attribute [-simp] size_cons
structure IBg where
 (L:List Int) (b:Nat)
def aaF(a:IBg)(d:List T)(c:H):Prop:=d=[dY a.b,ko.t]/\yT 0 a.L a.b c/\iS 0 c/\okB a.L
structure K1(s:gh):Prop where
 n:s.gH.fQ.length=3/\s.gH.done.length=1/\s.gH.d8.length=4/\s.cells.length=5/\s.fI.length=1/\s.count.length=4
 c:∀c∈s.count,0<=c/\c<=4
 r:∀l∈s.gH.fQ,l.fZ.length<=1/\∀x∈l.fZ,0<=x/\x<4
def N3(a:IBg)(g:List T)(e:H)(f:T)(c:H):Prop:=∃d:gh,f=d.t/\K1 d/\yT 0 a.L a.b c/\Sm a.b e c
def WT{e:Type}{f:e->T}{R:T->T->Prop}{P:e->Prop}:∀{c:List T},(∀b∈c,∃a,R b (f a)/\P a)->∃d:List e,jr R c (d.map f)/\∀a∈d,P a:=by
 intro c;induction c with
 |nil=>intro _;exact⟨[],.nil,V⟩
 |cons b c k=>
  intro g;have⟨a,hr,j⟩:=g b V;have⟨d,hl,h⟩:=k λb i=>g b (by simp[i]);exact⟨a::d,.cons hr hl,by simpa[j]using h⟩
def Dg.fin{w:List Int}{p:Nat}{g n:H}{bH:Nat}{d:E3}(b:Dg w p g bH d n)(bs:iS 0 g)(L:p<g.size)(k:jI)(ap:List T):BY g (.eQ [d.c 0,J d.tx,d.c 2,d.c 3,d.c 4,d.c 5,d.c 6]) (fF n (g.size+1) k) (N3 ⟨w,p⟩ ap g):=by
 have I:=λe=>ez b.rb k e;have l:∀(f u:Nat),d.F[f]? =D (d.c f,some (u,d.E f))->Gr (fF n (g.size+1) k) (d.c f) u (d.E f)/\∀e,fa (d.c f)=D e->g.size<=e:=λf u M=>by
  have C:=λe (o:fa (d.c f)=D e)=>b.fp e (b.s.FA (aD M) o);exact⟨(b.s.gr f M).mono λe o=>by rw[I,aw (iH (C e o))],λe o=>iH (C e o)⟩
 obtain⟨al,a0,p0⟩:=WT (f:=fk.t) (R:=FT (fF n (g.size+1) k) (λe=>g.size<=e) 3) (P:=λm=>m.fZ.length<=1/\∀a∈m.fZ,0<=a/\a<4) λi j=>by
  obtain⟨X,bX,rfl,bi⟩:=b.pr 0 i j;rcases bi with rfl|⟨a,v,rfl,r,bN,bS,bT,bW⟩;exact⟨⟨X,[]⟩,.inr (.inr ⟨_,_,rfl,.cons (iL ..) (.cons (kc ..) .nil),rfl⟩),V⟩;have bn:a≠g.size+1:=λh=>by rw[h,b.rb]at r;simp[pX]at r
  have a8:Gr (fF n (g.size+1) k) (.arr a 0 0 1 false) 1 ([v].map (T.int .i64)):= .inr ⟨a,0,0,true,[J v],rfl,by rw[I,aw bn];exact r,rfl⟩;exact⟨⟨X,[v]⟩,.inr (.inr ⟨_,_,rfl,.cons (iL ..) (.cons (a8.ft (d:=1) (λe h=>by simp at h;omega) (.cons (iL ..) .nil)) .nil),rfl⟩),dP⟩
 obtain⟨Z,x,_⟩:=yg (f:=T.ej) (P:=λ_=>True) λi j=>by
  have⟨a,h⟩:=b.pr 2 i j;exact⟨a,h,trivial⟩
 obtain⟨an,y,_⟩:=yg (f:=ew.t) (P:=λ_=>True) λi j=>by
  have⟨a,h⟩:=b.pr 3 i j;exact⟨a,h,trivial⟩
 obtain⟨Y,z,_⟩:=yg (f:=T.int .i64) (P:=λ_=>True) λi j=>by
  have⟨a,h,_⟩:=b.pr 4 i j;exact⟨a,h,trivial⟩
 obtain⟨ae,A,_⟩:=yg (f:=T.int .i64) (P:=λ_=>True) λi j=>by
  have⟨a,h,_⟩:=b.pr 5 i j;exact⟨a,h,trivial⟩
 obtain⟨K,B,p6⟩:=yg (f:=T.int .i64) (P:=λW=>0<=W/\W<=4) λi j=>by
  have⟨a,h,bu⟩:=b.pr 6 i j;exact⟨a,h,bu rfl⟩
 have l0:=b.ln 0;have l2:=b.ln 2;have l3:=b.ln 3;have l4:=b.ln 4;have l5:=b.ln 5;have l6:=b.ln 6;have lk:=a0.length;rw[x]at l2;rw[y]at l3;rw[z]at l4;rw[A]at l5;rw[B]at l6;simp[bgN]at l0 l2 l3 l4 l5 l6 lk;have⟨bp,av⟩:=l 0 2 rfl;have⟨N,aA⟩:=l 2 1 rfl;have⟨O,aE⟩:=l 3 3 rfl;have⟨Q,aN⟩:=l 4 1 rfl;have⟨S,aX⟩:=l 5 1 rfl;have⟨U,a7⟩:=l 6 1 rfl;rw[x]at N;rw[y]at O;rw[z]at Q;rw[A]at S;rw[B]at U;have q:∀m:List Int,jr (FT (fF n (g.size+1) k) (λe=>g.size<=e) 3) (m.map (T.int .i64)) (m.map (T.int .i64)):=λm=>AQ λa=>iL ..;exact(b.tw.put b.rb V (iD L) k).cut bs L (FT.top (Vq:=λe=>g.size<=e) (d:=4) G (λ_ h=>h) (.cons (bp.ft av a0) (.cons (iL ..) (.cons (N.ft aA (AQ λa=>Ri ..)) (.cons (O.ft aE (AQ λa=> .inr (.inr ⟨a.cs,a.cs,rfl,.cons (iL ..) (.cons (iL ..) (.cons (Ri ..) .nil)),rfl⟩))) (.cons (Q.ft aN (q _)) (.cons (S.ft aX (q _)) (.cons (U.ft a7 (q _)) .nil)))))))) λbA bC=>
  ⟨⟨⟨al,d.tx,Z,an⟩,Y,ae,K⟩,rfl,⟨⟨dQ,l2,l3,l4,l5,l6⟩,p6,p0⟩,bC,bA⟩
def ajO:(jS IBg aaF N3).Ok prog cx 45:=by
 refine uB (tb:=⟨pt [],ht [(91,mv),(48,jS fJ N8 NU),(92,jS ZI tL qM)]⟩) jk iX (js 39027670543808336620727472465805308762228731 [(10,[(1,4)]),(11,[(2,5)]),(27,[(1,3)]),(31,[(1,4)])] func45) (λ_ _=>10) (λp a q er=>by obtain⟨rfl,_⟩:=er;simp[f45]) ?_;rintro⟨U,k⟩ _ q ⟨rfl,eF,e4,a7⟩ h eW;simp only at eF a7;simp at eW;obtain⟨C,eU⟩:=eW;have A:=eF.tp.lt;have hG:(k=q.size)=False:=dP;have hH:(k=q.size+1)=False:=dP;have bp:=((wE.refl e4.hr (eF.eq (iI q k))).cons (dU 6 0 [ko.t])).cons pX;simp[*,f45];generalize c1:((TI.hr q).cons _).cons _=X;replace bp:wE 0 U k (TI.hr q) X:=c1▸bp;have hP:X.size=q.size+2:=by rw[<-c1];simp[size_cons]
 have e8:X.get (q.size+1)=D pX:=by rw[<-c1];simp[pX,size_cons]
 clear c1;refine jl afX V ko ⟨rfl,bp.w.ok,dR,dR,dR,dR⟩ ?_;rintro _ an ⟨eI,eK,eL,eM,eN,eO,rfl,n,hL,bS,ec,c7,b8⟩;have hO:=c7.sz;have ey:=c7.low;simp[ey,(bS.gr 6 rfl).len (cx:=cx)];have gy:∀y,Fp an n y->y≠k:=λy S N=>iH (ec y S);generalize b7:an.cons _=b9;have eA:iS 0 b9:=b7▸iS.cons ⟨c7.hp,ey,aB _⟩ _;have av:∀y,b9.get y=if y=an.size then some (dU 7 1 [.eQ [eI,J (-1),eK,eL,eM,eN,eO]])else an.get y:=λy=>by rw[<-b7,fg]
 have e9:b9.size=an.size+1:=by rw[<-b7,size_cons]
 clear b7;have eD:=λy (S:Fp an n y)=>bS.fp y S;obtain⟨ea,dm⟩:∃ea,Dg U k q an.size ea b9:=by
  refine⟨⟨1,-1,λi=>if i=0 then eI else if i=2 then eK else if i=3 then eL else if i=4 then eM else if i=5 then eN else eO,λi=>if i=0 then(ao 3 ()).map Ce else if i=2 then [false].map T.ej else if i=3 then(Dq 4).map ew.t else if i=4 then [0,1,0,0,0].map (T.int .i64)else if i=6 then(ao 4 0).map (T.int .i64)else(ao 1 0).map (T.int .i64)⟩,?_,⟨⟨eA,dP,λy S c4=>?_,?_⟩,?_⟩,?_,?_,λi=>?_,λi e I=>?_⟩;exact bS.copy eA (by rw[av,ax rfl];rfl) λy S=>by rw[av,aw (iH (eD y S))]
  have S:y<q.size:=iD S;exact(av y).trans ((aw G).trans ((b8 y G).trans (bp.w.get y (iD S) c4)));exact bp.w.tp.eq ((av k).trans ((aw G).trans (b8 k G)));exact bp.g.eq ((av k).trans ((aw G).trans (b8 k G)));intro y S;rcases(bS.copy eA (by rw[av,ax rfl];rfl) λy S=>by rw[av,aw (iH (eD y S))]:oQ b9 an.size 7 1 _)with⟨_,fX,_,_⟩;rcases S with rfl|⟨x,eu,v,gn,N⟩
  omega;rw[fX]at eu;cases eu;have:=ec y (.inr ⟨_,bS.get,v,gn,N⟩);omega;exact(av _).trans ((aw G).trans ((b8 _ G).trans e8));unfold bgN;by_cases c9:i=0;subst c9;rfl;by_cases bi:i=2;subst bi;rfl;by_cases dd:i=3;subst dd;rfl;by_cases gD:i=4;subst gD;rfl;by_cases gE:i=6;subst gE;rfl;simp[*];unfold Zt;by_cases c9:i=0;subst c9;simp at I;subst I;exact⟨_,_,rfl,.inl rfl⟩;by_cases bi:i=2;subst bi;simp at I;subst I;exact⟨_,rfl⟩;by_cases dd:i=3;subst dd;simp only[aw (show¬(3:Nat)=0 by decide),aw (show¬(3:Nat)=2 by decide),ax]at I|-;obtain⟨bT,_,rfl⟩:=List.mem_map.1 I;exact⟨bT,rfl⟩;simp only[aw c9,aw bi,aw dd]at I|-;have:∃l:List Int,e∈l.map (T.int .i64)/\(i=6->l=ao 4 0):=by
   split at I;exact⟨_,I,λN=>by omega⟩;split at I;exact⟨_,I,λ_=>rfl⟩;exact⟨_,I,λN=>by omega⟩
  obtain⟨l,hl,fY⟩:=this;obtain⟨O,c4,rfl⟩:=List.mem_map.1 hl;refine⟨O,rfl,λN=>?_⟩;rw[fY N]at c4;simp at c4;omega
 clear bS ec c7 b8 ey gy av e9 eD bp e8;have e9:q.size+2<=an.size:=G;generalize an.size=B at*
 refine gW 4 G (λp h r=>(∃d,Dg U k q B d r)/\TI.Y h 0=D (dY k)/\TI.Y h 4=D (dY (q.size+1))/\TI.Y h 5=D (dY B)/\TI.Y h 15=D (J 4)/\TI.Y h 16=D (J p)) ?_ ?_ G ⟨⟨ea,dm⟩,by simp[C,show(ko.d8.length:Int)=4 from rfl]⟩;clear dm C eU;rintro p h r bu ef ⟨⟨d,b⟩,C,Z,ae,cL,cX⟩;have hy:(p:Int)<4:=G;obtain⟨i,bW,aA,e0,aE,Q⟩:=(b.cons (dU 1 0 [J 2,J 2,J 2,J 2,J 0,J 1,J 3,J 4,J 5])).tw.next (tb:=⟨pt [],ht [(91,mv),(48,jS fJ N8 NU),(92,jS ZI tL qM)]⟩) V a7 9 G G;have hQ:=b.Tr;have cb:=(b.cons _).tape Q (aE.g.le (aB _)) A;have fP:=(Q.get r.size G).trans (by rw[fg,ax rfl]);obtain⟨e6,fE⟩:∃e6:Int,∀e0,([J 2,J 2,J 2,J 2,J 0,J 1,J 3,J 4,J 5]:List T)[i]'e0= J e6:=by
  rcases(by omega:i=0\/i=1\/i=2\/i=3\/i=4\/i=5\/i=6\/i=7\/i=8)with rfl|rfl|rfl|rfl|rfl|rfl|rfl|rfl|rfl<;>exact⟨_,λ_=>rfl⟩
 have hC:i<9:=G;simp[*];refine lJ (λh gS=>bW=gS/\(∃eE,TI.Y h 7=D (J eE))/\TI.Y h 0=D (dY k)/\TI.Y h 4=D (dY (q.size+1))/\TI.Y h 5=D (dY B)/\TI.Y h 6=D (J p)/\TI.Y h 15=D (J 4)/\TI.Y h 16=D (J p)) (λM=>by simp[*]) (λM=>by simp[*]) ?_;clear aA fP fE aE Q C Z ae cL cX;rintro h _ ⟨rfl,⟨eE,hq⟩,C⟩;have n:=cb.s.get;simp[E3.F]at n;obtain⟨bC,cp,de,cv,di,_,ap,bX,al,bZ,bT,rfl⟩:=cb.ld 3 rfl (te:=Ev) rfl (j:=p) bu;have bn:=cb.st A 3 rfl ap al p (ew.t ⟨eE,0,false⟩) rfl ⟨_,rfl⟩;simp[*];clear cb n bX al bZ ap;generalize d.zf 3 _=eb at bn;generalize fF bW _ _=dk at*
 refine fG (λM=>?_) (λM=>?_);obtain⟨a8,R,aA,eo,bs,bA⟩:=bn.tw.next (tb:=⟨pt [],ht [(91,mv),(48,jS fJ N8 NU),(92,jS ZI tL qM)]⟩) V a7 3 G G;have W:=bn.tape bA (bs.g.le (aB _)) A;have aN:=bn.s.get;have aX:=W.s.get;simp[E3.F]at aN aX;obtain⟨bC,cp,de,cv,di,_,ap,bX,al,bZ,O,rfl,_⟩:=W.ld 6 rfl (te:=Dp) rfl (j:=p) bu;have gZ:binop .add (J 1) (J (a8:Int))=D (J (1+a8)):=Db rfl G G;have sv:gJ dk R B:=il (aX.trans aN.symm);have L:=W.st A 6 rfl ap al p (J (1+a8)) rfl ⟨_,rfl,λ_=>by omega⟩;generalize hs:fF R bC _=gV at L;generalize eb.zf 6 _=hb at L;obtain⟨gw,gX,hg,hB,ff,gF⟩:=L.tw.next (tb:=⟨pt [],ht [(91,mv),(48,jS fJ N8 NU),(92,jS ZI tL qM)]⟩) V a7 4 G G;have dn:=L.tape gF (ff.g.le (aB _)) A;have eP:=L.s.get;have eR:=dn.s.get;simp[E3.F]at eP eR;obtain⟨ha,hj,hM,ho,hN,_,gi,hf,fS,hh,bT,rfl⟩:=dn.ld 3 rfl (te:=Ev) rfl (j:=p) bu;have hK:gJ gV gX B:=il (eR.trans eP.symm);have fe:=dn.st A 3 rfl gi fS p (ew.t ⟨bT.jq,bT.cond,decide ((gw:Int)=3)⟩) rfl ⟨_,rfl⟩;simp[*];exact⟨_,fe⟩;simp[*];exact⟨eb,bn⟩;clear dm C eU;rintro h r ⟨⟨d,b⟩,C,Z,ae,cL,cX⟩;have n:=b.s.get;simp[E3.F]at n;have l0:=b.ln 0;simp[*,(b.s.gr 0 rfl).len (cx:=cx),bgN];refine gW 3 G (λp h r=>(∃d,Dg U k q B d r)/\TI.Y h 0=D (dY k)/\TI.Y h 4=D (dY (q.size+1))/\TI.Y h 5=D (dY B)/\TI.Y h 63=D (J 3)/\TI.Y h 64=D (J p)) ?_ ?_ G ⟨⟨d,b⟩,by simp[*]⟩;clear b n l0 C Z ae cL cX;rintro p h r bu ef ⟨⟨d,b⟩,C⟩;have hv:(p:Int)<3:=G;have n:=b.s.get;simp[E3.F]at n;simp[*];obtain⟨K,bN,eV⟩:=yg (f:=T.int .i64) (P:=λO=>0<=O/\O<=4) λe I=>by
  obtain⟨O,eB,bi⟩:=b.pr 6 e I;exact⟨O,eB,bi rfl⟩
 have b6:K.length=4:=by rw[<-aK (f:=T.int .i64),<-bN];exact b.ln 6
 have bH:=b.s.gr 6 rfl;rw[bN]at bH;have c6:fa (d.c 6)≠some k:=λN=>iH (b.fp k (b.s.FA (f:=(d.c 6,some (1,d.E 6))) (by simp[E3.F]) N));refine jl Qf V ⟨U,k,0,d.c 0,J d.tx,d.c 2,d.c 3,d.c 4,d.c 5,d.c 6,K⟩ ⟨rfl,b.tw.g,b.tw.w.ok,a7,dQ,bH,c6,V⟩ ?_;rintro _ bW ⟨u,rfl,e7,eH,t1,Q⟩;replace b:=b.tape Q t1 A;simp only[b6]at eH;clear bH c6 bN b6 eV n t1 Q;simp;refine fG (λM=>?_) (λM=>?_);simp[*];exact⟨d,b⟩;obtain⟨m,rfl⟩:∃m:Nat,u=m:=⟨u.toNat,by simp at M;omega⟩;have gm:m<4:=G;clear M e7 eH;by_cases gj:p=2;subst gj;have hd:binop .add (J 2) (J 1)=D (J 3):=iD ef;obtain⟨a8,R,aA,eo,bs,bA⟩:=b.tw.next (tb:=⟨pt [],ht [(91,mv),(48,jS fJ N8 NU),(92,jS ZI tL qM)]⟩) V a7 2 G G;replace b:=b.tape bA (bs.g.le (aB _)) A;simp[*];have ds:=b.cons (dU 1 0 [J m]);obtain⟨bC,cp,de,cv,di,_,ap,bX,al,bZ,o,eC,rfl,et⟩:=b.ld 0 rfl (te:=K9) rfl (j:=2) dR;obtain⟨fi,fB,gI,fL,gP,_,eX,fo,eS,fv,gB,hJ,rfl,hD⟩:=ds.ld 0 rfl (te:=K9) rfl (j:=2) dR;have n:=b.s.get;have fW:=ds.s.get;simp[E3.F]at n fW;refine fG (λM=>?_) (λM=>?_);have gz:¬Fp (R.cons (dU 1 0 [J m])) B R.size:=λN=>by
  have e:(R.cons (dU 1 0 [J m])).get B=R.get B:=by rw[fg,aw (iH b.s.lt)]
  rw[jN e]at N;have:=b.s.fp _ N;omega
 have L:=ds.st A 0 rfl eX eS 2 (.eQ [J gB,.arr R.size 0 0 1 false]) rfl ⟨_,_,rfl,.inr ⟨R.size,m,rfl,by rw[fg,ax rfl],G,G,gz,iH b.Tr⟩⟩;have hF:(B=R.size)=False:=qN b.s.lt;simp[*];exact⟨_,L⟩;have L:=b.st A 0 rfl ap al 2 (.eQ [J m,eC]) rfl ⟨_,_,rfl,et⟩;simp[*];exact⟨_,L⟩;obtain⟨bC,cp,de,cv,di,_,ap,bX,al,bZ,o,eC,rfl,et⟩:=b.ld 0 rfl (te:=K9) rfl (j:=p) bu;obtain⟨fi,fB,gI,fL,gP,_,eX,fo,eS,fv,bT,rfl⟩:=b.ld 3 rfl (te:=Ev) rfl (j:=m) gm;have n:=b.s.get;simp[E3.F]at n;have L:=b.st A 0 rfl ap al p (.eQ [J m,eC]) rfl ⟨_,_,rfl,et⟩;simp[*,show¬(p:Int)=2 by omega];refine fG (λM=>?_) (λM=>?_);simp[*];exact⟨d,b⟩;simp[*];exact⟨_,L⟩;clear b n l0 C Z ae cL cX;rintro h r ⟨⟨d,b⟩,C,Z,ae,gd,gg⟩;have ca:=λ{r:H} {d:E3} (b:Dg U k q B d r)=>b.tw.next (tb:=⟨pt [],ht [(91,mv),(48,jS fJ N8 NU),(92,jS ZI tL qM)]⟩) V a7;have fb:∀{r:H} {d:E3},Dg U k q B d r->∃K:List Int,tL ⟨U,k,0,d.c 0,J d.tx,d.c 2,d.c 3,d.c 4,d.c 5,d.c 6,K⟩ [dY k,.eQ [d.c 0,J d.tx,d.c 2,d.c 3,d.c 4,d.c 5,d.c 6]] r/\K.length=4:=λ{r d} b=>by
  obtain⟨K,bN,eV⟩:=yg (f:=T.int .i64) (P:=λO=>0<=O/\O<=4) λe I=>by
   obtain⟨O,eB,bi⟩:=b.pr 6 e I;exact⟨O,eB,bi rfl⟩
  have b6:K.length=4:=by rw[<-aK (f:=T.int .i64),<-bN];exact b.ln 6
  have bH:=b.s.gr 6 rfl;rw[bN]at bH;have c6:fa (d.c 6)≠some k:=λN=>iH (b.fp k (b.s.FA (f:=(d.c 6,some (1,d.E 6))) (by simp[E3.F]) N));exact⟨K,⟨rfl,b.tw.g,b.tw.w.ok,a7,dQ,bH,c6,V⟩,b6⟩
 obtain⟨gv,bW,aA,gk,aE,Q⟩:=ca b 3 G G;replace b:=b.tape Q (aE.g.le (aB _)) A;simp[*];clear aA aE Q;refine lJ (λh r=>(∃d,Dg U k q B d r)/\TI.Y h 0=D (dY k)/\TI.Y h 4=D (dY (q.size+1))/\TI.Y h 5=D (dY B)) (λM=>?_) (λM=>?_) ?_;have n:=b.s.get;simp[E3.F]at n;obtain⟨K,er,b6⟩:=fb b;simp[*];refine jl Qf V _ er ?_;rintro _ dk ⟨u,rfl,e7,eH,t1,Q⟩;replace b:=b.tape Q t1 A;have n:=b.s.get;simp[E3.F]at n;have bn:=b.tx A u;simp[*];exact⟨_,bn⟩;simp[*];exact⟨d,b⟩;clear b C Z ae gd gg;rintro h r ⟨⟨d,b⟩,C,Z,ae⟩;obtain⟨gv,bW,aA,gk,aE,Q⟩:=ca b 3 G G;replace b:=b.tape Q (aE.g.le (aB _)) A;simp[*];clear aA aE Q;refine lJ (λh r=>(∃d,Dg U k q B d r)/\TI.Y h 0=D (dY k)/\TI.Y h 4=D (dY (q.size+1))/\TI.Y h 5=D (dY B)) (λM=>?_) (λM=>?_) ?_;have n:=b.s.get;simp[E3.F]at n;obtain⟨bC,cp,de,cv,di,_,ap,bX,al,bZ,o,rfl⟩:=b.ld 2 rfl (te:=XJ) rfl (j:=0) dR;replace b:=b.st A 2 rfl ap al 0 (.ej true) rfl ⟨_,rfl⟩;generalize b7:fF bW bC _=dk at b;generalize d.zf 2 _=eb at b;obtain⟨a8,R,aA,eo,bs,bA⟩:=ca b 3 G G;have W:=b.tape bA (bs.g.le (aB _)) A;have aN:=b.s.get;have aX:=W.s.get;simp[E3.F]at aN aX;obtain⟨fl,fC,gM,fM,gQ,_,eh,fs,ee,fA,O,rfl,_⟩:=W.ld 5 rfl (te:=JB) rfl (j:=0) dR;have sv:gJ dk R B:=il (aX.trans aN.symm);have L:=W.st A 5 rfl eh ee 0 (J a8) rfl ⟨_,rfl,λN=>by omega⟩;simp[*];exact⟨_,L⟩;simp[*];exact⟨d,b⟩;clear b C Z ae;rintro h r ⟨⟨d,b⟩,C,Z,ae⟩;have n:=b.s.get;simp[E3.F]at n;have l4:=b.ln 4;simp[*,(b.s.gr 4 rfl).len (cx:=cx),bgN];refine gW 5 G (λp h r=>(∃d,Dg U k q B d r)/\TI.Y h 0=D (dY k)/\TI.Y h 4=D (dY (q.size+1))/\TI.Y h 5=D (dY B)/\TI.Y h 142=D (J 5)/\TI.Y h 143=D (J p)) ?_ ?_ G ⟨⟨d,b⟩,by simp[*]⟩;clear b n l4 C Z ae;rintro p h r bu ef ⟨⟨d,b⟩,C⟩;have hA:(p:Int)<5:=G;obtain⟨a8,R,aA,eo,bs,bA⟩:=ca b 3 G G;have W:=b.tape bA (bs.g.le (aB _)) A;have aN:=b.s.get;have aX:=W.s.get;simp[E3.F]at aN aX;obtain⟨fl,fC,gM,fM,gQ,_,eh,fs,ee,fA,O,rfl,_⟩:=W.ld 4 rfl (te:=JB) rfl (j:=p) bu;have sv:gJ r R B:=il (aX.trans aN.symm);have L:=W.st A 4 rfl eh ee p (J a8) rfl ⟨_,rfl,λN=>by omega⟩;simp[*];exact⟨_,L⟩;clear b n l4 C Z ae;rintro h r ⟨⟨d,b⟩,C⟩;have n:=b.s.get;have e5:=b.rb;unfold pX at e5;simp[E3.F]at n;have hI:=λz=>(ez e5 z (q.size+1)).trans (ax rfl);simp[*];exact b.fin e4 A _ _
end
def Xf(a:Nat)(d:H)(e:T)(g:List (List Int)):Prop:=∃c,Gr d e 1 c/\fa e≠some a/\jr (λb f=>Gr d b 1 (f.map (T.int .i64))/\fa b≠some a) c g
structure IEv where
 (L:List Int) (b p:Nat) (s:gh) (w:fJ) (rv:T) (rs:List (List Int))
def Ug(a:IEv)(d:List T)(c:H):Prop:=d=[dY a.b,a.s.t,a.w.t,a.rv]/\yT a.p a.L a.b c/\iS 0 c/\okB a.L/\Xf a.b c a.rv a.rs/\a.rs.length=4/\(∀e∈a.rs,e.length<=1000)/\a.s.cells.length=5/\1<=a.s.fI.length/\a.s.gH.d8.length<=98/\a.w.cells.length=5
def JU(a:IEv)(g:List T)(e:H)(f:T)(d:H):Prop:=∃c:fR,f=c.t/\c.nH.length<=1000/\c.vU.length<=1000/\yT (a.p+1) a.L a.b d/\Sm a.b e d
def adm{a:ik}(ht:a.p 142=D xY):rl prog cx a 142 []=D (sl (Aa.map (T.int .i64))):=iF ht Yn () trivial
def SC{i:Nat}(c:i<43):∃a:Int,Aa[i]? =D a/\1<=a/\a<=23:=by have b:∀a∈Aa,1<=a/\a<=23:=dR;exact⟨Aa[i]'c,aF _,b _ (aH _)⟩
abbrev SR(f c d g e:Int)(a b:T):T:= .eQ [J f,J c,J d,J g,J e,a,b]
structure Xl(p:Nat)(L:List Int)(b:Nat)(h:H)(s:gh)(w:fJ)(h':H)(x:T):Prop where
 tw:wE p L b (TI.hr h) h'
 g0:h'.get h.size=D (dU 7 0 [s.t])
 g1:h'.get (h.size+1)=D (dU 6 0 [w.t])
 g2:h'.get (h.size+2)=D (dU 7 0 [SR 0 0 0 0 0 dT dT])
 g3:∃ver,h'.get (h.size+3)=D (dU 7 ver [x])
def Xl.call{m h:Nat}{d:List Int}{a:Nat}{e:H}{i:gh}{j:fJ}{g f:H}{k:T}(b:Xl m d a e i j g k)(c:Sm a g f)(n:yT h d a f)(p:a<e.size):Xl h d a e i j f k:=by have⟨o,l⟩:=b.g3;exact⟨b.tw.call c n,(c.get _ G).trans b.g0,(c.get _ G).trans b.g1,(c.get _ G).trans b.g2,o,(c.get _ G).trans l⟩
theorem Xl.put{k:Nat}{h:List Int}{e:Nat}{d:H}{l:gh}{m:fJ}{j:H}{x:T}(a:Xl k h e d l m j x)(o:e<d.size)(f:Nat)(g:T):Xl k h e d l m (fF j (d.size+3) (dU 7 f [g])) g:=by have⟨p,i⟩:=a.g3;have b:=λc=>ez i (dU 7 f [g]) c;exact⟨a.tw.put i V (iD o) _,by rw[b,aw G];exact a.g0,by rw[b,aw G];exact a.g1,by rw[b,aw G];exact a.g2,f,by rw[b,ax rfl]⟩
def Xl.rd{g:Nat}{d:List Int}{e:Nat}{a:H}{h:gh}{i:fJ}{c:H}{j:T}(f:Xl g d e a h i c j)(b:jI):(fF c (a.size+2) b).get (a.size+2)=D b:=(ez f.g2 b (a.size+2)).trans (ax rfl)
def Ds(a:T):Prop:=a.iW=true/\a.cells=[a]/\∃b:List Int,b.length<=1000/\∀d c,FT d c 1 a (sl (b.map (T.int .i64)))
theorem Ds.nil:Ds dT:=⟨rfl,rfl,[],V,λb a=>kc ..⟩
def Ds.sl{a:List Int}(b:a.length<=1000):Ds (TI.sl (a.map (T.int .i64))):=⟨V,V,a,b,λb d=>sa _ _ _ λe c=>by obtain⟨f,_,rfl⟩:=List.mem_map.1 c;simp⟩
def ajN:(jS IEv Ug JU).Ok prog cx 93:=by
 refine uB (tb:=⟨pt [(142,xY)],ht [(91,mv),(143,jS Nm DO wu),(144,jS Nk DM wt),(145,jS E2 x7 xm)]⟩) jk iX (js 618988909108621684749897583 [(3,[(6,11),(7,11),(5,14),(11,14)])] func93) (λ_ _=>5) (λi a b aN=>by obtain⟨rfl,_⟩:=aN;simp[f93]) ?_;rintro⟨B,h,v,N,E,av,eu⟩ _ b ⟨rfl,bW,er,U,ds,eS,bp,eU,ea,eb,eX⟩ L di
 dsimp at bW U ds eS bp eU ea eb eX
 simp at di;obtain⟨n,dd,de,bi⟩:=di;have q:=bW.tp.lt;have fL:(h=b.size)=False:=dP;have fM:(h=b.size+1)=False:=dP;have fP:(h=b.size+2)=False:=dP;have eB:=(((wE.refl er.hr (bW.eq (iI b h))).cons (dU 7 0 [N.t])).cons (dU 6 0 [E.t])).cons (dU 7 0 [.eQ [J 0,J 0,J 0,J 0,J 0,dT,dT]]);obtain⟨c,eE,cp,fE,eC,y⟩:=eB.next (tb:=⟨pt [(142,xY)],ht [(91,mv),(143,jS Nm DO wu),(144,jS Nk DM wt),(145,jS E2 x7 xm)]⟩) V U 4 G G;have b8:=λ{a8:H} {v:Nat} (E:wE v B h (TI.hr b) a8)=>E.next (tb:=⟨pt [(142,xY)],ht [(91,mv),(143,jS Nm DO wu),(144,jS Nk DM wt),(145,jS E2 x7 xm)]⟩) V U;obtain⟨k,eF,cv,fC,eD,X⟩:=b8 eC Aa.length dR dR;obtain⟨j,cX,e0,e4⟩:=SC (i:=k) (by have:Aa.length=43:=rfl;omega);obtain⟨W,aA,cL,dm,b6,bN⟩:=b8 eD 6 G G;obtain⟨bT,eW⟩:∃x:Int,(c:Int)*6=x:=⟨_,rfl⟩;obtain⟨bS,eV⟩:∃x:Int,bT+W=x:=⟨_,rfl⟩;have eo:binop .mul (J (c:Int)) (J 6)=D (J bT):=by rw[ack,<-kz,kI G G,eW]
 have ca:binop .add (J bT) (J (W:Int))=D (J bS):=Db eV G G;have fB:eE.size=b.size+3:=by rw[y.size];rfl
 have b7:aA.size=b.size+3:=by rw[bN.size,X.size,fB]
 have ey:gJ eE eF (b.size+3):=jF (mG _ G);have eA:gJ eF aA (b.size+3):=jF (mG _ (by rw[X.size];omega));have eh:=b6.w.ok.low;rw[b7]at eh;have aE:∀s,s<b.size+3->s≠h->aA.get s=((((TI.hr b).cons (dU 7 0 [N.t])).cons (dU 6 0 [E.t])).cons (dU 7 0 [SR 0 0 0 0 0 dT dT])).get s:=λs bn ap=>(bN.get s ap).trans ((X.get s ap).trans (y.get s ap));have C:Xl (v+1) B h b N E (aA.cons (dU 7 1 [SR c j 0 0 bS dT dT])) (SR c j 0 0 bS dT dT):=
  ⟨(b6.le G).cons _,by rw[fg,aw G,aE _ G G];simp,by rw[fg,aw G,aE _ G G];simp,by rw[fg,aw G,aE _ G G];simp,1,by rw[fg,ax b7.symm]⟩
 simp[f93,n,dd,de,cp,adm,cv,cL,cX,eo,ca,b7,ey,eA,eh];clear cp cv cL y X bN eB eC eD b6 eo ca aE cX ey eA;generalize aA.cons _=fW at*
 refine lJ (λL a8=>(∃z,Xl (v+1) B h b N E a8 (SR c j 0 0 z dT dT))/\TI.Y L 0=D (dY h)/\TI.Y L 3=D av/\TI.Y L 5=D (dY b.size)/\TI.Y L 6=D (dY (b.size+1))/\TI.Y L 8=D (dY (b.size+2))/\TI.Y L 9=D (J c)/\TI.Y L 11=D (dY (b.size+3))) (λeR=>?_) (λeR=>?_) ?_;obtain⟨A,m⟩:=C.g3;simp[n,bi,m];exact⟨_,C.put q _ _⟩;simp[n,bi];exact⟨_,C⟩;clear C n dd de bi;rintro L p ⟨⟨z,C⟩,n⟩;obtain⟨A,m⟩:=C.g3;simp[n,m];refine jl af2 V ⟨B,h,v+1,j,c⟩ ⟨rfl,C.tw.g,C.tw.w.ok,U,dQ,dQ,e0,e4⟩ ?_;rintro _ fo ⟨r,rfl,fS,bH,t1,y⟩;have l:=C.call y t1 q;clear C m;obtain⟨A,m⟩:=l.g3;simp[n,m];replace l:=l.put q (A+1) (SR c j r 0 z dT dT);generalize fF fo _ _=Z at*
 clear y t1 m;obtain⟨A,m⟩:=l.g3;have c7:=l.g0;simp[n,m,c7];refine jl afW V ⟨B,h,v+1,N,j,r⟩ ⟨rfl,l.tw.g,l.tw.w.ok,U,λO=>by have:=bH (.inl O);simp only;omega,ea,eb⟩ ?_;rintro _ fs ⟨o,rfl,t1,y⟩;replace l:=l.call y t1 q;clear m c7;obtain⟨A,m⟩:=l.g3;simp[n,m];replace l:=l.put q (A+1) (SR c j r o z dT dT);generalize fF fs _ _=fv at*
 clear y t1 m;obtain⟨A,m⟩:=l.g3;have eL:=l.g1;obtain⟨M,eO,e7,cb⟩:=ds;have dk:c<M.length:=by rw[cb.length];omega
 obtain⟨bC,dn,c1,c4⟩:∃bC∈eu,Gr b M[c] 1 (bC.map (T.int .i64))/\fa M[c]≠some h:=cb.Md (aH dk);have b9:∀p,wE (v+1) B h (TI.hr b) p->∃R S A ae F,∃(u:List Int) (Z:H),my p pJ av c=be (.eZ R S c 0) p/\p.get R=D ⟨1,S,A,ae,false,F⟩/\F[c]? =D M[c]/\hl prog cx ⟨pt [(142,xY)],ht [(91,mv),(143,jS Nm DO wu),(144,jS Nk DM wt),(145,jS E2 x7 xm)]⟩ 145 [dY h,M[c]] p=D (sl (u.map (T.int .i64)),Z)/\u.length<=1000/\yT (v+1) B h Z/\Sm h p Z:=λp bX=>by
  have et:∀(o:T) F,Gr b o 1 F->fa o≠some h->Gr p o 1 F:=λo F c6 ap=>c6.mono λs bn=>by
   obtain⟨_,_,_,_,O,_⟩:=c6.box bn;exact(bX.w.get s (H.fN O) λe=>ap (e▸bn)).trans (iI b s)
  obtain⟨R,S,A,ae,F,_,eI,eN,eK⟩:=(et av M eO e7).CI (te:=pJ) rfl dk;have aN:x7 ⟨B,h,v+1,M[c],bC⟩ [dY h,M[c]] p:=⟨rfl,et _ _ c1 c4,c4,bX.g,bX.w.ok,U,bp _ dn⟩;obtain⟨_,Z,e,O⟩:=Ja (tb:=⟨pt [(142,xY)],ht [(91,mv),(143,jS Nm DO wu),(144,jS Nk DM wt),(145,jS E2 x7 xm)]⟩) V abU ⟨_,aN⟩;obtain⟨u,rfl,e8,e9,fb⟩:=O _ aN;exact⟨R,S,A,ae,F,u,Z,eI,eN,eK,e,aU e8 (bp _ dn),e9,fb⟩
 have eH:(decide (j=5)=false/\(decide (j=3)||decide (j=4))/\∃W:Nat,lr r=D W/\W<E.cells.length)\/(decide (j=5)=false/\(decide (j=3)||decide (j=4))=false)\/(decide (j=5)=true):=by
  by_cases K:j=5;exact .inr (.inr (bh K));by_cases P:j=3\/j=4;exact .inl ⟨aS K,iD P,r.toNat,fO (bH P).1,iH (bH P)⟩;exact .inr (.inl ⟨aS K,dP⟩)
 have fin:∀{p:H} {d f:T} (Q:jI),Xl (v+1) B h b N E p (SR c j r o z d f)->Ds d->Ds f->BY b (SR c j r o z d f) (fF p (b.size+2) Q) (JU ⟨B,h,v,N,E,av,eu⟩ [dY h,N.t,E.t,av] b):=λQ i ⟨_,_,u,l1,l2⟩ ⟨_,_,bA,e5,e6⟩=>
  (i.tw.put i.g2 V (iD q) Q).cut er q (FT.top (Vq:=λh=>b.size<=h) (d:=1) G (λ_ O=>O) (.cons (iL ..) (.cons (iL ..) (.cons (iL ..) (.cons (iL ..) (.cons (iL ..) (.cons (l2 ..) (.cons (e6 ..) .nil)))))))) λfe ff=>⟨⟨c,j,r,o,z,u,bA⟩,rfl,l1,e5,ff,fe⟩
 obtain⟨R,S,fl,ae,F,u,fA,a1,a2,a3,a4,l1,t1,y⟩:=b9 fv l.tw;have bs:=l.call y t1 q;obtain⟨bZ,a7⟩:=bs.g3;have al:=λQ=>(ez a7 Q (b.size+3)).trans (ax rfl);have aX:=c1.cells;rcases eH with⟨K,P,W,eP,dm⟩|⟨K,P⟩|K;simp[n,m,eL,K,P,eP,dm];refine fG (λan=>?_) (λan=>?_);rotate_left
 iterate 2
  have I:=bs.put q (bZ+1) (SR c j r o z dT (sl (u.map (T.int .i64))));simp[n,m,K,P];refine fG (λan=>?_) (λan=>?_);simp[n,a1,a2,a3,a4,a7,aX,al,I.g2,I.rd];exact fin _ I Ds.nil (Ds.sl l1);simp[n,m,l.g2,l.rd];exact fin _ l Ds.nil Ds.nil
 iterate 2
  have I:=bs.put q (bZ+1) (SR c j r o z (sl (u.map (T.int .i64))) dT);simp[n,m,K,a1,a2,a3,a4,a7,aX,al];obtain⟨R,S,fl,ae,F,bA,fY,a1,a2,a3,a4,l2,t2,X⟩:=b9 _ I.tw;have ec:=I.call X t2 q;obtain⟨fi,c9⟩:=ec.g3;have eM:=λQ=>(ez c9 Q (b.size+3)).trans (ax rfl);have bu:=ec.put q (fi+1) (SR c j r o z (sl (u.map (T.int .i64))) (sl (bA.map (T.int .i64))));replace al:=al (dU 7 (bZ+1) [SR c j r o z (sl (u.map (T.int .i64))) dT]);generalize fF fA _ _=fX at*
  refine fG (λan=>?_) (λan=>?_);have ee:=bu.g2;have ef:=bu.rd;simp at ee ef;simp[n,a1,a2,a3,a4,c9,aX,eM,ee,ef];exact fin _ bu (Ds.sl l1) (Ds.sl l2);simp[n,al,I.g2,I.rd];exact fin _ I (Ds.sl l1) Ds.nil
section
def WW{j k:Type}{f:j->k->Prop}:∀{b:List j} {a:List k},b.length=a.length->(∀(e:Nat) c d,b[e]? =D c->a[e]? =D d->f c d)->jr f b a:=by
 intro b;induction b with
 |nil=>intro a h _;cases a with|nil=>exact .nil|cons i a=>simp at h
 |cons p b n=>
  intro a h g;rcases a with _|⟨i,a⟩
  simp at h;exact .cons (g 0 p i rfl rfl) (n (iD h) λe c d l m=>g (e+1) c d (iD l) (iD m))
structure Jw(lo bv:Nat)(h:H)(rs:List (List Int))(o:T)(xs:List T)(es:List T)(ver:Nat):Prop where
 gb:h.get bv=D ⟨1,0,ver,true,false,es⟩
 Ts:lo<=bv
 len:es.length=rs.length
 gr:∀(i:Nat) (e:T) (ns:List Int),es[i]? =D e->rs[i]? =D ns->Gr h e 1 (ns.map (T.int .i64))
 sep:∀(i:Nat) (e:T) (c:Nat),es[i]? =D e->fa e=D c->lo<=c/\c≠bv/\fa o≠some c/\∀(j:Nat) (e':T),es[j]? =D e'->fa e'=D c->i=j
 go:Gr h o 7 xs
 ob:∀c,fa o=D c->lo<=c/\c≠bv
variable {lo bv:Nat}{h h':H}{rs:List (List Int)}{o:T}{xs es:List T}{ver:Nat}
def Jw.lt(e:Jw lo bv h rs o xs es ver){a:Nat}{b:T}{c:Nat}(d:es[a]? =D b)(f:fa b=D c):c<h.size:=by have g:a<rs.length:=e.len▸(List.getElem?_eq_some_iff.1 d).1;have⟨_,_,_,_,i,_⟩:=(e.gr a b rs[a] d (aF g)).box f;exact H.fN i
def Jw.olt(c:Jw lo bv h rs o xs es ver){a:Nat}(b:fa o=D a):a<h.size:=by have⟨_,_,_,_,d,_⟩:=c.go.box b;exact H.fN d
def Jw.mp(a:Jw lo bv h rs o xs es ver)(e:∀b,lo<=b->b<h.size->h'.get b=h.get b):Jw lo bv h' rs o xs es ver:=
 ⟨(e _ a.Ts (H.fN a.gb)).trans a.gb,a.Ts,a.len,λg f j d i=>(a.gr g f j d i).mono λb c=>e b (a.sep g f b d c).1 (a.lt d c),a.sep,a.go.mono λb c=>e b (a.ob b c).1 (a.olt c),a.ob⟩
def Jw.rda(a:Jw lo bv h rs o xs es ver){b:Nat}(j:b<lo):Xf b h (.arr bv 0 0 rs.length false) rs:=
 ⟨es,a.len▸ .inr ⟨bv,0,ver,true,es,rfl,a.gb,aM⟩,qN a.Ts,WW a.len λe c g d f=>⟨a.gr e c g d f,λi=>iH (a.sep e c b d i).1⟩⟩
def _root_.Go.TI.Gr.ly{h:H}{a:T}{e:Nat}{es:List T}(c:Gr h a e es)(b:T):TI.ly a 0 [b]=D b:=by rcases c with⟨rfl,_⟩|⟨f,i,ver,j,xs,rfl,_⟩<;>exact wI λg d=>by cases d
def Jw.app(a:Jw lo bv h rs o xs es ver){b:Nat}{f:T}{v:List Int}(g:es[b]? =D f)(M:rs[b]? =D v){n:Int}{u:T}{s:H}(x:Xt h f 1 ((v++[n]).map (T.int .i64)) u s)(L:lo<=h.size)(C:Nat):
 Jw lo bv (fF s bv ⟨1,0,C,true,false,es.set b u⟩) (rs.set b (v++[n])) o xs (es.set b u) C/\s.get bv=D ⟨1,0,ver,true,false,es⟩:=by
 obtain⟨K,w,q,N⟩:=x;have F:=H.fN a.gb;have t:b<es.length:=(List.getElem?_eq_some_iff.1 g).1;have r:s.get bv=D ⟨1,0,ver,true,false,es⟩:=(w bv F λe=>(a.sep b f bv g e).2.1 rfl).trans a.gb;refine⟨⟨(ez r _ bv).trans (ax rfl),a.Ts,by simp[a.len],λl p I c j=>?_,λl p i c d=>?_,a.go.mono λi d=>?_,a.ob⟩,r⟩;by_cases e:b=l;subst e;rw[cR t]at c;rw[cR (a.len▸t)]at j;cases c;cases j;refine K.mono λi d=>?_;rw[ez r,aw];rintro rfl;rcases q _ d with k|k
 exact(a.sep b f _ g k).2.1 rfl;omega;rw[dh e]at c;rw[dh e]at j;refine(a.gr l p I c j).mono λi d=>?_;have m:=a.sep l p i c d;rw[ez r,aw m.2.1];exact w i (a.lt c d) λk=>e (m.2.2.2 b f g k).symm;by_cases e:b=l;subst e;rw[cR t]at c;cases c;refine⟨?_,?_,?_,λl p c y=>?_⟩;rcases q _ d with k|k;exact(a.sep b f _ g k).1;omega;rcases q _ d with k|k;exact(a.sep b f _ g k).2.1;omega;rcases q _ d with k|k;exact(a.sep b f _ g k).2.2.1;intro z;have:=a.olt z;omega;by_cases e:b=l;exact e;rw[dh e]at c;rcases q _ d with k|k
 exact(a.sep b f _ g k).2.2.2 l p c y;have:=a.lt c y;omega;rw[dh e]at c;have m:=a.sep l p i c d;refine⟨m.1,m.2.1,m.2.2.1,λk E j A=>?_⟩;by_cases B:b=k;subst B;rw[cR t]at j;cases j;rcases q _ A with z|z
 exact m.2.2.2 b f g z;have:=a.lt c d;omega;rw[dh B]at j;exact m.2.2.2 k E j A;rw[ez r,aw (a.ob i d).2];exact w i (a.olt d) λk=>(a.sep b f i g k).2.2.1 d
def Jw.out(a:Jw lo bv h rs o xs es ver){j:T}{n:List T}{f:H}(t:Xt h o 7 n j f)(v:lo<=h.size):Jw lo bv f rs j n es ver:=by
 obtain⟨u,k,l,w⟩:=t;have p:=H.fN a.gb;refine⟨(k bv p λs=>(a.ob bv s).2 rfl).trans a.gb,a.Ts,a.len,λg e r d f=>(a.gr g e r d f).mono λc b=>k c (a.lt d b) (a.sep g e c d b).2.2.1,λg e c d b=>?_,u,λc b=>?_⟩;have i:=a.sep g e c d b;refine⟨i.1,i.2.1,λq=>?_,i.2.2.2⟩;rcases l _ q with z|z
 exact i.2.2.1 z;have:=a.lt d b;omega;rcases l _ b with z|z;exact a.ob c z;exact⟨G,G⟩
end
section
attribute [-simp] size_cons
structure IPl where
 (L:List Int) (b:Nat) (s:gh) (w:fJ) (n:Nat) (early:Bool)
def aaw(a:IPl)(d:List T)(c:H):Prop:=d=[dY a.b,a.s.t,a.w.t,J a.n,.ej a.early]/\yT 0 a.L a.b c/\iS 0 c/\okB a.L/\a.L.length<=400/\a.n<=16/\a.w.d8.length=4/\a.w.cells.length=5/\a.w.je.length<=1000/\ox a.w a.s/\uM 1000 a.s/\1<=a.s.fI.length
def Up(a:IPl)(g:List T)(e:H)(f:T)(d:H):Prop:=∃c:List fR,f=sl (c.map fR.t)/\c.length<=a.n/\OV c/\runs a.w a.s c/\yT 0 a.L a.b d/\Sm a.b e d
def akw(a:fR)(d:H)(c:Nat->Prop):FT d c 2 a.t a.t:=by
 have e:∀b:List Int,FT d c 1 (sl (b.map (T.int .i64))) (sl (b.map (T.int .i64))):=λb=>sa _ _ _ λg f=>by obtain⟨h,_,rfl⟩:=List.mem_map.1 f;simp
 exact .inr (.inr ⟨a.cs,a.cs,rfl,.cons (iL ..) (.cons (iL ..) (.cons (iL ..) (.cons (iL ..) (.cons (iL ..) (.cons (e _) (.cons (e _) .nil)))))),rfl⟩)
def XN{a:H}(g:iS 0 a)(b c d:jI):(∀e,e<a.size->(fF ((a.cons b).cons c) (a.size+1) d).get e=a.get e)/\(fF ((a.cons b).cons c) (a.size+1) d).get a.size=D b/\(fF ((a.cons b).cons c) (a.size+1) d).get (a.size+1)=D d/\(fF ((a.cons b).cons c) (a.size+1) d).size=a.size+2:=by have f:=nT ((g.cons b).cons c).hp (show a.size+1<_ by simp[size_cons]);refine⟨λe h=>?_,?_,?_,by simp[size_cons]⟩;rw[f,aw G,fg,aw (by rw[size_cons];omega),fg,aw G];rw[f,aw G,fg,aw (by rw[size_cons];omega),fg,ax rfl];rw[f,ax rfl]
def wE.two{h:Nat}{f:List Int}{b:Nat}{e a:H}(i:wE h f b e a)(k:b<e.size)(g d j:jI):wE h f b e (fF ((a.cons g).cons d) (a.size+1) j):=
 ((i.cons g).cons d).put (c:=a.size+1) (x:=d) (by rw[fg,ax (by rw[size_cons])]) (iH i.w.size) k j
def PlC(a:gh):Prop:=a.cells.length=5/\1<=a.fI.length/\a.gH.d8.length<=98/\a.count.length=4
def PlJ(h:Nat)(d:List Int)(e:Nat)(a:H)(n:fJ)(k:gh)(i:Nat)(g:T)(o:List T)(b:H):Prop:=∃c f m l,wE h d e (TI.hr a) b/\b.get a.size=D (dU 7 l [k.t])/\b.get (a.size+1)=D (dU 6 0 [n.t])/\Jw (a.size+2) (a.size+2) b c g o f m/\a.size+3<=b.size/\c.length=4/\∀j∈c,j.length<=i
def ajL:(jS IPl aaw Up).Ok prog cx 46:=by
 refine uB (tb:=⟨pt [(94,oo)],ht [(91,mv),(93,jS IEv Ug JU)]⟩) jk iX (js 155347004713968546154151135 [(14,[(2,15)])] func46) (λ_ _=>1000) (λi a e fb=>by obtain⟨rfl,_⟩:=fb;simp[f46]) ?_;rintro⟨T,b,q,h,n,early⟩ _ e ⟨rfl,eu,eP,dn,e5,e9,ef,eK,fi,cb,eI,e7⟩ r bS
 dsimp at eu dn e5 e9 ef eK fi cb eI e7
 simp at bS;obtain⟨z,ae,bn,al,eD⟩:=bS;have an:=eu.tp.lt;have fX:(b=e.size)=False:=dP;have fY:(b=e.size+1)=False:=dP;simp[f46,ae,bn,ef];have c1:q.count.length=4:=by
  unfold ox at cb;simp[aC,aO]at cb;rw[cb.2,ef]
 generalize bN:(((TI.hr e).cons _).cons _).cons _=bH;have gj:bH.size=e.size+3:=by rw[<-bN];rfl
 have eC:wE 0 T b (TI.hr e) bH:=bN▸(((wE.refl eP.hr (eu.eq (iI e b))).cons _).cons _).cons _;have R:bH.get e.size=D (dU 7 0 [q.t]):=by rw[<-bN];simp
 have Z:bH.get (e.size+1)=D (dU 6 0 [h.t]):=by rw[<-bN];simp
 have eB:Jw (e.size+2) (e.size+2) bH [[],[],[],[]] dT [] [dT,dT,dT,dT] 0:=by
  rw[<-bN];refine⟨V,az _,rfl,λi u gd ae bn=>?_,λi u c ae bn=>?_,Gr.nil _ _,V⟩;rcases i with _|_|_|_|i<;>simp at ae bn<;>subst ae bn<;>exact Gr.nil _ _;rcases i with _|_|_|_|i<;>simp at ae<;>subst ae<;>simp at bn
 clear bN;have cL:PlJ 0 T b e h q 0 dT [] bH:=⟨_,_,_,_,eC,R,Z,eB,G,rfl,V⟩;refine gW 4 G (λj r y=>PlJ 0 T b e h q j dT [] y/\TI.Y r 0=D (dY b)/\TI.Y r 3=D (J n)/\TI.Y r 4=D (.ej early)/\TI.Y r 6=D (dY e.size)/\TI.Y r 7=D (dY (e.size+1))/\TI.Y r 11=D dT/\TI.Y r 12=D (.arr (e.size+2) 0 0 4 false)/\TI.Y r 22=D (J 4)/\TI.Y r 23=D (J j)) ?_ ?_ G ⟨cL,by simp[z,al,eD]⟩
 .rintro j r y e8 cX ⟨⟨v,s,C,Q,W,R,Z,U,aE,M,E⟩,z⟩;have c4:j<q.count.length:=G;have ea:(j:Int)<4:=G;have fE:(b=e.size+2)=False:=dP;have eA:PlJ 0 T b e h q (j+1) dT [] y:=⟨v,s,C,Q,W,R,Z,U,aE,M,λK hr=>Nat.le_succ_of_le (E K hr)⟩;cases early with
  |false=>
   simp[z,ea,cX,eA]
  |true=>
  by_cases eE:1<q.count[j];obtain⟨m,eR,dk,fP,aN,c6⟩:=W.next (tb:=⟨pt [(94,oo)],ht [(91,mv),(93,jS IEv Ug JU)]⟩) V dn 3 G G;simp[R,z,ea,c4,eE,dk];have I:Jw (e.size+2) (e.size+2) eR v dT [] s C:=U.mp λc o _=>c6.get c G;have aX:=(c6.get e.size G).trans R;have a7:=(c6.get (e.size+1) G).trans Z;have bp:=c6.size;refine fG (λbT=>?_) (λbT=>?_);have L:j<s.length:=by rw[I.len];omega
  have P:j<v.length:=G;obtain⟨cv,aA,b8,er,et,H⟩:=(Xt.refl (I.gr j s[j] v[j] (aF L) (aF P)) aN.w.ok).Zw 1 (iH (E v[j] (aH P)));obtain⟨F,bi⟩:=I.app (aF L) (aF P) H G (C+1);have c1:=(I.gr j s[j] v[j] (aF L) (aF P)).cells;have bX:∀c,fa s[j]=D c->e.size+2<=c:=λc o=>(I.sep j s[j] c (aF L) o).1;have de:=((aN.le (aB _)).xt H (λc ap=>qN (bX c ap)) (iD an)).put bi V (iD an) ⟨1,0,C+1,true,false,s.set j cv⟩;have B:∀c,c<e.size+2->(fF aA (e.size+2) ⟨1,0,C+1,true,false,s.set j cv⟩).get c=eR.get c:=λc ap=>by
   rw[ez bi,aw G];exact H.2.1 c G λo=>iH (bX c o)
  have dd:=H.2.2.2.sz;simp[I.gb,z,e8,L,cX,c1,b8,er,et,bi,(I.gr j s[j] v[j] (aF L) (aF P)).ly];exact⟨_,_,_,Q,de,(B _ G).trans aX,(B _ G).trans a7,F,dP,by simp[M],λK hr=>by
   rcases cw hr with k|rfl;exact Nat.le_succ_of_le (E K k);have:=E v[j] (aH P);simp;omega⟩
  simp[z,cX];exact⟨v,s,C,Q,aN.le (aB _),aX,a7,I,G,M,λK hr=>Nat.le_succ_of_le (E K hr)⟩;simp[R,z,ea,c4,cX,eE,eA]
 clear cL eB R Z eC z ae bn al eD;have eF:=cb;unfold ox m9 at eF;simp[aC,aO]at eF;rintro r y ⟨cL,z⟩;simp[z];refine Xa 401 (λj r y=>(∃O l,PlJ j T b e h (rV h q l) (j+4) O (l.map fR.t) y/\runs h q l/\l.length<=n/\OV l/\uM (1000+j) (rV h q l)/\PlC (rV h q l)/\TI.Y r 11=D O)/\TI.Y r 0=D (dY b)/\TI.Y r 3=D (J n)/\TI.Y r 6=D (dY e.size)/\TI.Y r 7=D (dY (e.size+1))/\TI.Y r 12=D (.arr (e.size+2) 0 0 4 false)) ?_ G (aB _) ⟨⟨dT,[],cL,rfl,aB _,λ_ h=>by simp at h,eI,?_,by simp[z]⟩,by simp[z]⟩;rintro j r y fL ⟨⟨O,l,⟨v,s,C,Q,W,R,Z,U,aE,M,E⟩,eb,eH,ds,ec,bW,bu⟩,z,al,bA,bC,ca⟩;obtain⟨gi,gg,e4,fS⟩:=W.g;simp[z,al,bu,U.go.len,e4];refine fG (λbT=>?_) (λbT=>?_);simp at bT;have fM:j<T.length:=G;simp[z,bA,bC,ca,R,Z];refine jl ajN V ⟨T,b,j,rV h q l,h,.arr (e.size+2) 0 0 4 false,v⟩ ⟨rfl,W.g,W.w.ok,dn,by have:=U.rda (b:=b) G;rw[M]at this;exact this,M,λK hr=>iH (E K hr),bW.1,bW.2.1,bW.2.2.1,eK⟩ ?_;rintro _ S ⟨u,rfl,e0,dk,t1,bZ⟩
 dsimp at e0 dk t1 bZ
 have aN:=W.call bZ t1;have I:Jw (e.size+2) (e.size+2) S v O (l.map fR.t) s C:=U.mp λc o _=>bZ.get c G;have aX:=(bZ.get e.size G).trans R;have a7:=(bZ.get (e.size+1) G).trans Z;have bp:=bZ.size;have b9:=λ{tb:ik} (ht:tb.p 94=D oo)=>C4 ht h (rV h q l) u G (ec.up G) G G;have eM:(e.size=S.size)=False:=dP;have eN:(e.size+1=S.size)=False:=dP;have eL:=aN.w.ok.low;have di:=λcp=>aN.two (iD an) (dU 7 1 [u.t]) (dU 7 0 [.eQ [dT,J 0,dT,dT,dT,dT,dT]]) (dU 7 1 [cp]);have N:=λcp=>XN aN.w.ok (dU 7 1 [u.t]) (dU 7 0 [.eQ [dT,J 0,dT,dT,dT,dT,dT]]) (dU 7 1 [cp]);cases o:tN h (rV h q l) u;rw[nl o]at b9;simp[z,al,bA,bC,bu,ca,aX,a7,eM,eN,eL,b9];obtain⟨B,av,b6,dd⟩:=N wH.t;exact⟨G,O,l,⟨v,s,C,Q,di _,(B _ G).trans aX,(B _ G).trans a7,I.mp λc _ o=>B c o,by rw[dd];omega,M,λK hr=>iH (E K hr)⟩,eb,eH,ds,ec.up G,bW,rfl⟩;have ee:kP h (rV h q l) u=(lA h (rV h q l) u,true):=by unfold kP;rw[ax o]
 rw[ee]at b9;simp[bA,bC,aX,a7,eM,eN,eL,b9];have X:=di (lA h (rV h q l) u).t;obtain⟨B,av,b6,c9⟩:=N (lA h (rV h q l) u).t;have a8:=(B e.size G).trans aX;have bs:=(B (e.size+1) G).trans a7;have F:Jw (e.size+2) (e.size+2) _ v O (l.map fR.t) s C:=I.mp λc _ o=>B c o;clear b9 di N B;generalize fF _ _ _=aA at*
 simp[av];have eU:PlJ (j+1) T b e h (rV h q l) (j+4) O (l.map fR.t) aA:=⟨v,s,C,Q,X,a8,bs,F,G,M,E⟩;refine lJ (λr c7=>(PlJ (j+1) T b e h (rV h q l) (j+1+4) O (l.map fR.t) c7/\S.size+2<=c7.size/\c7.get S.size=D (dU 7 1 [u.t])/\c7.get (S.size+1)=D (dU 7 1 [(lA h (rV h q l) u).t]))/\TI.Y r 0=D (dY b)/\TI.Y r 3=D (J n)/\TI.Y r 6=D (dY e.size)/\TI.Y r 7=D (dY (e.size+1))/\TI.Y r 11=D O/\TI.Y r 12=D (.arr (e.size+2) 0 0 4 false)/\TI.Y r 14=D (dY S.size)/\TI.Y r 15=D (dY (S.size+1))) (λbT=>?_) (λbT=>?_) ?_;obtain⟨A,ff,fe⟩:∃A:Nat,A<4/\lr u.eG=D A:=by
  have:=fT.1 (qO o).2.1;exact⟨u.eG.toNat,G,fO this.1⟩
 have L:A<s.length:=by rw[F.len];omega
 have P:A<v.length:=G;have c4:A<(rV h q l).count.length:=iH bW.2.2.2;have dm:=F.gr A s[A] v[A] (aF L) (aF P);obtain⟨cv,ey,b8,er,et,H⟩:=(Xt.refl dm X.w.ok).Zw (rV h q l).count[A] (iH (E v[A] (aH P)));obtain⟨eV,bi⟩:=F.app (aF L) (aF P) H G (C+1);have c1:=dm.cells;have bX:∀c,fa s[A]=D c->e.size+2<=c:=λc o=>(F.sep A s[A] c (aF L) o).1;have de:=(X.xt H (λc ap=>qN (bX c ap)) (iD an)).put bi V (iD an) ⟨1,0,C+1,true,false,s.set A cv⟩;have dd:=H.2.2.2.sz;have eh:=λc (k:fa s[A]=D c)=>I.lt (aF L) k;have eO:∀c,c<aA.size->(∀k,fa s[A]=D k->k≠c)->ey.get c=aA.get c:=λc aE bp=>H.2.1 c aE λk=>bp c k rfl;have B:∀c,c<aA.size->c≠e.size+2->(∀k,fa s[A]=D k->k≠c)->(fF ey (e.size+2) ⟨1,0,C+1,true,false,s.set A cv⟩).get c=aA.get c:=λc aE c9 bp=>by
  rw[ez bi,aw c9];exact eO c aE bp
 have sv:gJ (aA.cons (dU 1 0 [J (rV h q l).count[A]])) ey S.size:=il ((eO _ G λk o=>iH (eh k o)).trans d2);simp[F.gb,z,al,bA,bC,bu,ca,av,a8,fe,ff,L,c4,c1,b8,er,et,bi,dm.ly,sv];refine⟨⟨_,_,_,Q,de,(B _ G G λk o=>iH (bX k o)).trans a8,(B _ G G λk o=>iH (bX k o)).trans bs,eV,dP,by simp[M],λK hr=>?_⟩,G,(B _ G G λk o=>iH (eh k o)).trans av,(B _ G G λk o=>iH (eh k o)).trans b6⟩;rcases cw hr with k|rfl
 have:=E K k;omega;have:=E v[A] (aH P);simp;omega;simp[z,al,bA,bC,bu,ca];exact⟨⟨v,s,C,Q,X,a8,bs,F,G,M,λK hr=>iH (E K hr)⟩,G,av,b6⟩;have fA:∀c,fa O=D c->c<S.size:=λc=>I.olt;clear eU X a8 bs F av b6 c9 z al bA bC bu ca;rintro r eS ⟨⟨⟨v,s,C,Q,X,a8,bs,F,c9,M,E⟩,gk,av,b6⟩,z⟩;obtain⟨fv,fC,b8,H⟩:=F.go.mR (cx:=cx) (f:=fR.t) X.w.ok V3 rfl V2 rfl V (λ_=>rfl) u dP;have eo:∀c,fa O=D c->e.size+2<=c:=λc k=>(F.ob c k).1;have B:∀c,c<eS.size->(∀k,fa O=D k->k≠c)->fC.get c=eS.get c:=λc aE bp=>H.2.1 c aE λk=>bp c k rfl;have t6:=(B _ G λk o=>iH (fA k o)).trans b6;have b7:=(B e.size G λk o=>iH (eo k o)).trans a8;have eW:=F.out H G;have eX:=(X.xt H (λc ap=>qN (eo c ap)) (iD an)).put b7 V (iD an) (dU 7 (Q+1) [(lA h (rV h q l) u).t]);have bS:rV h q (l++[u])=lA h (rV h q l) u:=by
  show Am _ _ _=_;rw[Nf];show(kP h (rV h q l) u).1=_;rw[ee]
 have dd:=H.2.2.2.sz;simp[z,av,b8,t6,b7];refine⟨G,fv,l++[u],⟨v,s,C,Q+1,eX,?_,?_,eW.mp λc o _=>?_,dP,M,E⟩,?_,?_,?_,?_,?_,rfl⟩;rw[bS,ez b7,ax rfl];rw[ez b7,aw G];exact(B (e.size+1) G λk o=>iH (eo k o)).trans bs;rw[ez b7,aw G];rw[Gb,eb];simp[runs,r7,o];simp;omega;intro x hx;rcases List.mem_append.1 hx with hx|hx
 exact ds x hx;simp at hx;subst hx;omega;have:=ec.step h u;rw[ee]at this;rw[bS];exact this;have:=yx h (rV h q l).gH u.eG u.fc u.obj (mZ u);obtain⟨fl,fo,fW,fs⟩:=bW;rw[bS];exact⟨by unfold lA;simp only;split<;>simp[fl],by unfold lA;simp only;split<;>simp[fo],by show(gY ..).1.d8.length<=_;omega,by unfold lA;simp[fs]⟩;simp[bu];exact(W.le (aB _)).cut eP an (U.go.afr (d:=2) G (λc ap=>iH (U.ob c ap).1) akw) λcp fB=>⟨l,rfl,eH,ds,eb,fB,cp⟩;exact(⟨G,G,G,G⟩:PlC q)
end
def Qa:pI prog cx 79 (λa:eJ×Int×Int=>[a.1.t,J a.2.1,J a.2.2]) (λa=>a.1.ei.length<=1000000) (λa q=>∃m:Int,q= J m/\m<a.1.ei.length):=by refine j2 [] (js 20975823 [] func79) (λa=>a.1.ei.length+5) (λa b c=>by simp at c;exact aG (eJ.inj c.1) (aG c.2.1 c.2.2)) ?_;rintro⟨n,r,p⟩ hl e h;simp at hl h;simp[f79,h];refine gW n.ei.length G (λl e c=>∃j,iS 1 c/\c.get 0=D (dU 15 0 [n.t])/\TI.Y e 1=D (J r)/\TI.Y e 2=D (J j)/\TI.Y e 3=D (dY 0)/\TI.Y e 7=D (J l)) ?_ ?_ G ⟨p,⟨V,V,V⟩,by simp[h]⟩;rintro l e c o k ⟨j,f,g,d⟩;have s:=f.ne (b:=0) G;simp[g,d,o];refine fG (λi=>?_) (λi=>?_);simp[d];refine fG (λi=>?_) (λi=>?_);simp[d,f.hp];omega;simp[g,d,k,tv,f];simp[g,d,k,f];rintro e c ⟨j,f,g,d⟩;simp[g,d,f.hp];omega
def GN:pI prog cx 97 (λa:eJ=>[a.t]) (λa=>a.kH.count.length<=1000000/\a.ei.length<=1000000) (λ_=>E8):=by refine j2 [] (js 268436511 [] func97) (λa=>a.kH.count.length+5) (λk l b=>by simp at b;exact eJ.inj b) ?_;rintro a ⟨hl,n⟩ c f;simp at f;simp[f97,f];refine gW a.kH.count.length G (λg c b=>∃d,iS 1 b/\b.get 0=D (dU 15 0 [a.t])/\TI.Y c 1=D (dY 0)/\TI.Y c 3=D (J d)/\TI.Y c 4=D (J g)) ?_ ?_ G ⟨0,⟨V,V,V⟩,V⟩;rintro g c b o m ⟨d,e,h,i⟩;simp[*];refine fG (λj=>?_) (λj=>?_);simp[e.hp];simp[*,qI];rintro c b ⟨d,e,h,i⟩;simp[*,qI,e.hp]
def Nx(b:eJ)(a:ew):Prop:=Dj a=true->jx a.cond b.gG.je.length=true
def CA:pI prog cx 98 (λa:eJ=>[a.t]) (λa=>a.kH.gH.d8.length<=1000000/\a.kH.gH.d8.length=a.kH.count.length) (λa=>SD (∀m∈a.kH.gH.d8,Nx a m)):=by
 refine j2 [(152,II)] (js 162259279247065002620836359716991 [] func98) (λa=>a.kH.gH.d8.length+5) (λu b d=>by simp at d;exact eJ.inj d) ?_;rintro a ⟨hl,v⟩ g o;simp at o;simp[f98,o];refine gW a.kH.gH.d8.length G (λc g d=>iS 1 d/\d.get 0=D (dU 15 0 [a.t])/\TI.Y g 1=D (dY 0)/\TI.Y g 3=D (sl (a.kH.gH.d8.map ew.t))/\TI.Y g 4=D (J c)/\∀m∈a.kH.gH.d8.take c,Nx a m) ?_ ?_ G ⟨⟨V,V,V⟩,V⟩;rintro c g d n q ⟨f,h,i,j,k,l⟩;have r:a.kH.gH.d8.take (c+1)=a.kH.gH.d8.take c++[a.kH.gH.d8[c]]:=aT n;have w:=f.ne (b:=0) G;simp[h,i,j,k,n,show c<a.kH.count.length by omega];refine fG (λe=>?_) (λe=>?_);simp[f.hp];clear e;simp[h,i,j,k,n,Ww];refine fG (λe=>?_) (λe=>?_);simp[f.hp];simp[h,i,j,k,q,f];generalize a.kH.gH.d8[c]=m at*
 rw[r];intro s hu;rcases List.mem_append.1 hu with hu|hu
 exact l s hu;rw[List.mem_singleton.1 hu];intro p;unfold Dj at p;rw[p]at e;simpa using e;rintro g d ⟨f,h,i,j,k,l⟩;rw[aM]at l;simp[*,f.hp];exact l
def DU:pI prog cx 100 (λa:eJ×Int×List Int=>[a.1.t,J a.2.1,sl (a.2.2.map (T.int .i64))]) (λa=>a.1.ei.length<=1000000/\jx a.2.1 a.1.kH.count.length/\a.2.2.length<=1000000) (λ_=>E8):=by
 refine j2 [(79,Qa.jV)] (js 576460752336982479 [] func100) (λa=>a.2.2.length+5) (λa b c=>by simp at c;exact aG (eJ.inj c.1) (aG c.2.1 (j3 (λ_ _ c=>iD c) c.2.2))) ?_;rintro⟨m,o,l⟩ ⟨hl,j,u⟩ d h
 dsimp at hl j u
 simp at h;have⟨q,y,_⟩:=jm j;have ht:=fO (fT.1 j).1;simp[f100,h];refine gW l.length G (λk d c=>iS 1 c/\c.get 0=D (dU 15 0 [m.t])/\TI.Y d 1=D (J o)/\TI.Y d 2=D (sl (l.map (T.int .i64)))/\TI.Y d 3=D (dY 0)/\TI.Y d 7=D (J k)) ?_ ?_ G ⟨⟨V,V,V⟩,by simp[h]⟩;rintro k d c z x ⟨f,p,s⟩;have A:=f.ne (b:=0) G;obtain⟨_,⟨e,rfl,v⟩,r⟩:=Qa.use (m,o,IntKind.i64.wrap (l[k]-q)) hl
 dsimp at r v
 simp[*];refine fG (λi=>?_) (λi=>?_);simp[*];have w:decide (e<0)\/decide (e<0)=false/\lr e=D e.toNat/\∃n,m.ei[e.toNat]? =D n:=by
  by_cases g:e<0;exact .inl (bh g);exact .inr ⟨aS g,fO G,_,aF G⟩
 rcases w with g|⟨g,B,n,C⟩;simp[*,tv,f.hp];simp[*,tv];refine fG (λi=>?_) (λi=>?_);simp[*,f.hp];simp[*];rintro d c ⟨f,p,s⟩;simp[*,f.hp]
structure akM(w:eJ):Prop where
 l1:w.kH.gH.fQ.length<=1000000
 l2:w.kH.gH.d8.length<=1000000
 l3:∀l∈w.kH.gH.fQ,l.fZ.length<=1000000
 e:w.kH.gH.fQ.length=w.gG.fQ.length
 t:∀t∈w.kH.gH.d8,Nx w t
 m:∀c∈w.gG.je,jx c.mN w.kH.gH.fQ.length
def EM:pI prog cx 99 (λc:eJ=>[c.t]) akM (λ_=>E8):=by
 refine j2 [(153,zv)] (js 5575186465791384471966860632566831987622399 [] func99) (λc=>1000005) (λa b f=>by simp at f;exact eJ.inj f) ?_;rintro c o d z;simp at z;simp[f99,z];refine gW c.kH.gH.fQ.length (iH o.l1) (λh d f=>iS 2 f/\f.get 0=D (dU 15 0 [c.t])/\f.get 1=D (dU 4 1 [c.kH.gH.t])/\TI.Y d 1=D (dY 0)/\TI.Y d 3=D (dY 1)/\TI.Y d 4=D (J h)) ?_ ?_ (iH o.l1) ⟨⟨V,V,V⟩,V⟩;rintro h d f w H ⟨g,u,v,n⟩;have K:=g.ne (b:=0) G;have L:=g.ne (b:=1) G;have T:=o.l3 _ (aH w);have P:h<c.gG.fQ.length:=iH o.e;simp[*,g.low,Ak];have M:iS 2 (f.cons (dU 2 1 [c.kH.gH.fQ[h].t])):=g.cons _;have W:2<=f.size:=g.sz;generalize c.kH.gH.fQ[h]=k at*
 refine fG (λi=>?_) (λi=>?_);simp[g.hp];clear i;simp;refine gW k.fZ.length G (λl d p=>iS 2 p/\f.size<p.size/\p.get 0=D (dU 15 0 [c.t])/\p.get 1=D (dU 4 1 [c.kH.gH.t])/\p.get f.size=D (dU 2 1 [k.t])/\TI.Y d 1=D (dY 0)/\TI.Y d 3=D (dY 1)/\TI.Y d 4=D (J h)/\TI.Y d 5=D (dY f.size)/\TI.Y d 6=D (J l)) ?_ ?_ G ⟨M,V,by simp[*]⟩;rintro l d p S R ⟨x,I,C,E,F,n⟩;have U:=lK (a:=l) (b:=1) G G;have s:decide (0<l)=false/\True/\(∃r:Int,r=r)\/decide (0<l)/\lr ((l:Int)-1)=D (l-1)/\∃r,k.fZ[l-1]? =D r:=by
  by_cases q:0<l;refine .inr ⟨bh q,?_,_,aF G⟩;rw[show(l:Int)-1=((l-1:Nat):Int)by omega];exact fO G;exact .inl ⟨aS q,trivial,0,rfl⟩
 rcases s with⟨q,_,r,B⟩|⟨q,O,r,B⟩;simp[*,Ak];refine fG (λi=>?_) (λi=>?_);simp[x.hp];simp[*];simp[*,Ak];refine fG (λi=>?_) (λi=>?_);simp[x.hp];simp[*];rintro d p ⟨x,I,C,E,F,n⟩;simp[*];rintro d f ⟨g,u,v,n⟩;simp[*,Ak];refine fG (λi=>?_) (λi=>?_);simp[g.hp];clear i;simp;refine gW c.kH.gH.d8.length (iH o.l2) (λh d f=>iS 2 f/\f.get 0=D (dU 15 0 [c.t])/\f.get 1=D (dU 4 1 [c.kH.gH.t])/\TI.Y d 1=D (dY 0)/\TI.Y d 3=D (dY 1)/\TI.Y d 7=D (J h)) ?_ ?_ (iH o.l2) ⟨g,by simp[*]⟩;rintro h d f w H ⟨g,u,v,n,Q⟩;have K:=g.ne (b:=0) G;have L:=g.ne (b:=1) G;have ht:=o.t _ (aH w);simp[*,g.low,Ak];refine fG (λi=>?_) (λi=>?_);simp[*,g.hp];clear i;have s:Dj c.kH.gH.d8[h]=false/\True/\True/\(∃j:j7,j=j/\∃k:fk,k=k)\/Dj c.kH.gH.d8[h]/\lr c.kH.gH.d8[h].cond=D c.kH.gH.d8[h].cond.toNat/\True/\(∃j,c.gG.je[c.kH.gH.d8[h].cond.toNat]? =D j/\lr j.mN=D j.mN.toNat/\∃k,c.kH.gH.fQ[j.mN.toNat]? =D k):=by
  cases q:Dj c.kH.gH.d8[h];exact .inl ⟨rfl,trivial,trivial,default,rfl,default,rfl⟩;have n:=ht q;have⟨j,A,_⟩:=jm n;have y:=o.m j (aD A);have⟨k,hl,_⟩:=jm y;exact .inr ⟨rfl,fO (fT.1 n).1,trivial,j,A,fO (fT.1 y).1,k,hl⟩
 unfold Dj at s;rcases s with⟨N,_,_,j,_,k,_⟩|⟨N,O,_,j,B,X,k,Z⟩
 simp[*,g.cons];simp[*];refine fG (λi=>?_) (λi=>?_);simp[*,g.hp];simp[*,g.cons];rintro d f ⟨g,u,v,n⟩;simp[*,g.hp]
structure ahZ(w:eJ):Prop where
 c:w.kH.count.length<=1000
 ev:w.ei.length<=1000000
 l:w.kH.gH.fQ.length<=1000
 t:w.kH.gH.d8.length<=1000
 d:w.kH.gH.done.length<=1000
 f:w.kH.fI.length<=1000
 r:∀l∈w.kH.gH.fQ,l.fZ.length<=1000
 sm:uM 1000 w.kH
 wb:li w.gG
 es:OV w.ei
def IN:pI prog cx 47 (λd:eJ=>[d.t]) (λd=>ahZ d/\ox d.gG d.kH/\d.ei.length<=16) (λ_=>E8):=by
 refine j2 [(95,Bm),(96,AB),(97,GN.jV),(98,CA.jV),(99,EM.jV),(94,oo),(100,DU.jV)] (js 324518553667945246868126660821503 [] func47) (λd=>1000005) (λa b g=>by simp at g;exact eJ.inj g) ?_;rintro d ⟨i,O,ca⟩ k M;simp at M;have P:=O;unfold ox at P;simp only[aC,aO]at P;obtain⟨⟨⟨bA,_⟩,b9⟩,bu⟩:=P;have F:=bA;unfold m9 at F;simp only[aC,aO]at F;have⟨cb,cp,cv,cL,cX,c1⟩:=kW i.wb;have bC:∀n∈d.gG.je,jx n.mN d.kH.gH.fQ.length:=λn bp=>by
  rw[F.1.1.2];exact List.all_eq_true.1 F.1.1.1 n bp
 have ae:d.gG.je.length<=1099511627776:=G;have ap:li d.gG:=i.wb;obtain⟨_,⟨bZ,rfl⟩,X⟩:=GN.use d ⟨iH i.c,i.ev⟩;obtain⟨_,⟨aN,rfl,bn⟩,Z⟩:=CA.use d ⟨iH i.t,G⟩;cases aN with
 |false=>simp[f47,M,C1,KM,ap,O,X,Z,ae]
 |true=>
 obtain⟨_,⟨b6,rfl⟩,aX⟩:=EM.use d ⟨iH i.l,iH i.t,λbN s=>iH (i.r bN s),G,bn rfl,bC⟩;simp[f47,M,C1,KM,ap,O,X,Z,aX,ae];refine fG (λu=>?_) (λu=>?_);simp;clear u;simp;refine gW d.kH.fI.length (iH i.f) (λe k g=>iS 1 g/\g.get 0=D (dU 15 0 [d.t])/\TI.Y k 1=D (dY 0)/\TI.Y k 3=D (J e)) ?_ ?_ (iH i.f) ⟨⟨V,V,V⟩,V⟩;rintro e k g A N ⟨o,v,j⟩;have bs:e<d.kH.gH.done.length:=G;simp[v,j,A,bs];refine fG (λu=>?_) (λu=>?_);simp[o.hp];simp[v,j,N,o];rintro k g ⟨o,v,j⟩;have bS:=o.ne (b:=0) G;simp[v,j,o.low];have⟨I,b7⟩:∃I,g.size=I:=⟨_,rfl⟩;have b8:1<=I:=iH o.sz;refine gW d.ei.length G (λe k h=>∃H m,uM (1000+e) m/\iS 1 h/\g.size<h.size/\h.get 0=D (dU 15 0 [d.t])/\h.get g.size=D (dU 7 H [m.t])/\TI.Y k 1=D (dY 0)/\TI.Y k 4=D (dY g.size)/\TI.Y k 5=D (J e)) ?_ ?_ G ⟨1,d.kH,i.sm,o.cons _,V,by simp[v,j,bS]⟩;rintro e k h A N ⟨H,m,S,q,bH,w,C,j⟩;have av:=q.ne (b:=0) G;have aA:(g.size=h.size)=False:=dP;have E:=i.es d.ei[e] (aH A);have x:=λ{bX:ik} (ht:bX.p 94=D oo)=>C4 ht d.gG m d.ei[e] G (S.up G) E.1 E.2;have R:iS 1 ((h.cons (dU 7 1 [d.ei[e].t])).cons (dU 7 0 [T.eQ [T.em [] false,T.int .i64 0,T.em [] false,T.em [] false,T.em [] false,T.em [] false,T.em [] false]])):=(q.cons _).cons _;have B:=nT R.hp (show h.size+1<_ by simp);cases s:tN d.gG m d.ei[e]with
 |false=>
  rw[nl s]at x;simp[w,C,j,A,av,aA,q.low,x,q.hp]
 |true=>
  have al:kP d.gG m d.ei[e]=(lA d.gG m d.ei[e],true):=by unfold kP;rw[ax s]
  have bW:uM (1000+(e+1)) (lA d.gG m d.ei[e]):=by have:=S.step d.gG d.ei[e];rw[al]at this;exact this
  rw[al]at x;have an:jx d.ei[e].eG d.kH.count.length:=by
   unfold tN at s;simp only[aC]at s;rw[bu];exact s.1.1.1.1.1.1.1.1.2
  obtain⟨_,⟨r1,rfl⟩,K⟩:=DU.use (d,d.ei[e].eG,d.ei[e].nH) ⟨dQ,an,E.1⟩;obtain⟨_,⟨r2,rfl⟩,L⟩:=DU.use (d,d.ei[e].eG,d.ei[e].vU) ⟨dQ,an,E.2⟩;simp only at K L;simp[w,C,j,A,av,aA,q.low,x,K,L,B];generalize z:fF _ (h.size+1) _=y;have Q:iS 1 y:=z▸R.put _ _;have c4:y.size=h.size+1+1:=by rw[<-z];simp
  have U:∀n,n≠h.size+1->n≠h.size->y.get n=h.get n:=λn aE bT=>by rw[<-z,B,aw aE];simp[aE,bT]
  have a7:=(U 0 G G).trans w;have a8:=(U g.size G G).trans C;have bi:y.get (h.size+1)=D (dU 7 1 [(lA d.gG m d.ei[e]).t]):=by rw[<-z,B,ax rfl]
  clear z B R x K L;refine fG (λu=>?_) (λu=>?_);simp[Q.hp];simp[a8,bi,j,N];have W:=nT Q.hp (show g.size<y.size by omega);exact⟨H+1,_,bW,Q.put _ _,G,(W _ 0).trans ((aw G).trans a7),(W _ g.size).trans (ax rfl)⟩
 rintro k h ⟨H,m,S,q,bH,w,C,j⟩;simp[w,j,q.hp]
section
attribute [-simp] size_cons
def K1.fits{a:gh}(h:K1 a):ox ko a=true:=by have⟨b,c,d,e,f,g⟩:=h.n;unfold ox m9;rw[b,c,d,e,f,g];decide
def K1.sm{d:gh}(b:K1 d):uM 1000 d:=by
 have⟨g,h,i,j,k,l⟩:=b.n;refine⟨G,λa hl=>iH (b.r a hl).1,λa hl=>?_,λe f=>iH (b.c e f)⟩;have:=(b.r a hl).1
 match hr:a.fZ with
 | []=>exact List.Pairwise.nil
 | [x]=>exact List.pairwise_singleton _ _
 |x::o::m=>rw[hr]at this;simp at this
def K1.ask{c:gh}(b:K1 c){a:List fR}(hl:a.length<=16)(d:OV a)(e:Int):ahZ ⟨ko,e,c,a⟩:=by have⟨f,g,h,i,j,k⟩:=b.n;exact⟨dQ,dQ,dQ,dQ,dQ,dQ,λa hl=>iH (b.r a hl).1,b.sm,NQ,d⟩
def K1.win{d:gh}(c:K1 d){b:List fR}(hl:b.length<=16)(e:OV b)(hr:runs ko d b)(f:Int):kj ⟨ko,f,d,b⟩:=
 ⟨⟨hl,(by decide:ko.d8.length<=4),hr,c.sm.a⟩,NQ,c.sm,e,λb hl=>(c.r b hl).2⟩
def abr(b:Int):kj ⟨ko,b,kR ko,[]⟩:=
 ⟨⟨V,(by decide:ko.d8.length<=4),rfl,vX _⟩,NQ,(xS ko dR).up G,λc a=>by simp at a,y8 4 ko⟩
abbrev wT(c:Int)(a:gh)(b:T):T:= .eQ [sl (ko.cells.map ji.t),sl (ko.fQ.map jB.t),sl (ko.je.map j7.t),sl (ko.fI.map T.str),sl (ko.d8.map T.str),sl (ko.jL.map jE.t),J c,sl (a.gH.fQ.map fk.t),J a.gH.tx,sl (a.gH.done.map T.ej),sl (a.gH.d8.map ew.t),sl (a.cells.map (T.int .i64)),sl (a.fI.map (T.int .i64)),sl (a.count.map (T.int .i64)),b]
structure WnI(L:List Int)(s:gh)(n:Int)(e:T)(y:H):Prop where
 g0:y.get 0=D (dU 15 0 [.eQ [dT,dT,dT,dT,dT,dT,J 0,dT,J 0,dT,dT,dT,dT,dT,dT]])
 g2:∃ver,y.get 2=D (dU 15 ver [wT n s e])
 tp:yT 0 L 1 y
 ok:iS 3 y
def WnI.tape{b:List Int}{g:gh}{f:Int}{e:T}{h d:H}(c:WnI b g f e h)(j:yT 0 b 1 d)(a:Sm 1 h d):WnI b g f e d:=by have⟨k,i⟩:=c.g2;exact⟨(a.get 0 G).trans c.g0,⟨k,(a.get 2 G).trans i⟩,j,a.ok.hp,a.ok.low,a.size▸c.ok.sz⟩
theorem WnI.put{i:List Int}{d:gh}{n:Int}{k:T}{j:H}(a:WnI i d n k j)(h:Nat)(g:Int)(f:T):WnI i d g f (fF j 2 (dU 15 h [wT g d f])):=by have e:=nT (b:=2) a.ok.hp (iH a.ok.sz) (dU 15 h [wT g d f]);exact⟨(e 0).trans ((aw G).trans a.g0),⟨h,(e 2).trans (ax rfl)⟩,a.tp.eq ((e 1).trans (aw G)),a.ok.put _ _⟩
def ZP(b:Nat)(c:T):Prop:=∃a:eJ,c=a.t/\kj a/\a.ei.length<=b
def JX:pI prog cx 16 (λl:List Int×Nat=>[sl (l.1.map (T.int .u8)),J l.2]) (λl=>okB l.1/\l.2<=16) (λl=>ZP l.2):=by
 refine yF (tb:=⟨pt [(44,JJ),(48,tH),(47,IN.jV)],ht [(45,jS IBg aaF N3),(46,jS IPl aaw Up)]⟩) jk iX (js 1125900913478003 [] func16) (λ_=>10) (λl b v=>by simp at v;exact aG (j3 (λ_ _ v=>iD v) v.1) (iH v.2)) V nl9 ?_;rintro⟨B,y⟩ ⟨F,P⟩ e z
 dsimp at F P
 simp at z;simp[f16,z];refine lJ (λe k=>(∃i:List Int,okB i/\i.length<=400/\TI.Y e 0=D (sl (i.map (T.int .u8))))/\k=hE.cons (dU 15 0 [.eQ [dT,dT,dT,dT,dT,dT,J 0,dT,J 0,dT,dT,dT,dT,dT,dT]])/\TI.Y e 1=D (J y)/\TI.Y e 4=D (dY 0)) (λw=>?_) (λw=>?_) ?_;simp at w;simp[z,show 400<=B.length by omega];refine⟨B.take 400,⟨dP,λx aA=>F.2 x (bV aA)⟩,dP,rfl⟩;simp at w;simp[z];exact⟨B,F,G,rfl⟩;rintro e _ ⟨⟨i,M,al,C⟩,rfl,h,E⟩;simp[C,QT];generalize r:((hE.cons _).cons _).cons _=u;have bA:u.size=3:=by rw[<-r];rfl
 have a7:iS 0 u:=r▸⟨V,by simp[size_cons],V⟩;have a8:u.get 0=D (dU 15 0 [.eQ [dT,dT,dT,dT,dT,dT,J 0,dT,J 0,dT,dT,dT,dT,dT,dT]]):=by rw[<-r];simp[size_cons]
 have bi:u.get 1=D (dU 2 0 [.eQ [sl (i.map (T.int .u8)),J 0]]):=by rw[<-r];simp[size_cons]
 have bn:u.get 2=D (dU 15 1 [.eQ [sl (ko.cells.map ji.t),sl (ko.fQ.map jB.t),sl (ko.je.map j7.t),sl (ko.fI.map T.str),sl (ko.d8.map T.str),sl (ko.jL.map jE.t),J 0,dT,J 0,dT,dT,dT,dT,dT,dT]]):=by rw[<-r];simp[size_cons]
 clear r;refine jl ajO V ⟨i,1⟩ ⟨rfl,⟨0,0,bi,V⟩,a7,M⟩ ?_;rintro _ k ⟨g,rfl,j,t1,o⟩
 dsimp at t1 o
 have bs:=(o.get 2 G).trans bn;have bp:=(o.get 0 G).trans a8;have cb:k.size=3:=by rw[o.size,bA]
 have ae:=λd=>(nT (b:=2) o.ok.hp G d 2).trans (ax rfl);simp[bs,ae];have A:WnI i g 0 dT (fF k 2 (dU 15 2 [wT 0 g dT])):=by
  have s:=nT (b:=2) o.ok.hp G (dU 15 2 [wT 0 g dT]);exact⟨(s 0).trans ((aw G).trans bp),⟨2,(s 2).trans (ax rfl)⟩,t1.eq ((s 1).trans (aw G)),iS.put ⟨o.ok.hp,o.ok.low,G⟩ _ _⟩
 generalize fF k 2 _=bH at*
 refine gW 4 G (λm e k=>(∃f:Int,WnI i g f dT k/\0<=f/\f<=4*m)/\TI.Y e 1=D (J y)/\TI.Y e 4=D (dY 0)/\TI.Y e 5=D (dY 1)/\TI.Y e 6=D (dY 2)/\TI.Y e 26=D (sl (g.count.map (T.int .i64)))/\TI.Y e 27=D (J 4)/\TI.Y e 28=D (J m)) ?_ ?_ G ⟨⟨0,A,G,G⟩,by simp[h,E,j.n.2.2.2.2.2]⟩;clear A C h E;rintro m e k bT an ⟨⟨f,a,aE,aN⟩,h⟩;have ap:(m:Int)<4:=G;have O:m<g.count.length:=iH j.n.2.2.2.2.2;have⟨I,q⟩:=a.g2;have bS:=j.c g.count[m] (aH O);have U:binop .add (J f) (J g.count[m])=D (J (f+g.count[m])):=Db rfl G G;simp[h,ap,O,q,U,an];exact⟨_,a.put _ _ _,G,G⟩;clear A C h E;rintro e k ⟨⟨f,a,aE,aN⟩,h⟩;have⟨I,q⟩:=a.g2;have aX:min (y:Int) 16=y:=G;simp[h,q,aX];have⟨bX,bZ,b6,b7,b8,b9⟩:=j.n;refine jl ajL V ⟨i,1,g,ko,y,true⟩ ⟨rfl,a.tp,⟨a.ok.hp,a.ok.low,aB _⟩,M,al,P,(by decide:ko.d8.length=4),(by decide:ko.cells.length=5),(by decide:ko.je.length<=1000),j.fits,j.sm,dQ⟩ ?_;rintro _ ca ⟨Q,rfl,hl,N,hr,t2,S⟩
 dsimp at hl hr t2 S
 replace a:=a.tape t2 S;clear q;have⟨I,q⟩:=a.g2;have bC:=a.put (I+1) f (sl (Q.map fR.t));have L:=λd=>(nT (b:=2) a.ok.hp (iH a.ok.sz) d 2).trans (ax rfl);have av:=j.win G N hr f;obtain⟨_,⟨bN,rfl⟩,Z⟩:=IN.use ⟨ko,f,g,Q⟩ ⟨j.ask G N f,j.fits,dQ⟩;simp[h,q,L,Z];have s:=λd W=>nT (b:=2) a.ok.hp (iH a.ok.sz) d W;have K:=λd=>(s d 0).trans ((aw G).trans a.g0);have LG:=λd=>a.ok.put 2 d;have bu:=λd=>(LG d).sz;have R:=λd H=>(nT (b:=0) (LG d).hp (iH (bu d)) H 0).trans (ax rfl);have bW:=λd H=>((LG d).put 0 H).hp;refine fG (λw=>?_) (λw=>?_);have X:=λ{tb:ik} (ht:tb.p 48=D tH)=>HO ht ko dR dR dR dR;simp[h,QT,X,K,R];exact⟨⟨⟨ko,0,kR ko,[]⟩,rfl,abr 0,V⟩,a.ok.hp⟩;simp[h,L,K,R];exact⟨⟨_,rfl,av,dQ⟩,a.ok.hp⟩
end
def Aw:iE:=⟨Bool,λa=>[.ej a],λ_=>True,λa=> J (if a then 1 else 0),λc a b=>by simp at b;rw[b]⟩
def UK:Aw.Ok prog cx 291:=by refine iz [] (js 13 [] func291) (λ_=>5) (by simp[Aw]) ?_;rintro b _ c a;cases b<;>(simp[Aw]at a|-;simp[f291,a])
def QX{b:ik}(ht:b.p 291=D Aw)(a:Bool):rl prog cx b 291 [.ej a]=D (J (if a then 1 else 0)):=iF ht UK a trivial
def acv(c:T):Prop:=∃(b:Int) (a:Bool),c= .tuple [J b,.ej a]
def Ke(b:Int)(a:Bool):acv (.tuple [J b,.ej a]):=⟨b,a,rfl⟩
def abG{b:ak}{c a:Int}(e:¬a=0):binop .quo (.int b c) (.int b a)=D (.int b (b.wrap (c.tdiv a))):=by
 have d:XA a 0=false:=by rw[BM];simp[e]
 unfold binop;simp[AS,d]
def agq{a:ak}{b:Int}:unop .neg (.int a b)=D (.int a (a.wrap (0-b))):=by show rk a (0-b)=_;simp
def LD:pI prog cx 272 (λa:Int×Int=>[J a.1,J a.2]) (λ_=>True) (λ_=>acv):=by
 refine j2 [(291,Aw)] (js 2291 [] func272) (λ_=>5) (λa e b=>by simp at b;exact aG b.1 b.2) ?_;rintro⟨f,a⟩ _ g c;simp at c;simp[f272,c]
 repeat' (refine fG (λd=>?_) (λd=>?_)<;>simp[d,c,QX,Ke,agq])
def IY:pI prog cx 274 (λa:Int×Int×Int=>[J a.1,J a.2.1,J a.2.2]) (λ_=>True) (λ_=>acv):=by
 refine j2 [(291,Aw)] (js 9690595855641090246329287 [] func274) (λ_=>5) (λa e b=>by simp at b;exact aG b.1 (aG b.2.1 b.2.2)) ?_;rintro⟨g,a,e⟩ _ h c;simp at c;simp[f274,c]
 repeat' (refine fG (λd=>?_) (λd=>?_)<;>simp[d,c,QX,Ke,qI,tv,ack])
 all_goals (have f:¬e=0:=iD d)
 all_goals simp [abG f,Gf f,Ke]
def Bz:pI prog cx 273 (λa:Int=>[J a]) (λ_=>True) (λ_=>Ia):=by
 refine j2 [] (js 261 [] func273) (λ_=>5) (λa e d=>iD d) ?_;rintro a _ f b;simp at b;simp[f273,b]
 repeat' (refine fG (λc=>?_) (λc=>?_)<;>simp[c,b])
