/- W16e -/
import Derived.Test.YtalknpnbaceflaaGreatDoorA12
set_option linter.all false
set_option maxRecDepth 100000
set_option maxHeartbeats 0
namespace Go.Proofs.YtalknpnbaceflaaGreatDoor
noncomputable section
open Go Go.TI Tryz
attribute [-simp] List.map_take List.map_drop List.map_append ij gG fK Bool.not_or Bool.not_and
attribute [simp] ig gJ
def NK(b:List fR):Prop:=∀a∈b,a.nQ.length<=1000000/\a.wm.length<=1000000
def Ua(b:Prop)(c:T):Prop:=∃d a:Int,c= .tuple [C d,C a]/\(a=0↔b)
def wJ(c:Prop)(e b:Int):Ua c (.tuple [C e,C b])=(b=0↔c):=by
 unfold Ua;apply propext;constructor
 ·rintro⟨f,g,d,a⟩;simp at d;rw[d.2];exact a
 ·exact λa=>⟨e,b,rfl,a⟩
def lY{a:fy}(b:kM a=true):a.cells.length<=12/\a.fI.length<=4/\a.iL.length<=2/\a.fH.length<=2/\a.jy.length<=60/\a.ee.length<=4:=by
 unfold kM vk at b;simp only[az,aM]at b;omega
def H4:pM prog cx 48 (λo:lL=>[o.t]) (λo=>NK o.ej/\o.ej.length<=1000000) (λo=>Ua (sI o.fM o.ej=true)):=by
 refine jU [(83,AE),(44,sR),(82,pj),(94,wD)] (jF 9223372036871623167 [] func48) (λ_=>1000) (λj b f=>by simp at f;exact lL.inj f) ?_;rintro⟨a,c⟩ ⟨P,hl⟩ s O;simp only at P hl;simp at O;simp[f48,O];refine fN (λJ=>?_) (λJ=>?_)
 ·simp[wJ];simp at J;unfold sI;rw[aS B];simp
 simp at J;simp[Ck];refine fN (λz=>?_) (λz=>?_)
 ·simp[wJ];simp at z;unfold sI;rw[show kM a=false by simpa using z];simp
 have Q:kM a=true:=by simpa using z
 have⟨al,an,ap,av,aA,aE⟩:=lY Q;simp[GG,show a.fI.length<=1000000 by omega,show a.fH.length<=1000000 by omega,show a.ee.length<=1000000 by omega,show a.cells.length<=1000000 by omega];have W:sI a c=JL (rO a) VR (li a) [] (kA a) c:=by unfold sI;rw[Q,bM B];simp
 rw[W];refine ik c.length B (λe s f=>∃E i,u5 e i/\JL (rO a) VR (li a) [] (kA a) c=JL (rO a) VR (li a) (c.take e) i (c.drop e)/\iQ 2 f/\f.get 0=some (X 7 0 [lL.t ⟨a,c⟩])/\f.get 1=some (X 7 E [i.t])/\Y s 1 (.fc 0 0 0 0)/\Y s 4 (.fc 1 0 0 0)/\Y s 5 (C e)) ?_ ?_ B ?_
 ·rintro e s f y V ⟨E,i,K,g,h,l,F,r,I,m⟩;have v:=h.ne (b:=0) B;have R:=h.ne (b:=1) B;have n:=P c[e] (aG y);rw[aJ y,JL]at g;have ab:c.take (e+1)=c.take e++[c[e]]:=aP y;simp[l,F,r,I,m,y,v,R,h.low];generalize c[e]=d at*
  have q:=λ{L:io} (ht:L.p 82=some pj)=>EB ht a i d B (K.up B) n.1 n.2;have H:=λ{L:io} (ht:L.p 94=some wD) (S:List Int) (Z:S.length<=1000000)=>U2 ht c e d.eJ S B B Z;have N:(f.size=0)=False:=by have:=h.sz;simp;omega
  have A:∀j b k,fJ ((f.cons j).cons b) (f.size+1) k=(f.cons j).cons k:=λj b k=>Fh _ _ _ _ rfl (by have:=h.low;simp;omega);cases w:rO a i d with
  |false=>
   rw[mW w]at q;rw[w]at g;simp[m,h.hp,A,q,wJ,g]
  |true=>
   rw[show kz a i d=(li a i d,true)by unfold kz;rw[au w]]at q;cases x:yv (c.take e) d.eJ d.nQ with
   |false=>
    have:VR (c.take e) d=false:=by unfold VR;rw[x];rfl
    rw[this]at g;simp[l,r,m,v,h.hp,A,N,q,H,n.1,wJ,g,x]
    |true=>
    cases D:yv (c.take e) d.eJ d.wm with
    |false=>
     have:VR (c.take e) d=false:=by unfold VR;rw[D];simp
     rw[this]at g;simp[l,r,m,v,h.hp,A,N,q,H,n.1,n.2,wJ,g,x,D]
      |true=>
     have:VR (c.take e) d=true:=by unfold VR;rw[x,D];rfl
     rw[this,w]at g;have T:=K.step a d;rw[show kz a i d=(li a i d,true)by unfold kz;rw[au w]]at T;simp[l,F,r,I,m,v,R,A,N,q,H,n.1,n.2,x,D,V];have U:∀j b k u,(fJ ((f.cons j).cons b) 1 k).get u=if u=1 then some k else((f.cons j).cons b).get u:=λj b k u=>ou (by simp[h.hp]) G k u;refine⟨E+1,li a i d,T,by rw[ab];simpa using g,((h.cons _).cons _).put _ _,?_,?_⟩<;>rw[U]
     ·have ae:(0=f.size+1)=False:=G;simp[l,v]
     ·simp
 ·rintro s f ⟨E,i,K,g,h,l,F,r,I,m⟩;simp[JL]at g;simp[l,r,m,g,wJ,h.hp]
 ·exact⟨1,kA a,xd a B,G,⟨G,G,G⟩,G⟩
end
noncomputable section
open Go Go.TI
def GW(c:Nat)(d:gY):Prop:=∀b∈d.fI,∀a∈b.fO,0<=a/\a<c
def GW.pO{b:Nat}{c:gY}(f:GW b c){i:Int}{d:fa->fa}(g:∀a∈c.fI,∀e∈(d a).fO,0<=e/\e<b):GW b (c.pO i d):=by
 intro a hl;unfold gY.pO at hl;rcases mem_modify hl with j|⟨k,h,rfl⟩
 ·exact f a j
 ·exact g k h
def A9{f:Nat}{k:gY}(b:GW f k)(q:fy){g:Int}(ht:0<=g/\g<f)(n o r:Int):GW f (fZ q k g n o r).1:=by
 have m:∀(d:Int) (c:fa->fa),(∀a,(c a).fO=a.fO\/(c a).fO=m6 a.fO g\/(c a).fO=a.fO.filter λj=> !decide (j=g))->GW f (k.pO d c):=λd c h=>b.pO λa hl l i=>by
  rcases h a with e|e|e<;>rw[e]at i
  ·exact b a hl l i
  ·rcases F1 i with p|rfl
   ·exact b a hl l p
   ·exact ht
  ·exact b a hl l (List.mem_filter.1 i).1
 exact xR (P:=λj=>GW f j.1) b b (λ_ _ _=>b) (λd c h=>⟨m d c h,λ_ _=>m d c h⟩) (λ_=>b) (λ_ _=>b) (λ_=>b)
def PX{b:fy}{e:Nat}(j:b.ee.length<=e):∀(c:List fR) (a:gH),runs b a c=true->GW e a.gu->GW e (r9 b a c).gu:=by
 intro c;induction c with
 |nil=>intro a _ f;exact f
 |cons d c h=>
  intro a hr f;have hr:(rO b a d&&runs b (li b a d) c)=true:=hr;rw[az]at hr;have g:=rD a d hr.1;show GW e (r9 b (kz b a d).1 c).gu;rw[g];have⟨_,i,_⟩:=oF hr.1;have:=fQ.1 i;exact h _ hr.2 (A9 f b B _ _ _)
def GW.len{b:Nat}{c:gY}(d:GW b c)(e:c.Cx):∀a∈c.fI,a.fO.length<=b:=λa hl=>by
 have:=PV a.fO 0 b (e a hl) (d a hl);omega
def yo(a:Nat)(b:fy):GW a (kA b).gu:=by
 intro c hl;unfold kA mO at hl;simp only[List.mem_map]at hl;obtain⟨_,_,rfl⟩:=hl;simp
def wt(e:fy)(d:gY):Prop:=∀(b:Nat) (a:fa) (c:jq),d.fI[b]? =some a->e.fI[b]? =some c->a.fO≠ []->a.jg=-1/\c.rW=true
def wt.pO{f:fy}{e:gY}(j:wt f e){c:Int}{d:fa->fa}(k:∀a b,e.fI[c.toNat]? =some a->f.fI[c.toNat]? =some b->(d a).fO≠ []->(d a).jg=-1/\b.rW=true):wt f (e.pO c d):=by
 intro h a b hl g hr;simp only[gY.pO,cZ]at hl;by_cases i:c.toNat=h
 ·subst i;simp at hl;obtain⟨m,l,rfl⟩:=hl;exact k m b l g hr
 ·exact j h a b (by simpa[i]using hl) g hr
def wt.step{d:fy}{e:gY}{k p f x:Int}(u:∀h∈d.iL,tg d h.kU false=true)(a:wt d e)(c:iV d e k p f=true):wt d (fZ d e k p f x).1:=by
 unfold iV at c;simp only[az]at c;obtain⟨⟨⟨y,ht⟩,j⟩,c⟩:=c;have lk:∀{b:fa},0<=f->e.fI[f.toNat]? =some b->kl e f=b:=λi hl=>by simp[kl,qB,i,hl]
 rcases qr j with rfl|rfl|rfl|rfl|rfl|rfl|rfl|rfl|rfl|hk|hk|hk|hk
 iterate 9 exact a
 ·have i:=(fQ.1 (kJ j hk)).1;rcases hk with rfl|rfl|rfl|rfl|rfl|rfl
  all_goals
   simp only[vd,fZ]at c|-;simp at c|-;refine a.pO λb l hl o hr=>?_;have n:=a _ b l hl o;rw[lk i hl]at c;simp[j8,qB,i,o]at j
   grind
 ·obtain⟨h,t,m⟩:=jn (mZ j hk);have hl:=u h (aC t);have r:∀s:Int,wt d (e.pO h.kU λb=>{b with jg:=s}):=λs=>a.pO λb l v q w=>by
   have n:=a _ b l v q w;unfold tg qB at hl;split at hl
   ·rename_i z g;split at g
    ·rw[q]at g;simp only[aw]at g;subst g;simp at hl;rw[n.2]at hl;simp at hl
    ·simp at g
   ·simp at hl
  rcases hk with rfl|rfl|rfl|rfl
  ·simp[fZ,m];exact r (-1)
  ·simp[fZ,m];exact r k
  ·simp[fZ];split<;>exact a
  ·exact a
 ·rcases hk with rfl|rfl<;>exact a
 ·rcases hk with rfl|rfl<;>exact a
def abU{a:fy}(h:∀f∈a.iL,tg a f.kU false=true):∀(c:List fR) (b:gH),runs a b c=true->wt a b.gu->wt a (r9 a b c).gu:=by
 intro c;induction c with
 |nil=>intro b _ e;exact e
 |cons d c i=>
  intro b hr e;have hr:(rO a b d&&runs a (li a b d) c)=true:=hr;rw[az]at hr;have g:=rD b d hr.1;show wt a (r9 a (kz a b d).1 c).gu;rw[g];exact i _ hr.2 (e.step h (oF hr.1).2.2)
def HE{b:fy}(a:kM b=true):∀c∈b.iL,tg b c.kU false=true:=by
 unfold kM at a;simp only[az]at a;exact List.all_eq_true.1 a.1.2
def ES(b a:fy):wt a (kA b).gu:=by
 intro c d e hl _ hr;have:=aC hl;simp[kA,mO]at this;rw[<-this.2]at hr;simp at hr
end
noncomputable section
open Go Go.TI Tryz
attribute [-simp] List.map_take List.map_drop List.map_append ij gG fK Bool.not_or Bool.not_and
attribute [simp] ig gJ
section
attribute [-simp] size_cons
def Vw{c:fy}{d:gH}{b:List fR}{a:Nat}(e:a<b.length):r9 c d (b.drop a)=r9 c (kz c d b[a]).1 (b.drop (a+1)):=by
 rw[aJ e];rfl
def wG:iK:=⟨lL×Nat,λa=>[a.1.t,C a.2],λa=>kM a.1.fM=true/\NK a.1.ej/\a.2<=a.1.ej.length/\a.1.ej.length<=1000,λa=>(r9 a.1.fM (kA a.1.fM) (a.1.ej.take a.2)).t,λa c b=>by
 simp at b;rw[lL.inj b.1,show a.2=c.2 by omega]⟩
structure lj(w:fg):Prop where
 ok:yc w
 wb:kM w.fM=true
 sm:u5 1000 w.ka
 ev:NK w.ej
 rdt:GW 4 w.ka.gu
 rwo:wt w.fM w.ka.gu
def Rb:wG.Ok prog cx 49:=by
 refine iF [(44,sR),(82,pj)] (jF 4215 [] func49) (λ_=>2000) (by simp[wG]) ?_;rintro⟨⟨a,i⟩,k⟩ ⟨D,y,K,hl⟩ g x;simp only at D y K hl;simp[wG]at x|-;obtain⟨H,j⟩:=x;have⟨S,T,U,W,Z,ab⟩:=lY D;simp[f49,H,GG,show a.fI.length<=1000000 by omega,show a.fH.length<=1000000 by omega,show a.ee.length<=1000000 by omega,show a.cells.length<=1000000 by omega];refine ik k B (λe g d=>∃l f,u5 e f/\r9 a f ((i.take k).drop e)=r9 a (kA a) (i.take k)/\iQ 3 d/\d.get 0=some (X 7 0 [lL.t ⟨a,i⟩])/\d.get 1=some (X 7 0 [.eZ [dV,C 0,dV,dV,dV,dV,dV]])/\d.get 2=some (X 7 l [f.t])/\Y g 1 (C k)/\Y g 2 (.fc 0 0 0 0)/\Y g 4 (.fc 1 0 0 0)/\Y g 5 (.fc 2 0 0 0)/\Y g 6 (C e)) ?_ ?_ B ?_
 ·rintro e g d J I ⟨l,f,u,h,c,m,n,o,j,w,q,r,s⟩;have P:=c.ne (b:=0) B;have Q:=c.ne (b:=1) B;have R:=c.ne (b:=2) B;have A:e<i.length:=B;have z:=y i[e] (aG A);rw[Vw dR,List.getElem_take]at h;have E:=λ{L:io} (ht:L.p 82=some pj)=>EB ht a f i[e] B (u.up B) z.1 z.2;simp[m,o,j,w,q,r,s,A,E,J,I];have O:2<d.size:=by have:=c.sz;omega
  refine⟨l+1,(kz a f i[e]).1,u.step a _,h,c.put _ _,?_,?_,?_⟩<;>rw[ou c.hp O]<;>simp[m,n]
 ·rintro g d ⟨l,f,u,h,c,m,n,o,j,w,q,r,s⟩;rw[List.drop_eq_nil_of_le dR]at h;have N:1<d.size:=by have:=c.sz;omega
  have F:∀v,(fJ d 1 v).get 1=some v:=λv=>by rw[ou c.hp N];simp
  have h:f=_:=h;rw[<-h];simp[j,q,r,s,o,n,F,c.hp]
 ·exact⟨1,kA a,xd a B,G,by exact⟨G,G,G⟩,by simp[j]⟩
def HM:iK:=⟨fg×Int×Int,λa=>[a.1.t,C a.2.1,C a.2.2],λa=>a.1.ej.length<=1000000,λa=> C (xv a.2.1 a.1.ej 0 a.2.2),λa c b=>by simp at b;rw[show a=c from aD (fg.inj b.1) (aD b.2.1 b.2.2)]⟩
def aax:HM.Ok prog cx 78:=by
 refine iF [] (jF 20975823 [] func78) (λv=>v.1.ej.length+5) (by simp[HM]) ?_;rintro⟨m,p,u⟩ hl c q;simp[HM]at hl q|-;obtain⟨w,d,e⟩:=q;simp[f78,w];refine ik m.ej.length B (λk c j=>∃l,iQ 1 j/\j.get 0=some (X 15 0 [m.t])/\Y c 1 (C p)/\Y c 2 (C l)/\Y c 3 (.fc 0 0 0 0)/\Y c 7 (C k)/\xv p (m.ej.drop k) k l=xv p m.ej 0 u) ?_ ?_ B ⟨u,⟨G,G,G⟩,by simp[d,e]⟩
 ·rintro k c j s r ⟨l,g,h,d,e,i,f,a⟩;have x:=g.ne (b:=0) B;rw[aJ s]at a;simp only[xv]at a;simp[h,d,i,f,s];refine fN (λn=>?_) (λn=>?_)
  ·rw[au (by simpa using n)]at a;simp[e];refine fN (λo=>?_) (λo=>?_)
   ·rw[au (by simpa using o)]at a;simp[f,g.hp,<-a]
   ·rw[Z (by simpa using o)]at a;simp[h,d,e,i,f,r,uf,g,a]
  ·rw[Z (by simpa using n)]at a;simp[h,d,e,i,f,r,g,a]
 ·rintro c j ⟨l,g,h,d,e,i,f,a⟩;rw[bR]at a;simp only[xv]at a;simp[h,i,f,g.hp,<-a]
def afK{d:io}(ht:d.p 78=some HM)(a:fg)(c b:Int)(hl:a.ej.length<=1000000):rl prog cx d 78 [a.t,C c,C b]=some (C (xv c a.ej 0 b)):=iN ht aax (a,c,b) hl
def so:iK:=⟨fg×fT×Int,λa=>[a.1.t,a.2.1.t,C a.2.2],λa=>a.1.ej.length<=1000000/\a.2.1.order.length<=1000000,λa=> C (ja a.1 a.2.1 a.2.2),λa c b=>by simp at b;rw[show a=c from aD (fg.inj b.1) (aD (fT.inj b.2.1) b.2.2)]⟩
def TK:so.Ok prog cx 33:=by
 refine iF [(12,D2)] (jF 536875231 [] func33) (λv=>v.1.ej.length+5) (by simp[so]) ?_;rintro⟨l,i,m⟩ ⟨hl,y⟩ c p;simp only at hl y;simp[so]at p|-;obtain⟨w,x,b⟩:=p;simp[f33,w,x];refine ik l.ej.length B (λf c j=>iQ 2 j/\j.get 0=some (X 15 0 [l.t])/\j.get 1=some (X 9 0 [i.t])/\Y c 2 (C m)/\Y c 3 (.fc 0 0 0 0)/\Y c 4 (.fc 1 0 0 0)/\Y c 7 (C f)/\tZ m i.order (l.ej.drop f) f=ja l i m) ?_ ?_ B ⟨⟨G,G,G⟩,G,G,by simp[b,ja]⟩
 ·rintro f c j q o ⟨g,d,h,b,e,k,n,a⟩;rw[aJ q]at a;simp only[tZ]at a;cases s:decide (l.ej[f].eJ=m)<;>cases u:decide ((f:Int)∈i.order)
  all_goals
   have r:=s;have p2:=u;simp only[aM,cv]at r p2;simp only[r,p2]at a;simp at a;simp[d,h,b,e,k,n,q,s,u,RB,show i.order.length<=1099511627776 by omega]
  ·simp[d,h,b,e,k,o,g,a]
  ·simp[d,h,b,e,k,o,g,a]
  ·simp[g.hp,<-a]
  ·simp[d,h,b,e,k,o,g,a]
 ·rintro c j ⟨g,d,h,b,e,k,n,a⟩;rw[bR]at a;simp only[tZ]at a;simp[d,e,n,g.hp,<-a]
def JO{d:io}(ht:d.p 33=some so)(b:fg)(a:fT)(c:Int)(hl:b.ej.length<=1000000)(e:a.order.length<=1000000):rl prog cx d 33 [b.t,a.t,C c]=some (C (ja b a c)):=iN ht TK (b,a,c) ⟨hl,e⟩
def Uf(e:Int)(d:List Int):∀(b:List fR) (a:Nat),tZ e d b a<(a+b.length:Nat):=by
 intro b;induction b with
 |nil=>intro a;simp[tZ];omega
 |cons f b c=>
  intro a;have g:=c (a+1);simp only[tZ,aQ];split<;>omega
def rQ{a:fg}{b:fT}{c:Int}(d:¬ja a b c<0):ju (ja a b c) a.ej.length=true:=by
 have:=Uf c b.order a.ej 0;rw[fQ];unfold ja at*;omega
def qp:iK:=⟨fg×fT×Int×List Int,λa=>[a.1.t,a.2.1.t,C a.2.2.1,sl (a.2.2.2.map (T.int .i64))],λa=>a.1.ej.length<=1000000/\a.2.2.2.length<=1000000,λa=> .ez (oa a.1 a.2.1 a.2.2.1 a.2.2.2),λa c b=>by simp at b;rw[show a=c from aD (fg.inj b.1) (aD (fT.inj b.2.1) (aD b.2.2.1 (jV G b.2.2.2)))]⟩
def M6:qp.Ok prog cx 35:=by
 refine iF [(78,HM)] (jF 2361183242534469502783 [] func35) (λO=>O.2.2.2.length+5) (by simp[qp]) ?_;rintro⟨d,b,c,l⟩ ⟨hl,R⟩ j J;simp only at hl R;simp[qp]at J|-;obtain⟨D,E,e,f⟩:=J;cases w:ju c d.ka.count.length with
 |false=>
  have z:oa d b c l=decide (l=[]):=by unfold oa;rw[pF w]
  have ab:=rS w;have W:decide (l.length=0)=decide (l=[]):=by cases l<;>simp
  cases H:decide (c<0)
  ·have U:decide ((d.ka.count.length:Int)<=c)=true:=by simp at H;simp;omega
   simp[f35,D,E,e,f,H,U,z]
  ·simp[f35,D,E,e,f,H,z]
 |true=>
  have⟨first,v,Q⟩:=jn w;have y:=fU (fQ.1 w).1;have z:oa d b c l=l.all (AX d b.fixed c first):=by unfold oa;rw[Q]
  have⟨ae,al⟩:=fQ.1 w;simp[f35,D,E,e,show decide (c<0)=false by simp;omega,show decide ((d.ka.count.length:Int)<=c)=false by simp;omega,z];refine ik l.length B (λi j s=>iQ 2 s/\s.get 0=some (X 15 0 [d.t])/\s.get 1=some (X 9 0 [b.t])/\Y j 2 (C c)/\Y j 3 (sl (l.map (T.int .i64)))/\Y j 4 (.fc 0 0 0 0)/\Y j 5 (.fc 1 0 0 0)/\Y j 9 (C i)/\(l.drop i).all (AX d b.fixed c first)=l.all (AX d b.fixed c first)) ?_ ?_ B ⟨⟨G,G,G⟩,G,G,by simp[e,f]⟩
  ·rintro i j s o K ⟨n,k,r,e,f,m,u,h,a⟩;rw[aJ o,cA]at a;simp[k,e,f,m,h,o,y,v];refine fN (λF=>?_) (λF=>?_)
   ·have:AX d b.fixed c first l[i]=true:=by unfold AX;rw[F];rfl
    rw[this,bm]at a;simp[k,r,e,f,m,u,h,K,n,a]
   have S:AX d b.fixed c first l[i]=xZ b.fixed (xv c d.ej 0 (IntKind.i64.wrap (l[i]-first))):=by unfold AX;rw[F];rfl
   rw[S]at a;have A:=λ{V:io} (ht:V.p 78=some HM)=>afK ht d c (IntKind.i64.wrap (l[i]-first)) hl;generalize xv c d.ej 0 (IntKind.i64.wrap (l[i]-first))=g at*
   cases q:decide (g<0)with
   |true=>
    have p3:g<0:=by simpa using q
    have:xZ b.fixed g=false:=by unfold xZ qB;rw[Z B];rfl
    rw[this]at a;simp at a;simp[k,e,f,m,h,o,y,v,uf,A,q,n.hp,a]
   |false=>
   have p3:¬g<0:=by simpa using q
   cases x:decide ((b.fixed.length:Int)<=g)with
   |true=>
    have p4:(b.fixed.length:Int)<=g:=by simpa using x
    have:xZ b.fixed g=false:=by unfold xZ;rw[pF (by unfold ju;simp;omega)];rfl
    rw[this]at a;simp at a;simp[k,r,e,f,m,u,h,o,y,v,uf,A,q,x,n.hp,a]
   |false=>
    have p4:¬(b.fixed.length:Int)<=g:=by simpa using x
    have⟨I,L,P⟩:=jn (l:=b.fixed) (i:=g) (by rw[fQ];omega);have:xZ b.fixed g=I:=by unfold xZ;rw[P];rfl
    rw[this]at a;have N:=fU (show 0<=g by omega);cases I
    ·simp at a;simp[k,r,e,f,m,u,h,o,y,v,uf,A,q,x,N,L,n.hp,a]
    ·simp only[bm]at a;simp[k,r,e,f,m,u,h,o,y,v,uf,A,q,x,N,L,K,n,a]
  ·rintro j s ⟨n,k,r,e,f,m,u,h,a⟩;rw[bR]at a;simp at a;simp[f,h,n.hp];simpa using a
def Iv{e:io}(ht:e.p 35=some qp)(b:fg)(c:fT)(d:Int)(a:List Int)(hl:b.ej.length<=1000000)(f:a.length<=1000000):rl prog cx e 35 [b.t,c.t,C d,sl (a.map (T.int .i64))]=some (.ez (oa b c d a)):=iN ht M6 (b,c,d,a) ⟨hl,f⟩
end
def ahJ(c:T):Prop:=∃(a:List fg) (b:Int),c= .tuple [sl (a.map fg.t),C b]/\∀d∈a,lj d
def Vg{d:io}(ht:d.p 49=some wG)(b:fy)(a:List fR)(c:Nat)(e:kM b=true)(f:NK a)(g:c<=a.length)(h:a.length<=1000):rl prog cx d 49 [lL.t ⟨b,a⟩,C c]=some (r9 b (kA b) (a.take c)).t:=iN ht Rb (⟨b,a⟩,c) ⟨e,f,g,h⟩
def V0{w:fy}{b:List fR}(g:sI w b=true)(d:kM w=true)(i:NK b){e:Nat}(j:e<=16)(a:Nat):lj (Ag w b e a):=by
 have⟨c,h,l⟩:=Cj g;have⟨m,n,o,p,q,r⟩:=lY d;refine⟨RZ c h j a,d,?_,λf k=>i f (bP (bO k)),PX B _ _ (zf c a) (yo 4 w),abU (HE d) _ _ (zf c a) (ES w w)⟩;have:=(xd w B).r9 (w:=w) (b.take a);exact this.up dR 
def HW:pM prog cx 19 (λh:lL×Nat=>[h.1.t,C h.2]) (λh=>NK h.1.ej/\h.1.ej.length<=1000000/\1<=h.2/\h.2<=16) (λ_=>ahJ):=by
 refine jU [(48,H4.kc),(49,wG)] (jF 138478519 [(10,[(2,6),(6,8),(6,14),(6,17)])] func19) (λ_=>2000) (λh b g=>by simp at g;exact aD (lL.inj g.1) (by have:=g.2;omega)) ?_;rintro⟨⟨e,c⟩,a⟩ ⟨w,hl,ab,L⟩ l K;simp only at w hl ab L;simp at K;obtain⟨R,k⟩:=K;obtain⟨_,⟨x,y,rfl,ap⟩,U⟩:=H4.use ⟨e,c⟩ ⟨w,hl⟩;simp[f19,R,U];refine fN (λN=>?_) (λN=>?_)
 ·simp;exact⟨[],12,rfl,G⟩
 have q:sI e c=true:=ap.1 (by simpa using N);have O:kM e=true:=by
  unfold sI at q;simp only[az]at q;exact q.1.2
 have bn:c.length<=400:=(Cj q).2.2;simp[k,show¬(a:Int)<1 by omega,show¬(16:Int)<a by omega];generalize F:(c.length+(a-1))/a=o;have bi:o<=c.length+16:=by rw[<-F];exact aU (Nat.div_le_self _ _) B
 refine ik o B (λm l g=>∃s d,d=m*a/\fq s≠some 0/\Gr g s 15 (((List.range m).map λi=>Ag e c a (i*a)).map fg.t)/\iQ 1 g/\g.get 0=some (X 7 0 [lL.t ⟨e,c⟩])/\Y l 1 (C a)/\Y l 2 (.fc 0 0 0 0)/\Y l 8 s/\Y l 9 (C (d:Int))) ?_ ?_ B ?_
 ·rintro m l g Z _ ⟨s,d,r,H,A,n,u,k,v,D,E⟩;have bs:=n.ne (b:=0) B;have ae:d<c.length:=by
   rw[r];have k:(m+1)*a<=o*a:=aY a Z;have v:o*a<=c.length+(a-1):=by rw[<-F];exact Nat.div_mul_le_self _ _
   rw[cm]at k;omega
  have⟨aX,a8,Q,x⟩:=A.m9 (cx:=cx) (f:=fg.t) ⟨n.hp,n.low,ay _⟩ abj rfl abm rfl G (λ_=>rfl) (Ag e c a d) dR;have T:=λ{aN:io} (ht:aN.p 49=some wG)=>Vg ht e c d O w B B;have S:binop .add (C (d:Int)) (C (a:Int))=some (C ((d:Int)+a)):=jp B B;have⟨j,av,bp⟩:∃j:Nat,min ((d:Int)+a) (c.length:Int)=j/\j=min (d+a) c.length:=⟨min (d+a) c.length,B,rfl⟩;have aA:d<=j:=B;have aE:j<=c.length:=B;have al:(c.drop d).take (j-d)=(c.drop d).take a:=by
   rw[List.take_eq_take_iff];simp;omega
  have J:=Q;unfold Ag at J;simp[u,k,v,D,E,T,J,ae,S,av,aA,aE,al];have hr:((List.range m).map λi=>Ag e c a (i*a))++[Ag e c a d]=(List.range (m+1)).map λi=>Ag e c a (i*a):=by rw[List.range_succ,List.map_append,r];rfl
  rw[hr]at x;obtain⟨P,a6,a7,I⟩:=x;have z:=n.sz;rw[List.map_map]at P;exact⟨aX,λj=>(a7 0 j).elim H B,P,⟨I.hp,I.low,by have:=I.sz;omega⟩,(a6 0 B H).trans u,rfl,by rw[r];simp[Int.add_mul]⟩
 ·rintro l g ⟨s,d,r,H,A,n,u,k,v,D,E⟩;have W:¬d<c.length:=by
   rw[r,<-F];have:=Nat.div_add_mod (c.length+(a-1)) a;have bg:=Nat.mod_lt (c.length+(a-1)) (show a>0 by omega);rw[Nat.mul_comm]at this;omega
  simp[u,v,D,E,W];refine⟨.tuple [sl (((List.range o).map λi=>Ag e c a (i*a)).map fg.t),C 0],⟨_,0,rfl,λx an=>?_⟩,n.hp,by rw[A.rZ G];rfl⟩;obtain⟨i,_,rfl⟩:=List.mem_map.1 an;exact V0 q O w L _
 ·exact⟨dV,0,G,G,Gr.nil _ _,by exact⟨G,G,G⟩,by simp[k]⟩
end
noncomputable section
open Go Go.TI Tryz
section
attribute [-simp] List.map_take List.map_drop List.map_append
def HO:iK:=⟨Int×Nat,λa=>[C a.1,C a.2],λa=>True,λa=> .ez (ju a.1 a.2),λa c b=>by simp at b;rw[b.1,show a.2=c.2 by omega]⟩
def aaz:HO.Ok prog cx 127:=by
 refine iF [] (jF 19 [] func127) (λf=>1) (by simp[HO]) ?_;rintro⟨e,g⟩ _ h a;simp[HO]at a|-;obtain⟨b,c⟩:=a;by_cases d:0<=e<;>simp[f127,b,c,d,ju]
def Va{c:io}(ht:c.p 127=some HO)(a:Int)(b:Nat):rl prog cx c 127 [C a,C b]=some (.ez (ju a b)):=iN ht aaz (a,b) trivial
def JT(c:fg)(b:Int):Bool:=match qB c.ka.count b with|some a=>decide (1<=a)|none=>false
def yD:iK:=⟨fg×Int,λa=>[a.1.t,C a.2],λa=>True,λa=> .ez (JT a.1 a.2),λa c b=>by simp at b;rw[fg.inj b.1,b.2]⟩
def Q8:yD.Ok prog cx 128:=by
 refine iF [(127,HO)] (jF 23 [] func128) (λi=>1) (by simp[yD]) ?_;rintro⟨h,g⟩ _ k d;simp[yD]at d|-;obtain⟨b,c⟩:=d;cases a:ju g h.ka.count.length with
 |false=>simp[f128,b,c,Va,a,JT,pF a]
 |true=>
  have⟨j,e,f⟩:=jn a;simp[f128,b,c,Va,a,JT,e,f,fU (fQ.1 a).1]
def yY{c:io}(ht:c.p 128=some yD)(b:fg)(a:Int):rl prog cx c 128 [b.t,C a]=some (.ez (JT b a)):=iN ht Q8 (b,a) trivial
@[simp]theorem Vk (a:List T):fq (sl a)=none:=by cases a<;>rfl
def sv(a b:aa jK):Bool:=match a,b with|none,_=>true|some _,none=>false|some a,some b=>decide (a.ver=b.ver)
@[simp]def agm (a b:jK):sv (some a) (some b)=decide (a.ver=b.ver):=id rfl
def rI(b c:H)(a:Nat):gU b c a=sv (b.get a) (c.get a):=by
 unfold gU sv;cases b.get a with
 |none=>rfl
 |some d=>cases c.get a<;>simp
def SH:iK:=⟨fR,λa=>[a.t],λa=>True,λa=> .ez (vf a),λa c b=>by simp at b;rw[fR.inj b]⟩
def aaE:SH.Ok prog cx 143:=by
 refine iF [] (jF 7 [] func143) (λd=>1) (by simp[SH]) ?_;rintro(b:fR) _ e a;simp[SH]at a|-;by_cases c:b.fh=3<;>simp[f143,a,c,vf]
def Vh{b:io}(ht:b.p 143=some SH)(a:fR):rl prog cx b 143 [a.t]=some (.ez (vf a)):=iN ht aaE a trivial
def Br:iK:=⟨Int,λa=>[C a],λa=>True,λa=> .ez (tJ a),λa c b=>by simp at b;rw[b]⟩
def Tr:Br.Ok prog cx 107:=by
 refine iF [] (jF 29 [] func107) (λh=>1) (by simp[Br]) ?_;rintro(b:Int) _ i a;simp[Br]at a|-;by_cases c:b=6
 ·simp[f107,a,c,tJ]
 by_cases d:b=8
 ·simp[f107,a,d,tJ]
 by_cases e:b=10
 ·simp[f107,a,e,tJ]
 by_cases f:b=17
 ·simp[f107,a,f,tJ]
 by_cases g:b=21<;>simp[f107,a,c,d,e,f,g,tJ]
def XV{b:io}(ht:b.p 107=some Br)(a:Int):rl prog cx b 107 [C a]=some (.ez (tJ a)):=iN ht Tr a trivial
def vz:iK:=⟨iw×Int×Int,λa=>[a.1.t,C a.2.1,C a.2.2],λa=>ju a.2.1 a.1.w.ej.length=true/\ju a.2.2 a.1.w.ej.length=true,λa=> .ez (oe (kS a.1.w.ej a.2.1) (kS a.1.w.ej a.2.2)),λa c b=>by simp at b;rw[iw.inj b.1,b.2.1,b.2.2]⟩
def T5:vz.Ok prog cx 106:=by
 refine iF [(143,SH)] (jF 463 [(1,[(8,14),(10,14),(11,14)])] func106) (λb=>1) (by simp[vz]) ?_;rintro⟨m,p,q⟩ c t a;simp[vz]at c a|-;obtain⟨e,f,g⟩:=a;have⟨b,a,n⟩:=jn c.1;have⟨d,h,o⟩:=jn c.2;have i:=fU (fQ.1 c.1).1;have j:=fU (fQ.1 c.2).1;rw[show kS m.w.ej p=b by simp[kS,n],show kS m.w.ej q=d by simp[kS,o]];cases k:vf b with
 |false=>simp[f106,e,f,g,i,j,a,h,Vh,rI,k,oe]
 |true=>
  cases l:vf d with
  |false=>simp[f106,e,f,g,i,j,a,h,Vh,rI,k,l,oe]
  |true=>
   cases r:decide (b.obj=d.obj)<;>cases s:decide (b.fh=4)<;>simp[f106,e,f,g,i,j,a,h,Vh,rI,k,l,r,s,oe]
def EF{d:io}(ht:d.p 106=some vz)(a:iw)(b c:Int)(e:ju b a.w.ej.length=true)(f:ju c a.w.ej.length=true):rl prog cx d 106 [a.t,C b,C c]=some (.ez (oe (kS a.w.ej b) (kS a.w.ej c))):=iN ht T5 (a,b,c) ⟨e,f⟩
end
def CX{d:jm->Bool}{b c:jm}(a:c∈kH d b):c=b/\d b=true:=by
 unfold kH at a;split at a
 ·simp at a;exact⟨a,by assumption⟩
 ·simp at a
def Ri{e:GX}{c:jm}(h:c∈e.FU):
 (∃a b,c=gR a b/\e.vR c=true)\/(∃a f,c=gC f/\f∈e.Rx a)\/(∃a b,c=gL a b/\e.vR c=true)\/(∃a b g i,c=gA a b g i/\e.vR c=true):=by
 unfold GX.FU at h;simp only[dc]at h;rcases h with((h|h)|h)|h
 ·rw[cI]at h;obtain⟨a,_,h⟩:=h;rw[cI]at h;obtain⟨b,_,h⟩:=h;obtain⟨rfl,d⟩:=CX h;exact .inl ⟨a,b,rfl,d⟩
 ·rw[cI]at h;obtain⟨a,_,h⟩:=h;rw[List.mem_map]at h;obtain⟨f,j,rfl⟩:=h;exact .inr (.inl ⟨a,f,rfl,j⟩)
 ·rw[cI]at h;obtain⟨a,_,h⟩:=h;rw[cI]at h;obtain⟨b,_,h⟩:=h;obtain⟨rfl,d⟩:=CX h;exact .inr (.inr (.inl ⟨a,b,rfl,d⟩))
 ·rw[cI]at h;obtain⟨a,_,h⟩:=h;rw[cI]at h;obtain⟨b,_,h⟩:=h;split at h
  ·rw[cI]at h;obtain⟨g,_,h⟩:=h;rw[cI]at h;obtain⟨i,_,h⟩:=h;obtain⟨rfl,d⟩:=CX h;exact .inr (.inr (.inr ⟨a,b,g,i,rfl,d⟩))
  ·simp at h
def GX.Nr{e:GX}{d:jm}(f:d∈e.FU):e.vR d=true:=by
 rcases Ri f with⟨b,c,rfl,a⟩|⟨b,i,rfl,a⟩|⟨b,c,rfl,a⟩|⟨b,c,g,h,rfl,a⟩
 ·exact a
 ·exact(Pq _ _ _ a).1
 ·exact a
 ·exact a
def afP(a:fg):aa GX:=if a.ej.length<=16/\a.fM.ee.length<=4 then(ana a.fM a.ka.gu a.ej).map λb=>⟨a.fM,a.ej,b⟩else none
def yc.ana{b:fg}(a:yc b):afP b=some b.gx:=by
 unfold afP;rw[au ⟨a.len,a.pf⟩,Vr _ _ a.run];rfl
end
noncomputable section
open Go Go.TI Tryz
attribute [-simp] List.map_take List.map_drop List.map_append ij gG fK Bool.not_or Bool.not_and
attribute [simp] ig gJ
section
attribute [-simp] size_cons
def vM{e:fy}{d:gY}{a:Int}(h:mK e d=true)(c:ju a e.fI.length=true):∃b,lJ a=some a.toNat/\d.fI[a.toNat]? =some b/\kl d a=b:=by
 rw[<-(kY h).1]at c;have⟨b,f,g⟩:=jn c;exact⟨b,fU (fQ.1 c).1,f,by simp[kl,g]⟩
def EA{d:fy}{e:gY}{b:Int}(g:mK d e=true)(h:ju b d.iL.length=true):∃a c,lJ b=some b.toNat/\d.iL[b.toNat]? =some a/\lJ a.kU=some a.kU.toNat/\e.fI[a.kU.toNat]? =some c/\pT d e b=c:=by
 have⟨a,f,i⟩:=jn h;have⟨c,j,k,l⟩:=vM g (r7 g f);exact⟨a,c,fU (fQ.1 h).1,f,j,k,by simp[pT,i,l]⟩
def xc{e:fy}{d:gY}{a:Int}(h:mK e d=true)(c:ju a e.ee.length=true):∃b,lJ a=some a.toNat/\d.ee[a.toNat]? =some b/\j2 d a=b:=by
 rw[<-(kY h).2.2]at c;have⟨b,f,g⟩:=jn c;exact⟨b,fU (fQ.1 c).1,f,by simp[j2,g]⟩
def lj.at{b:fg}(j:lj b){i:Int}(c:ju i b.ej.length=true):∃a:fR,b.ej[i.toNat]? =some a/\lJ i=some i.toNat/\b.gx.e i=a/\ju a.eJ b.fM.ee.length=true/\j8 b.fM a.fh a.obj=true:=by
 have⟨a,d,f,g,h⟩:=j.ok.e c;exact⟨a,d,fU (fQ.1 c).1,f,g,h⟩
def lj.rd{w:fg}(c:lj w){b:Int}(g:ju b w.ej.length=true):(∀d∈(w.gx.s b).fI,d.fO.length<=2000)/\(w.gx.s b).Cx:=by
 have e:=c.sm.r9 (w:=w.fM) (w.ej.take b.toNat);rw[(c.ok.s g).1];exact⟨λd hl=>by have f:=e.r d hl;have h:=c.ok.len;simp at f;omega,e.a⟩
structure vZ(w:fg)(c:fT):Prop where
 hw:lj w
 hc:xU 1000000 w c
def pK{e:Type}{b:List e}{c:Int}(a:ju c b.length=true):b≠ []:=λd=>by rw[d,fQ]at a;simp at a
def vZ.l{c:fg}{a:fT}(b:vZ c a)(d:c.ej≠ []):a.gu.fI.length<=4/\a.gu.done.length<=2/\a.gu.ee.length<=4:=by
 have e:=kY (b.hc.ft d);have f:=lY b.hw.wb;omega
def vZ.sm{d:fg}{c:fT}(a:vZ d c)(b:d.ej≠ []):c.gu.sm:=⟨by have:=a.l b;omega,by have:=a.l b;omega,by have:=a.l b;omega,λe f=>by have:=a.hc.rd e f;omega⟩
def vZ.ev{a:fg}{b:fT}(c:vZ a b):a.ej.length<=1000000:=by have:=c.hw.ok.len;omega
def vZ.od{c:fg}{a:fT}(b:vZ c a):a.order.length<=1000000:=by have:=b.hc.od;omega
def ny{c:List fR}{a:Int}{b:fR}(e:0<=a)(d:c[a.toNat]? =some b):kS c a=b:=by unfold kS qB;rw[au e,d];rfl
def qf:iK:=⟨fg×fT×Int,λa=>[a.1.t,a.2.1.t,C a.2.2],λa=>vZ a.1 a.2.1,λa=> .ez (jk a.1 a.2.1 a.2.2),λa c b=>by simp at b;rw[show a=c from aD (fg.inj b.1) (aD (fT.inj b.2.1) b.2.2)]⟩
def KV:qf.Ok prog cx 15:=by
 refine iF [(33,so),(34,nV),(35,qp)] (jF 16863 [] func15) (λw=>5) (by simp[qf]) ?_;rintro⟨a,b,d⟩ (c:vZ a b) A q;simp[qf]at q|-;obtain⟨j,k,l⟩:=q;have hE:=jk.eq_1 a b d;generalize jk a b d=v at*
 have n:=λ{g:io} (ht:g.p 33=some so)=>JO ht a b d c.ev c.od;by_cases f:ja a b d<0
 ·rw[au f]at hE;simp[f15,j,k,l,n,f,hE]
 ·rw[Z f]at hE;have m:=rQ f;have⟨e,h,o,x,y,z⟩:=c.hw.at m;rw[ny (fQ.1 m).1 h]at hE;have t:=c.hw.ev e (aC h);have s:a.fM.iL.length<=1099511627776:=by have:=lY c.hw.wb;omega
  have r:=λ{g:io} (ht:g.p 34=some nV)=>xN ht a.fM b.gu d e.fh e.obj s (c.sm (pK m));have u:=λ{g:io} (ht:g.p 35=some qp)=>Iv ht a b d e.nQ c.ev t.1;cases i:iV a.fM b.gu d e.fh e.obj
  ·rw[i]at hE;simp[f15,j,k,l,n,f,h,o,r,i,hE]
  ·rw[i,bm]at hE;simp[f15,j,k,l,n,f,h,o,r,i,u,hE]
def QQ:uF.Ok prog cx 136:=by
 refine iF [] (jF 19 [] func136) (λf=>1) (by simp[uF]) ?_;rintro⟨e,g⟩ _ h a;simp[uF]at a|-;obtain⟨b,c⟩:=a;by_cases d:0<=e<;>simp[f136,b,c,d,ju]
def Cm{c:io}(ht:c.p 136=some uF)(a:Int)(b:Nat):rl prog cx c 136 [C a,C b]=some (.ez (ju a b)):=iN ht QQ (a,b) trivial
def Fa:iK:=⟨fy×gY,λa=>[a.1.t,a.2.t],λa=>mK a.1 a.2=true/\a.1.iL.length<=1000000,λa=> .ez true,λa b c=>rfl⟩
def WP:Fa.Ok prog cx 135:=by
 refine iF [(136,uF)] (jF 35315368591455 [] func135) (λv=>1000005) (by simp[Fa]) ?_;rintro⟨e,w⟩ ⟨h,r⟩ a l;simp only at h r;simp[Fa]at l|-;obtain⟨o,p⟩:=l;have⟨l1,l2,l3⟩:=kY h;simp[f135,o,p,l1,l2,l3];refine ik e.iL.length B (λn a d=>iQ 2 d/\d.get 0=some (X 6 0 [e.t])/\Y a 2 (.fc 0 0 0 0)/\Y a 33 (sl (e.iL.map jG.t))/\Y a 34 (C e.iL.length)/\Y a 35 (C n)) ?_ ?_ B ⟨by exact⟨G,G,G⟩,G⟩
 ·rintro n a d m q ⟨c,i,j,k,f,g⟩;have s:=r7 h (aB m);have u:=c.ne (b:=0) B;simp[i,j,k,f,g,m,u,c.low,Cm,s,q];exact c.cons _
 ·rintro a d ⟨c,i,j,k,f,g⟩;simp[f,g,c.hp]
def yE:iK:=⟨fy×Int×Int,λa=>[a.1.t,C a.2.1,C a.2.2],λa=>j8 a.1 a.2.1 a.2.2=true,λa=> .ez true,λa b c=>rfl⟩
def Ra:yE.Ok prog cx 137:=by
 refine iF [(136,uF)] (jF 606826398900554784047567 [] func137) (λl=>1) (by simp[yE]) ?_;rintro⟨k,a,j⟩ b m f;replace b:j8 k a j=true:=b;simp[yE]at f|-;obtain⟨c,d,e⟩:=f;have hr:=qr b;have g:a=1\/a=2\/a=3\/a=4\/a=5\/a=6\/a=7\/a=8\/a=9\/a=10\/a=11\/a=12\/a=13\/a=14\/a=15\/a=16\/a=17\/a=18\/a=19\/a=20\/a=21\/a=22\/a=23:=B;rcases g with rfl|rfl|rfl|rfl|rfl|rfl|rfl|rfl|rfl|rfl|rfl|rfl|rfl|rfl|rfl|rfl|rfl|rfl|rfl|rfl|rfl|rfl|rfl
 case inr.inr.inr.inr.inr.inl|inr.inr.inr.inr.inr.inr.inl|inr.inr.inr.inr.inr.inr.inr.inl|inr.inr.inr.inr.inr.inr.inr.inr.inl|inr.inr.inr.inr.inr.inr.inr.inr.inr.inl|inr.inr.inr.inr.inr.inr.inr.inr.inr.inr.inl=>
  have hl:=kJ b B;obtain⟨n,h,i⟩:=jn hl;simp[j8,i]at b;simp[f137,c,d,e,Cm,hl,h,b,fU (fQ.1 hl).1]
 all_goals
  simp[j8]at b;simp[f137,c,d,e,Cm,b]
def xi:iK:=⟨List Int×Int,λa=>[sl (a.1.map (T.int .i64)),C a.2],λa=>a.1.length<=1000000,λa=> C (nJ a.1 a.2 0),λa c b=>by simp at b;rw[jV (λ_ _ b=>by simpa using b) b.1,b.2]⟩
def TT:xi.Ok prog cx 74:=by
 refine Ah (tb:=⟨pt [],ht []⟩) jv jl (jF 66483 [] func74) (λ_=>1000005) (by simp[xi]) nl9 ?_;rintro⟨d,k⟩ hl b l;replace hl:d.length<=1000000:=hl;simp[xi]at l|-;obtain⟨c,e⟩:=l;simp[f74,c];refine ik d.length B (λh b i=>i=hE/\nJ (d.drop h) k h=nJ d k 0/\Y b 0 (sl (d.map (T.int .i64)))/\Y b 1 (C k)/\Y b 7 (C d.length)/\Y b 8 (C h)) ?_ ?_ B (by simp[c,e])
 ·rintro h b i m n ⟨rfl,a,c,e,f,g⟩;rw[aJ m]at a;simp only[nJ]at a;simp[c,e,f,g,m];refine fN (λj=>?_) (λj=>?_)
  ·rw[au (by simpa[eq_comm]using j)]at a;simp[<-a]
  ·rw[Z (by simpa[eq_comm]using j)]at a;simp[c,e,f,g,n,a]
 ·rintro b i ⟨rfl,a,c,e,f,g⟩;rw[bR]at a;simp only[nJ]at a;simp[f,g,<-a]
def PQ{c:io}(ht:c.p 74=some xi)(a:List Int)(b:Int)(hl:a.length<=1000000):rl prog cx c 74 [sl (a.map (T.int .i64)),C b]=some (C (nJ a b 0)):=iN ht TT (a,b) hl
def po:iK:=⟨List Int×Int,λa=>[sl (a.1.map (T.int .i64)),C a.2],λa=>a.1.length<=1000000,λa=> .ez (decide (a.2∈a.1)),λa c b=>by simp at b;rw[jV (λ_ _ b=>by simpa using b) b.1,b.2]⟩
def M9:po.Ok prog cx 73:=by
 refine Ah (tb:=⟨pt [(74,xi)],ht []⟩) jv jl (jF 19 [] func73) (λe=>1) (by simp[po]) nl9 ?_;rintro⟨d,g⟩ hl f a;replace hl:d.length<=1000000:=hl;simp[po]at a|-;obtain⟨b,c⟩:=a;simp[f73,b,c,PQ,hl,Fs]
def qz{c:io}(ht:c.p 73=some po)(a:List Int)(b:Int)(hl:a.length<=1000000):rl prog cx c 73 [sl (a.map (T.int .i64)),C b]=some (.ez (decide (b∈a))):=iN ht M9 (a,b) hl
structure EnG(w:fy)(s:gY)(t k o:Int):Prop where
 f:mK w s=true
 th:ju t w.ee.length=true
 n:j8 w k o=true
 c:w.iL.length<=1000000
 r:∀l∈s.fI,l.fO.length<=1000000
structure EnF(w:fy)(s:gY)(t k o:Int):Prop where
 f:mK w s=true
 th:ju t w.ee.length=true
 n:j8 w k o=true
 e:vd w s t k o=true
 c:w.iL.length<=1000000
 r:∀l∈s.fI,l.fO.length<=1000000
def Po(a b:fy×gY×Int×Int×Int)(c:([a.1.t,a.2.1.t,C a.2.2.1,C a.2.2.2.1,C a.2.2.2.2]:List T)=[b.1.t,b.2.1.t,C b.2.2.1,C b.2.2.2.1,C b.2.2.2.2]):a=b:=by
 simp at c;exact aD (fy.inj c.1) (aD (gY.inj c.2.1) (aD c.2.2.1 (aD c.2.2.2.1 c.2.2.2.2)))
def Bw:iK:=⟨fy×gY×Int×Int×Int,λa=>[a.1.t,a.2.1.t,C a.2.2.1,C a.2.2.2.1,C a.2.2.2.2],λa=>EnG a.1 a.2.1 a.2.2.1 a.2.2.2.1 a.2.2.2.2/\a.2.2.2.1≠1/\a.2.2.2.1≠17/\(j2 a.2.1 a.2.2.1).je=2,λa=> .ez (vd a.1 a.2.1 a.2.2.1 a.2.2.2.1 a.2.2.2.2),λa b c=>by rw[Po a b c]⟩
def TD:Bw.Ok prog cx 138:=by
 refine iF [(73,po)] (jF 5868843906288553182383292937158044313155908148351 [] func138) (λz=>1) (by simp[Bw]) ?_;rintro⟨I,F,y,a,x⟩ ⟨⟨f,ht,g,u,hr⟩,v,w,b⟩ H m;simp only at f ht g u hr v w b;simp[Bw]at m|-;obtain⟨c,d,h,e,j⟩:=m;have E:=qr g;obtain⟨l1,l2,l3⟩:=kY f;have hc:a=2\/a=3\/a=4\/a=5\/a=12\/a=13\/(a=6\/a=7\/a=8\/a=9\/a=10\/a=11)\/(a=14\/a=15)\/(a=16\/a=18\/a=19)\/(a=20\/a=21)\/(a=22\/a=23):=B;rcases hc with rfl|rfl|rfl|rfl|rfl|rfl|hc|hc|hc|hc|hc
 case inr.inr.inr.inr.inr.inr.inl=>
  obtain⟨i,a1,a2,a3⟩:=vM f (kJ g B);have hl:=hr i (aC a2);rcases hc with rfl|rfl|rfl|rfl|rfl|rfl<;>cases l:decide (i.jg=-1)<;>simp[f138,c,d,h,e,j,a1,a2,qz,hl,vd,b,a3,l]
 case inr.inr.inr.inr.inr.inr.inr.inl=>
  obtain⟨i,a1,a2,a3⟩:=xc f ht;rw[a3]at b;rcases hc with rfl|rfl<;>simp[f138,c,d,h,e,a1,a2,vd,a3,b]
 case inr.inr.inr.inr.inr.inr.inr.inr.inl=>
  obtain⟨A,i,n,o,p,q,r⟩:=EA f (mZ g B);rcases hc with rfl|rfl|rfl<;>simp[f138,c,d,h,e,j,n,o,p,q,vd,b,r]
 case inr.inr.inr.inr.inr.inr.inr.inr.inr.inl=>
  obtain⟨i,a1,a2,a3⟩:=xc f (rR g B);rcases hc with rfl|rfl<;>cases l:decide (x=y)<;>simp[f138,c,d,h,e,j,a1,a2,vd,b,a3,l]
 case inr.inr.inr.inr.inr.inr.inr.inr.inr.inr=>
  have k:=uv g B;rw[<-l2]at k;obtain⟨D,s,t⟩:=jn k;rcases hc with rfl|rfl<;>simp[f138,c,d,e,j,s,fU (fQ.1 k).1,vd,b,Gv,t]
 all_goals
  simp[f138,c,d,h,e,vd,b]
def pk:iK:=⟨fy×gY×Int×Int×Int,λa=>[a.1.t,a.2.1.t,C a.2.2.1,C a.2.2.2.1,C a.2.2.2.2],λa=>EnG a.1 a.2.1 a.2.2.1 a.2.2.2.1 a.2.2.2.2,λa=> .ez (vd a.1 a.2.1 a.2.2.1 a.2.2.2.1 a.2.2.2.2),λa b c=>by rw[Po a b c]⟩
def M7:pk.Ok prog cx 98:=by
 refine iF [(135,Fa),(136,uF),(137,yE),(138,Bw)] (jF 4605278686335 [] func98) (λJ=>1) (by simp[pk]) ?_;rintro⟨b,e,h,a,c⟩ i M q;replace i:EnG b e h a c:=i;have⟨l,ht,r,F,hr⟩:=id i;simp[pk]at q|-;obtain⟨D,E,n,o,k⟩:=q;have y:∀{d:io},d.p 135=some Fa->rl prog cx d 135 [b.t,e.t]=some (.ez true):=λht=>iN ht WP (b,e) ⟨l,F⟩;have z:∀{d:io},d.p 137=some yE->rl prog cx d 137 [b.t,C a,C c]=some (.ez true):=λht=>iN ht Ra (b,a,c) r;have⟨m,a1,a2,a3⟩:=xc l ht;simp[f98,D,E,n,o,k,y,z,Cm,ht,a1,a2];by_cases f:a=1
 ·subst f;simp[vd,a3]
 by_cases g:a=17
 ·subst g;have⟨K,L,s,u,v,w,x⟩:=EA l (mZ r B);cases H:decide (m.je=4)<;>cases I:decide (m.cond=c)<;>simp[k,s,u,v,w,vd,a3,x,H,I]
 by_cases j:m.je=2
 ·have A:∀{d:io},d.p 138=some Bw->rl prog cx d 138 [b.t,e.t,C h,C a,C c]=some (.ez (vd b e h a c)):=λht=>iN ht TD (b,e,h,a,c) ⟨i,f,g,by rw[a3];exact j⟩;simp[n,o,k,f,g,j,A]
 ·have:vd b e h a c=false:=by unfold vd;rw[Z f,Z g,a3,au j]
  simp[f,g,j,this]
def Ix{a:io}(ht:a.p 98=some pk){w:fy}{s:gY}{t k o:Int}(b:EnG w s t k o):rl prog cx a 98 [w.t,s.t,C t,C k,C o]=some (.ez (vd w s t k o)):=iN ht M7 (w,s,t,k,o) b
def RC{b:io}(ht:b.p 98=some pk){w:fy}{s:gY}{t k o:Int}(a:EnF w s t k o):rl prog cx b 98 [w.t,s.t,C t,C k,C o]=some (.ez true):=by rw[Ix ht ⟨a.f,a.th,a.n,a.c,a.r⟩,a.e]
structure Mo where
 (v:T) (es:List T)
def uI(e:Nat)(a:Mo)(c:List T)(b:H):Prop:=c=[a.v]/\b.j1 a.v=some a.es/\(∀d∈a.es,d.cells.length=e)/\a.es.length<=1000000/\iQ 0 b
def qK(f:Nat)(e:Mo)(g:List T)(b:H)(d:T)(c:H):Prop:=Gr c d f e.es/\Nb b c/\∀a,fq d=some a->b.size<=a
def xK{a bytes:Nat}{l:ak}(x:GY prog cx l (.clone a bytes))(v:1<=bytes)(w:bytes<=1000):(km Mo (uI a) (qK a)).Ok prog cx l:=by
 intro i b ⟨⟨p,e⟩,y⟩;have n:∀h:Mo,uI a h i b->∃d c,Fl (.clone a bytes) i b=some (d,c)/\qK a h i b d c:=by
  rintro⟨p,e⟩ ⟨rfl,g,m,hl,o⟩;simp only at g m hl;show∃d c,(J (b.j1 p) λe=>List.casesOn e (some (dV,b)) λ_ _=>b.jH a bytes [] e)=some (d,c)/\_;rw[g,fw];cases e with
  |nil=>exact⟨_,_,rfl,Gr.nil _ _,Nb.refl o,λr j=>by simp at j⟩
  |cons I H=>
   refine⟨_,_,qW m v (aU (Nat.mul_le_mul hl w) B),Gr.new (ep:=0) (ver:=0) (ex:=false) G,(Nb.refl o).cons _,λr j=>by simp at j;omega⟩
 have⟨d,c,k,E⟩:=n _ y;refine⟨d,c,λh g=>?_,λq A D s z u=>x _ _ _ _ k q A D s z u⟩;have⟨r2,F,f,t⟩:=n h g;rw[k]at f;simp only[aw,aF]at f;rw[f.1,f.2];exact t
def BO:(km Mo (uI 1) (qK 1)).Ok prog cx 62:=xK (wZ (fn:=f62) (t:=38) (tb:=4) (te:=Ek) jl func62 dY dY dY dY dY dY dY) dT (bytes:=8) dT 
def FI:(km Mo (uI 1) (qK 1)).Ok prog cx 61:=xK (wZ (fn:=f61) (t:=33) (tb:=4) (te:=V5) jl func61 dY dY dY dY dY dY dY) dT (bytes:=1) dT 
def K0:(km Mo (uI 3) (qK 3)).Ok prog cx 97:=xK (wZ (fn:=f97) (t:=34) (tb:=4) (te:=Kf) jl func97 dY dY dY dY dY dY dY) dT (bytes:=24) dT 
def LkG(f:H)(d:Nat->Prop)(e:T)(c:fa):Prop:=∃a,e= .eZ [C c.jg,a]/\Gr f a 1 (iz c.fO)/\∀b,fq a=some b->d b
def LkD(b:List T):Prop:=∀(c d:Nat) (e f g h:T) (a:Nat),b[c]? =some (.eZ [g,e])->b[d]? =some (.eZ [h,f])->fq e=some a->fq f=some a->c=d
def Ze(c:gY)(j:List T)(h:H)(i:T)(b:H):Prop:=∃d e f g,i=Ql c d e f/\Eh h.size b.size b d e f g c/\Nb h b/\jw (LkG b λa=>h.size<=a/\a<b.size/\fq d≠some a/\fq e≠some a/\fq f≠some a) g c.fI/\LkD g
structure ClO(S:gY)(h h':H)(i:Nat)(es:List T)(ver:Nat):Prop where
 nb:Nb h h'
 z:h.size+3<=h'.size
 b0:h'.get h.size=some (X 4 0 [S.t])
 b1:h'.get (h.size+1)=some (X 4 0 [.eZ [dV,C 0,dV,dV]])
 b2:h'.get (h.size+1+1)=some ⟨2,0,ver,true,false,es⟩
 l:es.length=S.fI.length
 c:∀e∈es,∃x y,e= .eZ [x,y]
 d:LkD es
 bd:∀(j:Nat) (o x:T) (c:Nat),es[j]? =some (.eZ [o,x])->fq x=some c->c<h'.size
 a:jw (LkG h' λk=>h.size+3<=k/\k<h'.size) (es.take i) (S.fI.take i)
def T7:(km gY HP Ze).Ok prog cx 99:=by
 refine kh (tb:=⟨pt [],ht [(62,km Mo (uI 1) (qK 1)),(61,km Mo (uI 1) (qK 1)),(97,km Mo (uI 3) (qK 3))]⟩) jv jl (jF 30783 [(5,[(3,6)])] func99) (λ_ _=>1000005) (λl a d de=>by obtain⟨rfl,_⟩:=de;simp[f99]) ?_;rintro f _ d ⟨rfl,ds,hl,eh,ht,hr⟩ z cb;simp at cb;have cL:=ds.hr;simp[f99,cb,show f.fI.length*32<=70368744177664 by omega];refine ik f.fI.length B (λl z i=>∃v ver,ClO f d i l v ver/\Y z 1 (.fc d.size 0 0 0)/\Y z 2 (.fc (d.size+1) 0 0 0)/\Y z 3 (.arr (d.size+1+1) 0 0 f.fI.length false)/\Y z 11 (sl (f.fI.map fa.t))/\Y z 12 (C f.fI.length)/\Y z 13 (C l)) ?_ ?_ B ?_
 ·rintro l z i bn c9 ⟨v,ver,⟨x,dk,aE,bu,bA,bi,bW,bX,bg,aA⟩,ae,bT,a7,bS,aX,a6⟩;have bs:iQ 0 i:=⟨x.ok.hp,x.ok.low,ay _⟩;have eo:=hr f.fI[l] (aG bn);have di:f.fI.take (l+1)=f.fI.take l++[f.fI[l]]:=aP bn;have⟨ed,ef,dd⟩:=bW v[l] (aG B);have er:(d.size+1+1=i.size)=False:=dR;have dn:=bs.low;simp[a7,bS,aX,a6,bn,dn];generalize f.fI[l]=w at*
  have b8:=bs.cons (X 2 1 [w.t]);refine mf BO G ⟨sl (iz w.fO),iz w.fO⟩ ⟨rfl,G,by simp[T.cells],dR,b8⟩ ?_;rintro r P ⟨K,y,a8⟩;simp only at K;have eb:=y.ok.sz;simp at eb;have bp:P.get (d.size+1+1)=some ⟨2,0,ver,true,false,v⟩:=(y.get (d.size+1+1) dR).trans (by rw[fk,Z B];exact bA);have et:gU (i.cons (X 2 1 [w.t])) P (d.size+1+1)=true:=il (y.get _ dR);have ea:gU (i.cons (X 2 1 [w.t])) P i.size=true:=il (y.get _ G);simp[ae,bT,a7,bS,aX,a6,K.jc,K.cells,bp,ea,bn,bi,dd,fG,c9];have aN:∀c,c<i.size->c≠d.size+1+1->(fJ P (d.size+1+1) ⟨2,0,ver+1,true,false,v.set l (.eZ [C w.jg,r])⟩).get c=i.get c:=λc e Q=>by
   rw[eG bp,Z Q];exact(y.get c dR).trans (by rw[fk,Z B])
  have ec:=x.ok.sz;refine⟨v.set l (.eZ [C w.jg,r]),ver+1,⟨⟨(⟨y.ok.hp,y.ok.low,ay _⟩:iQ 0 P).put _ _|>.hp,(⟨y.ok.hp,y.ok.low,ay _⟩:iQ 0 P).put _ _|>.low,dR⟩,λc e=>(aN c B B).trans (x.get c e)⟩,dR,(aN _ B B).trans aE,(aN _ B B).trans bu,by rw[eG bp,au rfl],by simpa using bi,λE F=>?_,?_,?_,?_⟩
  ·rcases cH F with q|q
   ·exact bW E q
   ·exact⟨_,_,q⟩
  ·intro R k D g o cF c h A j p;rw[cw]at h A;split at h<;>split at A
   ·omega
   ·split at h
    ·simp only[aw,T.eZ.injEq,bY,and_true]at h;have:=a8 c (by rw[h.2];exact j);have:=bg k _ _ c A p;simp at*;omega
    ·simp at h
   ·split at A
    ·simp only[aw,T.eZ.injEq,bY,and_true]at A;have:=a8 c (by rw[A.2];exact p);have:=bg R _ _ c h j;simp at*;omega
    ·simp at A
   ·exact bX R k D g o cF c h A j p
  ·intro R o D c h j;rw[cw]at h;rw[iy];split at h
   ·split at h
    ·simp only[aw,T.eZ.injEq,bY,and_true]at h;have⟨_,_,_,_,p,_⟩:=K.box (b:=c) (by rw[h.2];exact j);exact H.gh p
    ·simp at h
   ·have:=bg R _ _ c h j;omega
  ·rw[di,aP dR];refine jw.append ?_ (.cons ?_ .nil)
   ·rw[List.take_set_of_le (ax _)];exact aA.imp λE m ⟨av,U,W,u⟩=>⟨av,U,W.mono λc e=>aN c (u c e).2 (by have:=(u c e).1;omega),λc e=>⟨(u c e).1,by have:=(u c e).2;simp;omega⟩⟩
   ·simp only[List.getElem_set_self];refine⟨r,rfl,(K.mono λc e=>by rw[eG bp,Z (by have:=a8 c e;simp at this;omega)]),λc e=>⟨by have:=a8 c e;simp at this;omega,?_⟩⟩;have⟨_,_,_,_,p,_⟩:=K.box e;have:=H.gh p;simpa using this
 ·rintro z i ⟨v,ver,⟨x,dk,aE,bu,bA,bi,bW,bX,bg,aA⟩,ae,bT,a7,bS,aX,a6⟩;have bs:iQ 0 i:=⟨x.ok.hp,x.ok.low,ay _⟩;have bH:∀g c,(fJ i d.size g).get c=if c=d.size then some g else i.get c:=λg c=>eG aE g c;simp[ae,a7,aX,a6,aE,bH];have⟨N,al⟩:∃N,N=fJ i d.size (X 4 1 [.eZ [.arr (d.size+1+1) 0 0 f.fI.length false,C f.tx,sl (f.done.map T.ez),sl (f.ee.map ei.t)]]):=⟨_,rfl⟩;have eu:N.size=i.size:=by rw[al];simp
  have dv:iQ 0 N:=by rw[al];exact bs.put _ _
  have gA:∀c,c≠d.size->N.get c=i.get c:=λc e=>by rw[al,bH,Z e]
  have c6:N.get d.size=some (X 4 1 [.eZ [.arr (d.size+1+1) 0 0 f.fI.length false,C f.tx,sl (f.done.map T.ez),sl (f.ee.map ei.t)]]):=by rw[al,bH,au rfl]
  rw[<-al];refine jB FI G ⟨sl (f.done.map T.ez),f.done.map T.ez⟩ ⟨rfl,G,by intro E F;obtain⟨b,_,rfl⟩:=List.mem_map.1 F;rfl,dR,dv⟩ ?_;rintro J s ⟨ab,S,cX⟩;simp only at ab;have ey:=S.ok.sz;have cd:=(S.get d.size B).trans c6;have bN:∀g c,(fJ s d.size g).get c=if c=d.size then some g else s.get c:=λg c=>eG cd g c;simp[ae,ab.jc,ab.cells,cd,bN,fG];have⟨O,an⟩:∃O,O=fJ s d.size (X 4 2 [.eZ [.arr (d.size+1+1) 0 0 f.fI.length false,C f.tx,J,sl (f.ee.map ei.t)]]):=⟨_,rfl⟩;have eA:O.size=s.size:=by rw[an];simp
  have b8:iQ 0 O:=by rw[an];exact(⟨S.ok.hp,S.ok.low,ay _⟩:iQ 0 s).put _ _
  have bC:∀c,c≠d.size->O.get c=s.get c:=λc e=>by rw[an,bN,Z e]
  have c7:O.get d.size=some (X 4 2 [.eZ [.arr (d.size+1+1) 0 0 f.fI.length false,C f.tx,J,sl (f.ee.map ei.t)]]):=by rw[an,bN,au rfl]
  rw[<-an];refine jB K0 G ⟨sl (f.ee.map ei.t),f.ee.map ei.t⟩ ⟨rfl,G,by intro E F;obtain⟨b,_,rfl⟩:=List.mem_map.1 F;rfl,dR,b8⟩ ?_;rintro ap n ⟨gT,I,c1⟩;simp only at gT;have eB:=I.ok.sz;have Q4:iQ 0 n:=⟨I.ok.hp,I.ok.low,ay _⟩;have cp:=(I.get d.size B).trans c7;have dm:n.get (d.size+1)=_:=(I.get (d.size+1) B).trans ((bC _ B).trans ((S.get _ B).trans ((gA _ B).trans bu)));have ca:∀g c,(fJ n d.size g).get c=if c=d.size then some g else n.get c:=λg c=>eG cp g c;have L:∀g D c,(fJ (fJ n d.size g) (d.size+1) D).get c=if c=d.size+1 then some D else if c=d.size then some g else n.get c:=λg D c=>by
   rw[ou (by simp[Q4.hp]) dR,ca]
  simp[ae,bT,gT.jc,gT.cells,cp,dm,ca,L,fG];rw[bQ B,aL]at aA;have bB:∀c,c<i.size->c≠d.size->n.get c=i.get c:=λc e Q=>(I.get c B).trans ((bC c Q).trans ((S.get c B).trans (gA c Q)));have c4:∀c,c<s.size->c≠d.size->n.get c=s.get c:=λc e Q=>(I.get c B).trans (bC c Q);have ec:=x.ok.sz;have b6:∀c,fq J=some c->i.size<=c/\c<s.size:=λc e=>⟨by have:=cX c e;omega,by have⟨_,_,_,_,p,_⟩:=ab.box e;exact H.gh p⟩;have b7:∀c,fq ap=some c->s.size<=c/\c<n.size:=λc e=>⟨by have:=c1 c e;omega,by have⟨_,_,_,_,p,_⟩:=gT.box e;exact H.gh p⟩;have b9:jw (LkG (mX d (fJ (fJ n d.size (X 4 3 [.eZ [.arr (d.size+1+1) 0 0 f.fI.length false,C f.tx,J,ap]])) (d.size+1) (X 4 1 [.eZ [.arr (d.size+1+1) 0 0 f.fI.length false,C f.tx,J,ap]]))) λc=>d.size<=c/\c<n.size/\fq (.arr (d.size+1+1) 0 0 f.fI.length false)≠some c/\fq J≠some c/\fq ap≠some c) v f.fI:=aA.imp λE w ⟨av,U,W,u⟩=>⟨av,U,W.mono λc e=>by
   have:=u c e;rw[iB,L,Z B,Z B,bB _ B B],λc e=>by
   have:=u c e;exact⟨B,B,dR,λq=>by have:=b6 c q;omega,λq=>by have:=b7 c q;omega⟩⟩
  refine⟨.arr (d.size+1+1) 0 0 f.fI.length false,J,ap,v,rfl,⟨?_,ab.mono λc e=>?_,gT.mono λc e=>?_,b9.imp λE w ⟨av,U,W,u⟩=>⟨av,U,.inr W,by simpa using u⟩,λc e=>?_⟩,⟨⟨?_,?_,?_⟩,λc e=>?_⟩,by simpa using b9,bX⟩
  ·rw[<-bi];exact Gr.new (ep:=0) (ver:=ver) (ex:=true) (by rw[iB,L,Z B,Z B,bB _ B B];exact bA)
  ·have:=b6 c e;rw[iB,L,Z B,Z B,c4 _ B B]
  ·have:=b7 c e;rw[iB,L,Z B,Z B]
  ·simp;rcases e with q|q|q
   ·simp at q;omega
   ·have:=b6 c q;omega
   ·have:=b7 c q;omega
  ·exact(((Q4.put _ _).put _ _).out d).hp
  ·exact(((Q4.put _ _).put _ _).out d).low
  ·simp;omega
  ·rw[iB,L,Z B,Z B,bB _ B B];exact x.get c e
 ·simp;refine⟨List.replicate f.fI.length (.eZ [C 0,dV]),0,⟨(((Nb.refl cL).cons _).cons _).cons _|>.ok,λc e=>(((((Nb.refl cL).cons _).cons _).cons _).get c e).trans (iU d c)⟩,G,G,G,G,G,λE F=>⟨_,_,(bZ F)⟩,?_,?_,.nil⟩
  ·intro R k D g o cF c h _ j _;have:=bZ (aC h);simp only[T.eZ.injEq,bY,and_true]at this;rw[this.2]at j;simp at j
  ·intro R o D c h j;have:=bZ (aC h);simp only[T.eZ.injEq,bY,and_true]at this;rw[this.2]at j;simp at j
def zi:iK:=⟨ei×Int,λa=>[a.1.t,C a.2],λa=>True,λa=> .ez (decide (a.1.je=3)&&decide (a.1.cond=a.2)),λa c b=>by simp at b;rw[ei.inj b.1,b.2]⟩
def Tq:zi.Ok prog cx 142:=by
 refine iF [] (jF 23 [] func142) (λd=>1) (by simp[zi]) ?_;rintro⟨f,e⟩ _ g a;simp[zi]at a|-;obtain⟨b,c⟩:=a;simp[f142,b,c]
def PK{c:io}(ht:c.p 142=some zi)(a:ei)(b:Int):rl prog cx c 142 [a.t,C b]=some (.ez (decide (a.je=3)&&decide (a.cond=b))):=iN ht Tq (a,b) trivial
def Qg(d:Int):∀(a c:List ei) (b:Nat),ji d (a++c) b=ji d a b++ji d c (b+a.length):=by
 intro a;induction a with
 |nil=>intro c b;rfl
 |cons f a e=>intro c b;simp only[cJ,ji,e,aQ];rw[show b+(a.length+1)=b+1+a.length by omega];split<;>rfl
def EN(c:Int)(b:List ei){a:Nat}(d:a<b.length):ji c (b.take (a+1)) 0=ji c (b.take a) 0++(if b[a].je=3/\b[a].cond=c then [(a:Int)]else []):=by
 rw[aP d,Qg,List.length_take,cE B];simp[ji]
def oY(a:Int)(W:List Int):Int:=if a∈W then a else W.headD (-1)
structure Mf where
 (S:gY) (c0 c2 c3:T) (c wk:Int)
structure abW(h h':H)(c3:T)(l:List ei):Prop where
 g:Gr h' c3 3 (l.map ei.t)
 ok:iQ h.size h'
 fr:∀c,c<h.size->fq c3≠some c->h'.get c=h.get c
def Y5(a:Mf)(d:List T)(b:H):Prop:=d=[Ql a.S a.c0 a.c2 a.c3,C a.c,C a.wk]/\Gr b a.c3 3 (a.S.ee.map ei.t)/\iQ 0 b/\a.S.ee.length<=1000000
def S8(a:Mf)(g:List T)(d:H)(f:T)(e:H):Prop:=∃b,f= C b/\b=oY a.wk (ji a.c a.S.ee 0)/\abW d e a.c3 (if ji a.c a.S.ee 0=[]then a.S.ee else a.S.ee.modify b.toNat (kV 4))
def QM{wk:Int}{W:List Int}{b:Nat}(d:∀c∈W,0<=c/\c<b):oY wk (W++[(b:Int)])=if oY wk W<0\/(b:Int)=wk then(b:Int)else oY wk W:=by
 unfold oY;by_cases a:wk∈W
 ·have:=d wk a;rw[au (by simp[a]),au a,Z B]
 ·rw[Z a];by_cases e:(b:Int)=wk
  ·subst e;rw[au G,au (.inr rfl)]
  ·rw[Z (by simp[a];omega)];cases W with
   |nil=>simp
   |cons c W=>have:=d c G;simp;intro f;omega
def TG:(km Mf Y5 S8).Ok prog cx 104:=by
 refine kh (tb:=⟨pt [(142,zi)],ht []⟩) jv jl (jF 9126837199 [] func104) (λ_ _=>1000005) (λi a d bB=>by obtain⟨rfl,_⟩:=bB;simp[f104]) ?_;rintro⟨⟨L,bi,bT,b⟩,av,aA,P,c,wk⟩ _ d ⟨rfl,m,bg,hl⟩ g aN;simp only at m hl;simp[Ql]at aN;obtain⟨bp,h,p⟩:=aN;have a7:=λh:H=>m.len (cx:=cx) h Sb _ rfl;rw[aI]at a7;have ap:∀e,fq P=some e->e<d.size:=λe bA=>by obtain⟨_,_,_,_,bC,_⟩:=m.box bA;exact H.gh bC
 simp[f104,bp,a7];refine ik b.length B (λi g h'=>Nb d h'/\d.size<h'.size/\h'.get d.size=some (X 4 0 [.eZ [av,C bi,aA,P]])/\Y g 1 (C c)/\Y g 2 (C wk)/\Y g 3 (.fc d.size 0 0 0)/\Y g 7 (C (oY wk (ji c (b.take i) 0)))/\Y g 11 P/\Y g 12 (C b.length)/\Y g 13 (C i)) ?_ ?_ B ?_
 ·rintro i g h' U aX ⟨f,bH,O,h,p,N,n,K,z,A⟩;have v:iQ 0 h':=⟨f.ok.hp,f.ok.low,ay _⟩;obtain⟨e,Q,al,R,bn,E,r,j,V⟩:=m.at (x:=b[i].t) (i:=i) (by simp[U]);rw[aI]at E V;subst E;have o:=(f.get e (H.gh r)).trans r;have bW:(e=h'.size)=False:=by have:=H.gh o;simp;omega
  have bN:=v.low;have ae:=EN c b U;simp[h,p,n,K,z,A,U,o,j,bN,PK];generalize b[i]=l at*
  have bs:∀x∈ji c (b.take i) 0,0<=x/\x<i:=λx j=>by
   obtain⟨u,y,F⟩:=ww j;simp at F;omega
  have S:=QM (wk:=wk) bs;have a8:=f.cons (X 3 1 [l.t]);have an:(h'.cons (X 3 1 [l.t])).get d.size=some (X 4 0 [.eZ [av,C bi,aA,.arr e Q 0 b.length false]]):=by rw[fk,Z B];exact O
  refine fN (λq=>?_) (λq=>?_)
  ·simp only[az,cu,aM]at q;rw[au ⟨q.1.1,q.1.2⟩]at ae;rw[au q.2,<-ae]at S;simp[h,p,N,K,z,A,aX];exact⟨a8,B,by simpa using an,S.symm⟩
  ·simp[h,p,N,n,K,z,A,aX];refine⟨a8,B,by simpa using an,?_⟩;rw[ae];split
   ·rename_i a6;simp only[Bool.and_eq_false_iff,cT,cv]at q;rw[S,Z];rcases q with(q|q)|q
    ·exact absurd a6.1 q
    ·exact absurd a6.2 q
    ·rintro(k|k)
     ·exact q.1 k
     ·exact q.2 k
   ·simp
 ·rintro g h' ⟨f,bH,O,h,p,N,n,K,z,A⟩;rw[aL]at n;simp[n,z,A];have v:iQ 0 h':=⟨f.ok.hp,f.ok.low,ay _⟩;refine fN (λq=>?_) (λq=>?_)
  ·have q:0<=oY wk (ji c b 0):=by simpa using q
   have s:oY wk (ji c b 0)∈ji c b 0:=by
    generalize ji c b 0=W at*
    unfold oY at*
    split
    ·assumption
    ·rename_i I;rw[Z I]at q;cases W with
     |nil=>simp at q
     |cons x W=>simp
   obtain⟨u,y,F⟩:=ww s;have ab:ji c b 0≠ []:=λk=>by rw[k]at s;simp at s
   obtain⟨l,ht⟩:∃l,b[u]? =some l:=⟨_,aB F⟩;obtain⟨e,Q,al,R,bn,E,r,j,V⟩:=m.at (x:=l.t) (i:=u) (by simp[ht]);rw[aI]at E V;subst E;have o:=(f.get e (H.gh r)).trans r;simp at y;simp[N,n,O,y,o,j,F];refine⟨_,rfl,y.symm,?_⟩;simp only;rw[Z ab,cG,qh ht];have bS:=H.gh r;refine⟨?_,⟨((v.put e _).out d).hp,((v.put e _).out d).low,dR⟩,λJ D I=>?_⟩
   ·have aE:=(m.mono (h':=h') λw T=>f.get w (ap w T)).setAt rfl o u (kV 4 l).t (h':=mX d (fJ h' e ⟨3,Q,al+1,R,false,bn.set u (kV 4 l).t⟩)) (ver2:=al+1) (ex2:=R) (by rw[iB,eG o,au rfl]);rw[<-aW]at aE;exact aE
   ·simp at I;rw[iB,eG o,Z B];exact f.get J D
  ·have q:¬0<=oY wk (ji c b 0):=by simpa using q
   have ab:ji c b 0=[]:=by
    generalize bu:ji c b 0=W at*
    have s:∀x∈W,0<=x:=λx j=>by rw[<-bu]at j;obtain⟨u,y,F⟩:=ww j;omega
    unfold oY at q;split at q
    ·rename_i I;exact absurd (s _ I) q
    ·cases W with
     |nil=>rfl
     |cons x W=>have:=s x G;simp at q;omega
   simp[n];refine⟨_,rfl,rfl,?_⟩;simp only;rw[au ab];exact⟨(m.mono (h':=h') λw T=>f.get w (ap w T)).out d,⟨(v.out d).hp,(v.out d).low,dR⟩,λJ D _=>(iB d h' J).trans (f.get J D)⟩
 ·simp;exact⟨⟨((Nb.refl bg.hr).cons _).ok,λc D=>(((Nb.refl bg.hr).cons _).get c D).trans (iU d c)⟩,h,p,by simp[oY,ji]⟩
def FK(b:Int)(a:ei):ei:=if a.je=3/\a.cond=b then kV 4 a else a
def Y6(a:Mf)(d:List T)(b:H):Prop:=d=[Ql a.S a.c0 a.c2 a.c3,C a.c]/\Gr b a.c3 3 (a.S.ee.map ei.t)/\iQ 0 b/\a.S.ee.length<=1000000
def S9(a:Mf)(f:List T)(b:H)(e:T)(d:H):Prop:=e= C (ji a.c a.S.ee 0).length/\abW b d a.c3 (a.S.ee.map (FK a.c))
def KO:(km Mf Y6 S9).Ok prog cx 105:=by
 refine kh (tb:=⟨pt [(142,zi)],ht []⟩) jv jl (jF 270071 [] func105) (λ_ _=>1000005) (λi a d bs=>by obtain⟨rfl,_⟩:=bs;simp[f105]) ?_;rintro⟨⟨L,bH,bS,b⟩,aX,a6,v,e,b6⟩ _ d ⟨rfl,E,aA,hl⟩ l ab;simp only at E hl;simp[Ql]at ab;obtain⟨bg,m⟩:=ab;have av:=λm:H=>E.len (cx:=cx) m Sb _ rfl;rw[aI]at av;have V:∀f,fq v=some f->f<d.size:=λf I=>by obtain⟨_,_,_,_,bA,_⟩:=E.box I;exact H.gh bA
 simp[f105,bg,av];refine ik b.length B (λi l h'=>iQ d.size h'/\d.size<h'.size/\h'.get d.size=some (X 4 0 [.eZ [aX,C bH,a6,v]])/\(∀c,c<d.size->fq v≠some c->h'.get c=d.get c)/\Gr h' v 3 (((b.take i).map (FK e)++b.drop i).map ei.t)/\Y l 1 (C e)/\Y l 2 (.fc d.size 0 0 0)/\Y l 5 (C (ji e (b.take i) 0).length)/\Y l 9 v/\Y l 10 (C b.length)/\Y l 11 (C i)) ?_ ?_ B ?_
 ·rintro i l h' n ae ⟨u,T,N,D,r,m,P,z,F,w,y⟩;have bC:iQ 0 h':=⟨u.hp,u.low,ay _⟩;have an:((b.take i).map (FK e)++b.drop i)[i]? =some b[i]:=by
   rw[du dR];simp[cE (show i<=b.length by omega),n]
  obtain⟨f,a7,aN,W,bN,al,Q,ap,bp⟩:=r.at (x:=b[i].t) (i:=i) (by simp[an]);have bn:(((b.take i).map (FK e)++b.drop i).map ei.t).length=b.length:=dR;rw[bn]at al bp;subst al;have bW:(f=h'.size)=False:=by have:=H.gh Q;simp;omega
  have I:f<d.size:=V f rfl;have bB:=bC.low;have J:=EN e b n;have bT:(ji e (b.take i) 0).length<=i:=by have:=EO e (b.take i) 0;simp at this;omega
  have bi:binop .add (C ((ji e (b.take i) 0).length:Int)) (C 1)=some (C (((ji e (b.take i) 0).length:Int)+1)):=jp B B;have S:(b.take (i+1)).map (FK e)++b.drop (i+1)=((b.take i).map (FK e)++b.drop i).set i (FK e b[i]):=by
   rw[List.set_append_right _ _ dR,aP n,List.map_append,aJ n];simp[cE (show i<=b.length by omega)];rw[aJ n];rfl
  simp[m,F,w,y,n,Q,ap,bB,PK];have A:FK e b[i]=if b[i].je=3/\b[i].cond=e then kV 4 b[i]else b[i]:=rfl;generalize b[i]=h at*
  have aE:=u.cons (X 3 1 [h.t]);have q:∀c,c<h'.size->(h'.cons (X 3 1 [h.t])).get c=h'.get c:=λc g=>by rw[fk,Z B]
  refine fN (λp=>?_) (λp=>?_)
  ·simp only[az,aM]at p;rw[au p]at J A;have R:=(q f B).trans Q;have U:=(q d.size T).trans N;have bX:(f=d.size)=False:=dR;simp[m,P,z,F,w,y,U,R,ap,n,bi,ae];have O:∀K c,(fJ (h'.cons (X 3 1 [h.t])) f K).get c=if c=f then some K else(h'.cons (X 3 1 [h.t])).get c:=λK c=>eG R K c;refine⟨aE.put _ _,B,by rw[O,Z B];exact U,λc g s=>by rw[O,Z (λp=>s p.symm),q c B];exact D c g (by simpa using s),?_,by rw[J];simp⟩;have a8:=r.mono (h':=h'.cons (X 3 1 [h.t])) λc g=>q c (by simp at g;omega);have:=a8.setAt rfl R i (kV 4 h).t (h':=fJ (h'.cons (X 3 1 [h.t])) f ⟨3,a7,aN+1,W,false,bN.set i (kV 4 h).t⟩) (ver2:=aN+1) (ex2:=W) (by rw[O,au rfl]);rw[<-aW,<-A,<-S]at this;rw[A]at this;exact this
  ·rw[Z (by simpa using p)]at J A;simp[m,P,z,F,w,y,ae];refine⟨aE,B,by simpa using(q d.size T).trans N,λc g s=>by rw[Z B];exact D c g (by simpa using s),?_,by rw[J];simp⟩;have bu:((b.take i).map (FK e)++b.drop i).set i h=(b.take i).map (FK e)++b.drop i:=by
    apply cW;intro j;rw[cw];split
    ·rename_i k;subst k;rw[an];simp;omega
    ·rfl
   rw[A,bu]at S;have:=r.mono (h':=h'.cons (X 3 1 [h.t])) λc g=>q c (by simp at g;omega);rw[<-S]at this;simpa using this
 ·rintro l h' ⟨u,T,N,D,r,m,P,z,F,w,y⟩;rw[aL,bR,bG]at r;rw[aL]at z;simp[z,w,y];exact⟨rfl,r.out d,⟨(u.out d).hp,(u.out d).low,dR⟩,λc g s=>(iB d h' c).trans (D c g s)⟩
 ·simp;exact⟨⟨aA.hr.hp,aA.hr.low,ax _⟩|>λ(o:iQ d.size (TI.hr d))=>o.cons _,λc g _ p=>by omega,(E.mono (h':=TI.hr d) λf _=>iU d f).mono λf I=>by rw[fk,Z (by have:=V f I;simp;omega)],m,by simp[ji]⟩
structure ZH(h h':H)(v:T)(l:List Int):Prop where
 g:Gr h' v 1 (iz l)
 ok:iQ h.size h'
 fr:∀c,c<h.size->fq v≠some c->h'.get c=h.get c
def TN:pM prog cx 223 (λa:Int=>[C a]) (λ_=>True) (λ_ d=>d= .ez false):=by
 refine Bg (tb:=⟨pt [],ht []⟩) jv jl (jF 5 [] func223) (λ_=>10) (λa e c=>by simpa using c) G nl9 ?_;rintro(a:Int) _ f b;simp at b;simp[f223,b]
def HN:iK:=⟨Int×Int,λa=>[C a.1,C a.2],λa=>True,λa=> .ez (decide (a.1<a.2)),λa c b=>by simp at b;rw[b.1,b.2]⟩
def aay:HN.Ok prog cx 177:=by
 refine Ah (tb:=⟨pt [(223,TN.kc)],ht []⟩) jv jl (jF 19 [] func177) (λa=>1) (by simp[HN]) nl9 ?_;rintro⟨a,c⟩ _ h b;simp[HN]at b|-;obtain⟨e,f⟩:=b;obtain⟨_,rfl,d⟩:=TN.use a trivial;obtain⟨_,rfl,g⟩:=TN.use c trivial;simp[f177,e,f,d]
def U7{c:io}(ht:c.p 177=some HN)(a b:Int):rl prog cx c 177 [C a,C b]=some (.ez (decide (a<b))):=iN ht aay (a,b) trivial
structure VI where
 (A:List Int) (t:Int) (v:T)
def Y7(a:VI)(c:List T)(b:H):Prop:=c=[a.v,C 0,C ((a.A++[a.t]).length:Nat)]/\Gr b a.v 1 (iz (a.A++[a.t]))/\iQ 0 b/\Mi a.A/\a.t∉a.A/\a.A.length<=10
def IU(a:VI)(d:List T)(b:H)(e:T)(c:H):Prop:=ZH b c a.v (m6 a.A a.t)
def Nv{d:Int}:∀{b a:List Int},(∀c∈b,c<d)->(∀c∈a,d<c)->m6 (b++a) d=b++d::a:=by
 intro b;induction b with
 |nil=>
  intro a _ e;cases a with
  |nil=>rfl
  |cons f a=>have:=e f G;simp[m6];rw[Z B,Z B]
 |cons c b i=>intro a g e;have:=g c G;simp only[cJ,m6];rw[au this,i (λf h=>g f (by simp[h])) e]
def Qm{b:List Int}{c:Int}{a:Nat}(d:a<b.length):((iz (b.take (a+1)++c::b.drop (a+1))).set (a+1) (C b[a])).set a (C c)=iz (b.take a++c::b.drop a):=by
 have e:(b.take a).length=a:=dR;rw[aP d,aJ d];simp only[iz,List.map_append,aO,bj,cJ,cQ];have f:(List.map (T.int .i64) (b.take a)).length=a:=by simpa using e
 rw[List.set_append_right _ _ B,List.set_append_right _ _ B,f];simp
def Q3:(km VI Y7 IU).Ok prog cx 171:=by
 refine kh (tb:=⟨pt [(177,HN)],ht []⟩) jv jl (jF 1073746119 [] func171) (λ_ _=>100) (λi a e a7=>by obtain⟨rfl,_⟩:=a7;simp[f171]) ?_;rintro⟨b,f,o⟩ _ e ⟨rfl,av,L,T,ht,hl⟩ h aN;simp only at av T ht hl;simp at aN;obtain⟨q,n,m⟩:=aN;simp[f171,n];have bS:Gr (TI.hr e) o 1 (iz (b++[f])):=av.mono λl _=>iU e l;have bA:binop .add (C 0) (C 1)=some (C 1):=jp B B;simp[bA];refine vh (b.length+1) (λk h h'=>1<=k/\ZH e (mX e h') o (if k<=b.length then b++[f]else m6 b f)/\iQ e.size h'/\Y h 0 o/\Y h 1 (C 0)/\Y h 2 (C ((b.length:Int)+1))/\Y h 6 (C k)) ?_ B (k:=1) B ?_
 ·rintro k h h' ca ⟨b9,w,N,q,n,m,r⟩;have cp:iQ 0 h':=⟨N.hp,N.low,ay _⟩;by_cases cb:k<b.length+1
  ·have U:binop .add (C (k:Int)) (C 1)=some (C ((k:Int)+1)):=jp B B;rw[au B]at w;have S:Gr h' o 1 (iz (b++[f])):=w.g.mono λl _=>(iB e h' l).symm;have bT:binop .sub (C (k:Int)) (C 1)=some (C ((k-1:Nat):Int)):=by rw[mh B B];congr 2;omega
   simp[m,r,show(k:Int)<b.length+1 by omega];by_cases a6:k<b.length
   ·have⟨p1,P,Q⟩:=(show qZ h' 1 o _ from .inr S).idx (te:=Ek) rfl rfl (i:=k) (x:= C b[k]) (by simp[List.getElem?_append,a6]) rfl;have⟨p2,bn,bp⟩:=(show qZ h' 1 o _ from .inr S).idx (te:=Ek) rfl rfl (i:=k-1) (x:= C b[k-1]) (by simp[List.getElem?_append,show k-1<b.length by omega]) rfl;have ae:¬b[k]<b[k-1]:=by
     have:=List.pairwise_iff_getElem.1 T (k-1) k B a6 B;omega
    refine vh 1 (λ_ h j=>h'=j/\Y h 0 o/\Y h 1 (C 0)/\Y h 2 (C ((b.length:Int)+1))/\Y h 6 (C k)/\Y h 7 (C k)) ?_ B (k:=0) B (by simp[q,n,m,r]);rintro _ h _ _ ⟨rfl,q,n,m,r,D⟩;simp[q,n,m,r,D,P,Q,bn,bp,bT,U7,ae,U];exact⟨k+1,B,B,B,by rw[au B];exact w,N,G⟩
   ·have bC:k=b.length:=B;subst bC;have bB:=w.fr;refine vh b.length (λp h j=>∃s,s+p=b.length/\Gr j o 1 (iz (b.take s++f::b.drop s))/\iQ e.size j/\(∀d,d<e.size->fq o≠some d->j.get d=e.get d)/\(∀x∈b.drop s,f<x)/\Y h 0 o/\Y h 1 (C 0)/\Y h 2 (C ((b.length:Int)+1))/\Y h 6 (C b.length)/\Y h 7 (C s)) ?_ B (k:=0) B ⟨b.length,B,by simpa using S,N,λd E v=>(iB e h' d).symm.trans (bB d E v),G,by simp[q,n,m,r]⟩;rintro p h j a7 ⟨s,b8,K,t,ap,aX,q,n,m,r,D⟩;have cF:iQ 0 j:=⟨t.hp,t.low,ay _⟩;have fin:(∀x∈b.take s,x<f)->ZH e (mX e j) o (m6 b f):=λhl=>by
     have J:=Nv hl aX;rw[df]at J;rw[J];exact⟨K.out e,⟨(t.out e).hp,(t.out e).low,by simp;exact t.sz⟩,λd E v=>(iB e j d).trans (ap d E v)⟩
    cases s with
    |zero=>
     simp[q,n,m,r,D,U];exact⟨b.length+1,B,B,B,by rw[Z B];exact fin G,t,G⟩
    |succ c=>
     have H:c<b.length:=B;have bu:(iz (b.take (c+1)++f::b.drop (c+1))).length=b.length+1:=dR;have P:(b.take (c+1)++f::b.drop (c+1))[c+1]? =some f:=by rw[du dR];simp[cE (show c+1<=b.length by omega)]
     have Q:(b.take (c+1)++f::b.drop (c+1))[c]? =some b[c]:=by rw[cK dR];simp[H]
     have⟨l,R,I,y,O,V,F,bg,bH⟩:=K.at (x:= C f) (i:=c+1) (by rw[aR,P];rfl);have⟨bW,bX,cL,b6,cX,W,ab,an,ae⟩:=K.at (x:= C b[c]) (i:=c) (by rw[aR,Q];rfl);rw[V]at W;simp at W;obtain⟨rfl,rfl⟩:=W;rw[F]at ab;simp at ab;obtain⟨rfl,rfl,rfl⟩:=ab;rw[bu]at V bH ae;subst V;have a8:binop .sub (C ((c:Int)+1)) (C 1)=some (C (c:Int)):=by rw[mh B B];congr 2;omega
     have bi:lJ ((c:Int)+1)=some (c+1):=by have:=fU (show(0:Int)<=((c+1:Nat):Int)by omega);simpa using this
     by_cases al:f<b[c]
     ·have A:∀u d,(fJ j l u).get d=if d=l then some u else j.get d:=λu d=>eG F u d;have aE:∀u z d,(fJ (fJ j l u) l z).get d=if d=l then some z else j.get d:=λu z d=>by
       rw[eG (x:=u) (by rw[A,au rfl]),A];split<;>rfl
      have bN:∀x,(O.set (c+1) x)[c]? =some (C b[c]):=λx=>by rw[cw,Z B];exact an
      simp[q,n,m,r,D,a8,bi,F,bg,an,show c+1<b.length+1 by omega,show c<b.length+1 by omega,show(0:Int)<(c:Int)+1 by omega,U7,al,A,bN];have bs:=K.setAt rfl F (c+1) (C b[c]) (h':=fJ j l ⟨1,R,I+1,y,false,O.set (c+1) (C b[c])⟩) (ver2:=I+1) (ex2:=y) (by rw[A,au rfl]);have aA:=bs.setAt rfl (by rw[A,au rfl]) c (C f) (h':=fJ (fJ j l ⟨1,R,I+1,y,false,O.set (c+1) (C b[c])⟩) l ⟨1,R,I+1+1,y,false,(O.set (c+1) (C b[c])).set c (C f)⟩) (ver2:=I+1+1) (ex2:=y) (by rw[aE,au rfl]);rw[Qm H]at aA;refine⟨p+1,B,B,c,B,aA,(t.put _ _).put _ _,λd E v=>by rw[aE,Z (λJ=>v J.symm)];exact ap d E (by simpa using v),λx hx=>?_,rfl⟩;rw[aJ H]at hx;rcases List.mem_cons.1 hx with rfl|hx
      ·exact al
      ·exact aX x hx
     ·simp[q,n,m,r,D,a8,bi,F,bg,an,show c+1<b.length+1 by omega,show c<b.length+1 by omega,show(0:Int)<(c:Int)+1 by omega,U7,al,U];refine⟨b.length+1,B,B,B,?_,t,G⟩;rw[Z B];refine fin λx hx=>?_;obtain⟨i,b7,rfl⟩:=List.mem_take_iff_getElem.1 hx;have cd:b[c]≠f:=λk=>ht (by rw[<-k];exact aG H);rcases aT i c with k|k
      ·have:=List.pairwise_iff_getElem.1 T i c B H k;omega
      ·have:i=c:=B;subst this;omega
  ·rw[Z B]at w;simp[m,r,show¬(k:Int)<b.length+1 by omega];exact w
 ·exact⟨B,by
   have:(if 1<=b.length then b++[f]else m6 b f)=b++[f]:=by
    split
    ·rfl
    ·rw[show b=[]from aZ B];rfl
   rw[this];exact⟨bS.out e,⟨(L.hr.out e).hp,(L.hr.out e).low,ax _⟩,λd _ _=>(iB e _ d).trans (iU e d)⟩,⟨L.hr.hp,L.hr.low,ax _⟩,by simp[q,n,m]⟩
def Y3(a:VI×Int)(c:List T)(b:H):Prop:=c=[a.1.v,C 0,C ((a.1.A++[a.1.t]).length:Nat),C a.2]/\Gr b a.1.v 1 (iz (a.1.A++[a.1.t]))/\iQ 0 b/\Mi a.1.A/\a.1.t∉a.1.A/\a.1.A.length<=10
def SZ(a:VI×Int)(d:List T)(b:H)(e:T)(c:H):Prop:=ZH b c a.1.v (m6 a.1.A a.1.t)
def ZH.out{h c:H}{e:T}{d:List Int}(a:ZH (TI.hr h) c e d):ZH h (mX h c) e d:=⟨a.g.out h,⟨(a.ok.out h).hp,(a.ok.out h).low,by have:=a.ok.sz;simpa using this⟩,λb f i=>(iB h c b).trans ((a.fr b (by simpa using f) i).trans (iU h b))⟩
def aeu:(km (VI×Int) Y3 SZ).Ok prog cx 139:=by
 refine kh (tb:=⟨pt [],ht [(171,km VI Y7 IU)]⟩) jv jl (jF 10384593871817177683247510831234831 [] func139) (λ_ _=>100) (λw t c o=>by obtain⟨rfl,_⟩:=o;simp[f139]) ?_;rintro⟨⟨a,l,g⟩,x⟩ _ c ⟨rfl,h,s,i,ht,hl⟩ b j;simp only at h i ht hl;simp at j;obtain⟨d,e,f,v⟩:=j;have q:binop .sub (C ((a.length:Int)+1)) (C 0)=some (C ((a.length:Int)+1)):=by rw[mh B B];simp
 have p:Gr (TI.hr c) g 1 (iz (a++[l])):=h.mono λm _=>iU c m;simp[f139];refine vh 1 (λ_ b n=>TI.hr c=n/\Y b 0 g/\Y b 1 (C 0)/\Y b 2 (C ((a.length:Int)+1))) ?_ B (k:=0) B (by simp[d,e,f]);rintro _ b _ _ ⟨rfl,d,e,f⟩;simp[d,e,f,q,show(a.length:Int)+1<=12 by omega];refine jB Q3 G ⟨a,l,g⟩ ⟨G,p,s.hr,i,ht,hl⟩ ?_;rintro y u r;simp;exact r.out
def we:iK:=⟨fg×fT×Int,λa=>[a.1.t,a.2.1.t,C a.2.2],λa=>vZ a.1 a.2.1,λa=> C (ja a.1 a.2.1 a.2.2),λa c b=>by simp at b;rw[show a=c from aD (fg.inj b.1) (aD (fT.inj b.2.1) b.2.2)]⟩
def lj.pf{c:fg}(e:lj c){b:fR}(f:b∈c.ej):ju b.eJ c.fM.ee.length=true:=by
 obtain⟨i,g,rfl⟩:=List.getElem_of_mem f;have⟨b,a,_,_,d,_⟩:=e.at (i:=i) (by rw[fQ];omega);simp only[cG]at a;rw[aB g]at a;simp only[aw]at a;rw[a];exact d
def Ng{e:Int}{i:List Int}:∀{b:List fR} (c:Nat),(∀a∈b,a.eJ≠e)->tZ e i b c=-1:=by
 intro b;induction b with
 |nil=>intro c _;rfl
 |cons a b g=>
  intro c d;unfold tZ;rw[Z λh=>d a G h.1];exact g _ λa f=>d a (by simp[f])
def WA:we.Ok prog cx 58:=by
 refine iF [(73,po)] (jF 137454944735 [] func58) (λK=>1000) (by simp[we]) ?_;rintro⟨a,h,d⟩ (l:vZ a h) e y;simp[we]at y|-;obtain⟨o,p,f⟩:=y;have hl:=l.ev;have N:=l.hw.ok.len;have H:=l.od;cases u:ju d a.fM.ee.length with
 |false=>
  have O:=rS u;have x:ja a h d=-1:=Ng 0 λL F I=>by have:=l.hw.pf F;rw[I,u]at this;simp at this
  by_cases D:d<0
  ·simp[f58,o,p,f,D,x]
  ·simp[f58,o,p,f,D,show(a.fM.ee.length:Int)<=d by omega,x]
 |true=>
  have⟨P,Q⟩:=fQ.1 u;simp[f58,o,p,f,show¬d<0 by omega,show¬(a.fM.ee.length:Int)<=d by omega];refine ik a.ej.length B (λm e i=>iQ 2 i/\i.get 0=some (X 15 0 [a.t])/\i.get 1=some (X 9 0 [h.t])/\Y e 2 (C d)/\Y e 3 (.fc 0 0 0 0)/\Y e 4 (.fc 1 0 0 0)/\Y e 20 (sl (a.ej.map fR.t))/\Y e 21 (C a.ej.length)/\Y e 22 (C m)/\tZ d h.order (a.ej.drop m) m=ja a h d) ?_ ?_ B ⟨⟨G,G,G⟩,G,G,by simp[f,ja]⟩
  ·rintro m e i z E ⟨g,v,n,f,w,r,q,j,k,c⟩;rw[aJ z]at c;simp only[tZ]at c;have J:=g.ne (b:=0) B;have A:=g.ne (b:=1) B;simp[n,f,r,q,j,k,z,A,g.low,qz,H];refine fN (λs=>?_) (λs=>?_)
   ·rw[au (by simpa using s)]at c;simp[g.hp,<-c]
   ·rw[Z (by simpa using s)]at c;simp[v,n,f,w,r,q,j,k,E,g.cons,c,J,A]
  ·rintro e i ⟨g,v,n,f,w,r,q,j,k,c⟩;rw[bR]at c;simp only[tZ]at c;simp[j,k,g.hp,<-c]
def N2{d:io}(ht:d.p 58=some we)(b:fg)(a:fT)(c:Int)(e:vZ b a):rl prog cx d 58 [b.t,a.t,C c]=some (C (ja b a c)):=iN ht WA (b,a,c) e
end
end
noncomputable section
open Go Go.TI
def Jp{c:fy}{b a:gY}(d:mK c b=true)(hl:a.fI.length=b.fI.length/\a.done.length=b.done.length/\a.ee.length=b.ee.length):mK c a=true:=by
 unfold mK at*
 rw[hl.1,hl.2.1,hl.2.2];exact d
def xU.up{b Mq:Nat}{d:fg}{c:fT}(a:xU b d c)(g:b<=Mq):xU Mq d c:=⟨a.fx,a.wk,a.ce,a.fu,a.ft,λe f=>by have:=a.rd e f;omega,a.Cx,by have:=a.od;omega⟩
def xU.go{f:Nat}{c:fg}{d:fT}(a:xU f c d)(i:Int)(e:fR)(g h:Int):xU (f+1) c (uS c d i e g h):=by
 have hl:=xP c.fM d.gu g e.fh e.obj h;refine⟨?_,?_,λb=>?_,λb=>?_,λb=>Jp (a.ft b) ⟨hl.1,hl.2.1,hl.2.2⟩,Iz a.rd _ _ _ _ _,xQ a.Cx _ _ _ _ _,?_⟩
 ·have:=a.fx;simp only[uS];grind
 ·have:=a.wk;simp only[uS];grind
 ·have:=a.ce b;simp only[uS];grind
 ·have:=a.fu b;simp only[uS];grind
 ·have:=a.od;simp only[uS,aV,aQ,cV];omega
def xU.step{c:Nat}{a:fg}{b:fT}(e:xU c a b)(d:iv)(f:jk a b d.eJ=true):xU (c+1) a (mF a b d).1:=by
 unfold mF;rw[au f];exact e.go _ _ _ _
def xU.start{w:fg}(h:lj w):xU 1000 w (jI w):=by
 have c:w.ej≠ []->oc w.fM w.ka=true:=λa=>by
  have⟨d,e,b⟩:=List.exists_cons_of_ne_nil a;have hr:=h.ok.run;unfold runs at hr;rw[b]at hr;simp only[rj,az]at hr;exact(oF hr.1).1
 refine⟨by simp[jI],by simp[jI],λa=>?_,λa=>?_,λa=>?_,h.sm.r,h.ok.Cx,by simp[jI]⟩
 all_goals
  have:=c a;unfold oc at this;simp only[az,aM]at this;simp[jI,this]
def ahD(a:Int): -9223372036854775808<=IntKind.i64.wrap a/\IntKind.i64.wrap a<9223372036854775808:=by
 simp only[IntKind.wrap,IntKind.bits,IntKind.signed];by_cases b:a% 2^64>=(2:Int)^(64-1)<;>simp<;>omega
def Ot{a:Int}(b: -9223372036854775808<=a)(c:a<9223372036854775808):IntKind.i64.wrap a=a:=by rw[<-kv,kG b c]
def wg(b:Int):List fR->Nat->List Int
 | [],_=>[]
 |e::c,a=>if e.eJ=b then(a:Int)::wg b c (a+1)else wg b c (a+1)
def Fw(d:Int):∀(a:List fR) (b:Nat),(wg d a b).length<=a.length:=by
 intro a;induction a with
 |nil=>intro b;simp[wg]
 |cons e a c=>intro b;have:=c (b+1);simp only[wg,aQ];split<;>simp<;>omega
def Tk(d:Int):∀(a c:List fR) (b:Nat),wg d (a++c) b=wg d a b++wg d c (b+a.length):=by
 intro a;induction a with
 |nil=>intro c b;rfl
 |cons f a e=>
  intro c b;simp only[cJ,wg,e,aQ];rw[show b+1+a.length=b+(a.length+1)by omega];split<;>rfl
def Tj{t:Int}:∀{l:List fR} {i:Nat} {x:Int},x∈wg t l i->∃a:Nat,x=(i+a:Nat)/\a<l.length:=by
 intro l;induction l with
 |nil=>intro i x h;simp[wg]at h
 |cons c l d=>
  intro i x h;simp only[wg]at h;have b:x∈wg t l (i+1)->∃a:Nat,x=(i+a:Nat)/\a<(c::l).length:=λh=>by
   have⟨a,e,f⟩:=d h;exact⟨a+1,B,dR⟩
  split at h
  ·rcases List.mem_cons.1 h with h|h
   ·exact⟨0,B,G⟩
   ·exact b h
  ·exact b h
def K5(f:Int):∀(b:List fR) (c:Nat) (a:Int),0<=a->a<9223372036854775808->xv f b c a=(wg f b c).getD a.toNat (-1):=by
 intro b;induction b with
 |nil=>intro c a _ _;simp[xv,wg]
 |cons i b e=>
  intro c a g h;simp only[xv,wg];split
  ·split
   ·rename_i d;subst d;simp
   ·rename_i d;rw[Ot B B,e _ _ B B,show a.toNat=(a-1).toNat+1 by omega];simp
  ·exact e _ _ g h
def Uc(d:Int):∀(a:List fR) (c:Nat) (b:Int),a.length<=1000000->-9223372036854775808<=b->b<0->xv d a c b=-1:=by
 intro a;induction a with
 |nil=>intro c b _ _ _;simp[xv]
 |cons j a e=>
  intro c b f g h;simp only[aQ]at f;simp only[xv];split
  ·rw[Z B];by_cases i:b=-9223372036854775808
   ·subst i;have:IntKind.i64.wrap (-9223372036854775808-1)=9223372036854775807:=dT;have hl:=Fw d a (c+1);rw[this,K5 d a _ _ B B,cN,bV B];rfl
   ·rw[Ot B B];exact e _ _ B B B
  ·exact e _ _ B g h
def lj.cnt{a:fg}(b:lj a)(d:a.ej≠ []):a.ka.count.length=a.fM.ee.length:=by
 have⟨e,f,c⟩:=List.exists_cons_of_ne_nil d;have hr:=b.ok.run;unfold runs at hr;rw[c]at hr;simp only[rj,az]at hr;have:=(oF hr.1).1;unfold oc at this;simp only[az,aM]at this;exact this.2
end
noncomputable section
open Go Go.TI Tryz
attribute [-simp] List.map_take List.map_drop List.map_append ij gG fK Bool.not_or Bool.not_and
attribute [simp] ig gJ
section
attribute [-simp] size_cons
def vy:iK:=⟨fg×fT×Int×List Int,λa=>[a.1.t,a.2.1.t,C a.2.2.1,sl (a.2.2.2.map (T.int .i64))],λa=>vZ a.1 a.2.1/\a.1.ej≠ []/\a.2.2.2.length<=1000000,λa=> .ez (oa a.1 a.2.1 a.2.2.1 a.2.2.2),λa c b=>by simp at b;rw[show a=c from aD (fg.inj b.1) (aD (fT.inj b.2.1) (aD b.2.2.1 (jV G b.2.2.2)))]⟩
def TW:vy.Ok prog cx 63:=by
 refine iF [] (jF 633825300270344703797589335871 [] func63) (λa=>1000005) (by simp[vy]) ?_;rintro⟨c,g,t,l⟩ ⟨al,bs,hl⟩ d bg;simp only at al bs hl;simp[vy]at bg|-;obtain⟨R,z,p,m⟩:=bg;have cF:=al.hw.cnt bs;have cL:=al.hw.ok.len;cases l with
 |nil=>
  have:oa c g t []=true:=by unfold oa;split<;>simp
  simp[f63,R,z,m,this]
 |cons a0 l0=>
 have bH:decide ((a0::l0).length=0)=false:=G;generalize a0::l0=l at*
 have ap:decide (l=[])=false:=by cases l<;>simp at bH|-
 cases N:ju t c.ka.count.length with
 |false=>
  have ab:oa c g t l=false:=by unfold oa;rw[pF N];exact ap
  have cX:=rS N;by_cases w:t<0
  ·simp[f63,R,z,p,m,ap,ab,show decide (t<0)=true by simpa using w]
  ·simp[f63,R,z,p,m,ap,ab,show decide (t<0)=false by simpa using w,show decide ((c.fM.ee.length:Int)<=t)=true by simp;omega]
 |true=>
 have⟨first,bB,bC⟩:=jn N;have b8:=fU (fQ.1 N).1;have ab:oa c g t l=l.all (AX c g.fixed t first):=by unfold oa;rw[bC]
 have⟨c1,c4⟩:=fQ.1 N;simp[f63,R,z,p,m,ap,ab,b8,bB,show decide (t<0)=false by simp;omega,show decide ((c.fM.ee.length:Int)<=t)=false by simp;omega,show decide ((c.ka.count.length:Int)<=t)=false by simp;omega];refine ik c.ej.length B (λi d o=>∃v,Gr o v 1 (iz (wg t (c.ej.take i) 0))/\(∀b,fq v=some b->2<=b)/\iQ 2 o/\o.get 0=some (X 15 0 [c.t])/\o.get 1=some (X 9 0 [g.t])/\Y d 2 (C t)/\Y d 3 (sl (l.map (T.int .i64)))/\Y d 5 (.fc 1 0 0 0)/\Y d 9 (C first)/\Y d 10 v/\Y d 43 (sl (c.ej.map fR.t))/\Y d 44 (C c.ej.length)/\Y d 45 (C i)) ?_ ?_ B ⟨dV,Gr.nil _ _,G,⟨G,G,G⟩,G,G,by simp[p,m]⟩
 ·rintro i d o O L ⟨v,y,Q,n,av,D,p,m,q,j,k,S,F,I⟩;have bi:=Fw t (c.ej.take i) 0;rw[List.length_take]at bi;have A:=Tk t (c.ej.take i) [c.ej[i]] 0;rw[<-aP O,List.length_take,cE B]at A;simp only[wg]at A;generalize wg t (c.ej.take i) 0=s at*
  have aN:=n.cons (X 7 1 [c.ej[i].t]);have a8:Gr (o.cons (X 7 1 [c.ej[i].t])) v 1 (iz s):=y.mono λb W=>by
   have⟨_,_,_,_,w,_⟩:=y.box W;rw[fk,Z (by have:=H.gh w;omega)]
  have bX:=n.ne (b:=0) B;have b6:=n.ne (b:=1) B;simp[p,S,F,I,O,n.low];refine fN (λu=>?_) (λu=>?_)
  ·rw[au (by simpa using u)]at A;have⟨c9,E,a6,cb⟩:=a8.m9 (cx:=cx) (f:=T.int .i64) (aN.ZO (ay _)) kO rfl nP rfl G (λ_=>rfl) (i:Int) dR;obtain⟨a1,a2,a3,a4⟩:=cb;simp at a6;have c6:=aN.sz;have a7:∀b,b<2->E.get b=o.get b:=λb W=>(a2 b B λw=>by have:=Q b w;omega).trans (by rw[fk,Z (by have:=n.sz;omega)]);simp[p,m,q,j,k,S,F,I,L,a6];exact⟨_,by rw[A];simpa using a1,λb W=>(a3 b W).elim (Q b) λw=>by omega,⟨a4.hp,a4.low,by have:=a4.sz;omega⟩,(a7 0 B).trans av,(a7 1 B).trans D,rfl⟩
  ·rw[Z (by simpa using u)]at A;simp[p,m,q,j,k,S,F,I,L,bX,b6,av,D];exact⟨_,by rw[A];simpa using a8,Q,aN,rfl⟩
 ·rintro d o ⟨v,y,Q,n,av,D,p,m,q,j,k,S,F,I⟩;rw[aL]at y;have bi:=Fw t c.ej 0;have bN:=λx=>Tj (t:=t) (l:=c.ej) (i:=0) (x:=x);have b7:∀h:Int,-9223372036854775808<=h->h<9223372036854775808->xv t c.ej 0 h=if 0<=h then(wg t c.ej 0).getD h.toNat (-1)else-1:=λh bW P=>by
   split
   ·exact K5 t _ _ _ B P
   ·exact Uc t _ _ _ B bW B
  generalize wg t c.ej 0=s at*
  simp[m,F,I];refine ik l.length B (λr d E=>E=o/\Y d 5 (.fc 1 0 0 0)/\Y d 9 (C first)/\Y d 10 v/\Y d 59 (sl (l.map (T.int .i64)))/\Y d 60 (C l.length)/\Y d 61 (C r)/\(l.drop r).all (AX c g.fixed t first)=l.all (AX c g.fixed t first)) ?_ ?_ B (by simp[q,j,k])
  ·rintro r d E O L ⟨rfl,q,j,k,U,J,K,e⟩;rw[aJ O,cA]at e;simp[j,U,J,K,O];refine fN (λu=>?_) (λu=>?_)
   ·have:AX c g.fixed t first l[r]=true:=by unfold AX;rw[u];rfl
    rw[this,bm]at e;simp[q,j,k,U,J,K,L,e]
   have bS:AX c g.fixed t first l[r]=xZ g.fixed (xv t c.ej 0 (IntKind.i64.wrap (l[r]-first))):=by unfold AX;rw[u];rfl
   have⟨b9,ca⟩:=ahD (l[r]-first);rw[bS,b7 _ b9 ca]at e;have ae:=λz=>y.len (cx:=cx) z pI _ rfl;simp at ae;have an:=uf .i64 l[r] first
   generalize IntKind.i64.wrap (l[r]-first)=h at*
   have bn:xZ g.fixed (-1)=false:=rfl;cases p1:decide (h<0)with
   |true=>
    rw[Z (by simp at p1;omega),bn,dz]at e;simp[j,an,p1,n.hp,<-e]
   |false=>
   have aE:0<=h:=by simpa using p1
   rw[au aE]at e;cases p2:decide ((s.length:Int)<=h)with
   |true=>
    have:s.getD h.toNat (-1)=-1:=by rw[cN,bV (by simp at p2;omega)];rfl
    rw[this,bn,dz]at e;simp[j,k,an,p1,p2,ae,n.hp,<-e]
   |false=>
   have P:h.toNat<s.length:=by simp at p2;omega
   have⟨x,bp,bT⟩:=bN s[h.toNat] (aG P);have aA:x<g.fixed.length:=by rw[al.hc.fx];exact bT
   have:s.getD h.toNat (-1)=x:=by rw[cN,aB P];simpa using bp
   rw[this,show xZ g.fixed x=g.fixed[x]by simp[xZ,qB,aA]]at e;have⟨b,cd,dd,cp,de,c7,bu,bA,aX⟩:=y.Bd (te:=Ek) rfl (i:=h.toNat) (by simpa using P);simp[bp]at aX;have p3:decide (g.fixed.length<=x)=false:=dR;cases p4:g.fixed[x]
   ·rw[p4,dz]at e;simp[q,j,k,an,p1,p2,p3,p4,ae,fU aE,bu,bA,aX,D,aA,n.hp,<-e]
   ·rw[p4,bm]at e;simp[q,j,k,U,J,K,an,p1,p2,p3,p4,ae,fU aE,bu,bA,aX,D,aA,L,e]
  ·rintro d E ⟨rfl,q,j,k,U,J,K,e⟩;rw[bR]at e;simp at e;simp[J,K,n.hp];simpa using e
def PR{e:io}(ht:e.p 63=some vy)(a:fg)(b:fT)(d:Int)(c:List Int)(f:vZ a b)(g:a.ej≠ [])(hl:c.length<=1000000):rl prog cx e 63 [a.t,b.t,C d,sl (c.map (T.int .i64))]=some (.ez (oa a b d c)):=iN ht TW (a,b,d,c) ⟨f,g,hl⟩
def rL:iK:=⟨fg×fT×Int,λa=>[a.1.t,a.2.1.t,C a.2.2],λa=>vZ a.1 a.2.1/\ju a.2.2 a.1.fM.ee.length=true,λa=> .ez (jk a.1 a.2.1 a.2.2),λa c b=>by simp at b;rw[show a=c from aD (fg.inj b.1) (aD (fT.inj b.2.1) b.2.2)]⟩
def M8:rL.Ok prog cx 57:=by
 refine iF [(58,we),(98,pk),(63,vy)] (jF 16863 [] func57) (λE=>5) (by simp[rL]) ?_;rintro⟨w,a,t⟩ ⟨c,h⟩ I n;simp only at c h;simp[rL]at n|-;obtain⟨j,l,m⟩:=n;have hE:=jk.eq_1 w a t;generalize jk w a t=D at*
 have r:=λ{e:io} (ht:e.p 58=some we)=>N2 ht w a t c;by_cases d:ja w a t<0
 ·rw[au d]at hE;simp[f57,j,l,m,r,d,hE]
 ·rw[Z d]at hE;have f:=rQ d;have⟨b,g,u,F,H,i⟩:=c.hw.at f;rw[ny (fQ.1 f).1 g]at hE;have z:=c.hw.ev b (aC g);have x:w.fM.iL.length<=1000000:=by have:=lY c.hw.wb;omega
  have q:=c.hc.ft (pK f);have y:=λ{e:io} (ht:e.p 98=some pk)=>Ix ht (w:=w.fM) (s:=a.gu) (t:=t) (k:=b.fh) (o:=b.obj) ⟨q,h,i,x,c.hc.rd⟩;have A:=λ{e:io} (ht:e.p 63=some vy)=>PR ht w a t b.nQ c (pK f) z.1;have v:iV w.fM a.gu t b.fh b.obj=vd w.fM a.gu t b.fh b.obj:=by unfold iV;rw[q,h,i];rfl
  rw[v]at hE;simp[f57,j,l,m,r,d,g,u,y,A,hE]
def Iw{d:io}(ht:d.p 57=some rL)(a:fg)(b:fT)(c:Int)(e:vZ a b)(f:ju c a.fM.ee.length=true):rl prog cx d 57 [a.t,b.t,C c]=some (.ez (jk a b c)):=iN ht M8 (a,b,c) ⟨e,f⟩
