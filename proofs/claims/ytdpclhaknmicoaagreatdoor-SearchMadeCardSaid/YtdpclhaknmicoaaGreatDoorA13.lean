/- W16e -/
import Derived.Test.YtdpclhaknmicoaaGreatDoorA8
import Derived.Test.YtdpclhaknmicoaaGreatDoorA11
set_option linter.all false
set_option maxRecDepth 100000
set_option maxHeartbeats 0
namespace Go.Proofs.YtdpclhaknmicoaaGreatDoor
noncomputable section
open Go Go.TI Tryz
attribute [-simp] List.map_take List.map_drop List.map_append ik gu fI Bool.not_or Bool.not_and
def Wm(b:List gd):Prop:=∀a∈b,a.m9.length<=1000000/\a.uY.length<=1000000
def Un(b:Prop)(c:T):Prop:=∃d a:Int,c= .tuple [M d,M a]/\(a=0↔b)
def xu(c:Prop)(e b:Int):Un c (.tuple [M e,M b])=(b=0↔c):=by unfold Un;apply propext;constructor;rintro⟨f,g,d,a⟩;simp at d;rw[d.2];exact a;exact λa=>⟨e,b,rfl,a⟩
def kA{a:fU}(b:lY a):a.cells.length<=12/\a.fT.length<=4/\a.jl.length<=2/\a.fR.length<=2/\a.jM.length<=60/\a.eY.length<=4:=by unfold lY wq at b;simp[aC,aP]at b;omega
def IH:p8 prog cx 30 (λo:lQ=>[o.t]) (λo=>Wm o.eZ/\o.eZ.length<=1000000) (λo=>Un (tS o.gY o.eZ=true)):=by
 refine jX [(77,Dm),(78,xd),(79,tM),(80,xg)] (jz 9223372036871623167 [] func30) (λ_=>1000) (λj b f=>by simp at f;exact lQ.inj f) ?_;rintro⟨a,c⟩ ⟨L,hl⟩ r K
 dsimp at L hl
 simp at K;simp[f30,K];refine fO (λE=>?_) (λE=>?_);simp[xu];simp at E;unfold tS;rw[bj J];simp;simp at E;simp[Ms];refine fO (λy=>?_) (λy=>?_);simp[xu];simp at y;unfold tS;rw[show lY a=false from iC y];simp;have N:lY a:=iC y;have⟨X,Z,ae,al,an,ao⟩:=kA N;simp[Mx,show a.fT.length<=1000000 by omega,show a.fR.length<=1000000 by omega,show a.eY.length<=1000000 by omega,show a.cells.length<=1000000 by omega];have T:tS a c=Kf (uD a) Wf (oN a) [] (kP a) c:=by unfold tS;rw[N,bK J];simp
 rw[T];refine io c.length J (λe r f=>∃B i,yM e i/\Kf (uD a) Wf (oN a) [] (kP a) c=Kf (uD a) Wf (oN a) (c.take e) i (c.drop e)/\jk 2 f/\f.get 0=G (eg 7 0 [lQ.t ⟨a,c⟩])/\f.get 1=G (eg 7 B [i.t])/\jg r 1 0/\jg r 4 1/\iS r 5 e) ?_ ?_ J ?_
 .rintro e r f x S ⟨B,i,F,g,h,l,C,m⟩;have u:=h.ne (b:=0) J;have O:=h.ne (b:=1) J;have n:=L c[e] (aG x);rw[aJ x,Kf]at g;have V:c.take (e+1)=c.take e++[c[e]]:=aM x;simp[l,C,m,x,u,O,h.low];generalize c[e]=d at*
  have q:=λ{H:iq} (ht:H.p 79=G tM)=>Kh ht a i d J (F.up J) n.1 n.2;have D:=λ{H:iq} (ht:H.p 80=G xg) (P:List Int) (U:P.length<=1000000)=>Vo ht c e d.fa P J J U;have I:(f.size=0)=False:=uC h.sz;have z:∀j b k,fQ ((f.cons j).cons b) (f.size+1) k=(f.cons j).cons k:=λj b k=>zq _ _ _ _ rfl (uC h.low);cases v:uD a i d;rw[pO v]at q;rw[v]at g;simp[m,h.hp,z,q,xu,g];rw[show lP a i d=(oN a i d,true)by unfold lP;rw[au v]]at q;cases w:y7 (c.take e) d.fa d.m9 with
  |false=>
   have:Wf (c.take e) d=false:=by unfold Wf;rw[w];rfl
   rw[this]at g;simp[l,m,u,h.hp,z,I,q,D,n.1,xu,g,w]
   |true=>
   cases A:y7 (c.take e) d.fa d.uY with
   |false=>
    have:Wf (c.take e) d=false:=by unfold Wf;rw[A];simp
    rw[this]at g;simp[l,m,u,h.hp,z,I,q,D,n.1,n.2,xu,g,w,A]
     |true=>
    have:Wf (c.take e) d:=by unfold Wf;rw[w,A];rfl
    rw[this,v]at g;have Q:=F.step a d;rw[show lP a i d=(oN a i d,true)by unfold lP;rw[au v]]at Q;simp[l,C,m,u,O,z,I,q,D,n.1,n.2,w,A,S];have R:∀j b k s,(fQ ((f.cons j).cons b) 1 k).get s=if s=1 then some k else((f.cons j).cons b).get s:=λj b k s=>rV (by simp[h.hp]) Y k s;refine⟨B+1,oN a i d,Q,by rw[V];simpa using g,((h.cons _).cons _).put _ _,?_,?_⟩<;>rw[R];have W:(0=f.size+1)=False:=Y;simp[l,u];simp
 rintro r f ⟨B,i,F,g,h,l,C,m⟩;simp[Kf]at g;simp[l,m,g,xu,h.hp];exact⟨1,kP a,Bd a J,Y,⟨Y,Y,Y⟩,Y⟩
end
noncomputable section
open Go Go.TI
def ET(c:Nat)(d:iu):Prop:=∀b∈d.fT,∀a∈b.gh,0<=a/\a<c
def ET.sj{b:Nat}{c:iu}(f:ET b c){i:Int}{d:fF->fF}(g:∀a∈c.fT,∀e∈(d a).gh,0<=e/\e<b):ET b (c.sj i d):=by
 intro a hl;unfold iu.sj at hl;rcases mem_modify hl with j|⟨k,h,rfl⟩
 exact f a j;exact g k h
def BR{f:Nat}{k:iu}(b:ET f k)(q:fU){g:Int}(ht:0<=g/\g<f)(n o r:Int):ET f (gW q k g n o r).1:=by
 have m:∀(d:Int) (c:fF->fF),(∀a,(c a).gh=a.gh\/(c a).gh=oF a.gh g\/(c a).gh=a.gh.filter λj=> !decide (j=g))->ET f (k.sj d c):=λd c h=>b.sj λa hl l i=>by
  rcases h a with e|e|e<;>rw[e]at i;exact b a hl l i;rcases CF i with p|rfl;exact b a hl l p;exact ht;exact b a hl l (List.mem_filter.1 i).1
 exact yu (P:=λj=>ET f j.1) b b (λ_ _ _=>b) (λd c h=>⟨m d c h,λ_ _=>m d c h⟩) (λ_=>b) (λ_ _=>b) (λ_=>b)
def Qq{b:fU}{e:Nat}(i:b.eY.length<=e):∀(c:List gd) (a:ir),runs b a c->ET e a.ig->ET e (yw b a c).ig:=by
 intro c;induction c with
 |nil=>intro a _ f;exact f
 |cons d c g=>
  intro a hr f;have hr:(uD b a d&&runs b (oN b a d) c):=hr;rw[aC]at hr;show ET e (yw b (lP b a d).1 c).ig;rw[(u9 a d hr.1)];have⟨_,h,_⟩:=sS hr.1;have:=gG.1 h;exact g _ hr.2 (BR f b J _ _ _)
def ET.len{b:Nat}{c:iu}(d:ET b c)(e:c.BP):∀a∈c.fT,a.gh.length<=b:=λa hl=>by
 have:=Qo a.gh 0 b (e a hl) (d a hl);omega
def Ef(a:Nat)(b:fU):ET a (kP b).ig:=by intro c hl;unfold kP mI at hl;simp[dq]at hl;obtain⟨_,_,rfl⟩:=hl;simp
def evR(b:List gd):Prop:=∀a∈b,a.kind=4\/a.kind=22->mH a.value
def trR(a:lQ):Prop:=evR a.eZ/\∀b∈a.gY.cells,mH b.mP
structure Qu(s:iu):Prop where
 lk:∀l∈s.fT,mH l.jF/\∀t∈l.gh,mH t
 tx:mH s.tx
 th:∀x∈s.eY,mH x.jq/\mH x.cond
def Qu.qA{d:iu}(b:Qu d)(i:Int){c:fc->fc}(f:∀a,mH a.jq/\mH a.cond->mH (c a).jq/\mH (c a).cond):Qu (d.qA i c):=
 ⟨b.lk,b.tx,λa g=>by
   rcases mem_modify g with j|⟨e,h,rfl⟩;exact b.th a j;exact f e (b.th e h)⟩
def Qu.sj{e:iu}(a:Qu e)(j:Int){c:fF->fF}(g:∀b,(mH b.jF/\∀d∈b.gh,mH d)->mH (c b).jF/\∀d∈(c b).gh,mH d):Qu (e.sj j c):=
 ⟨λl h=>by
   rcases mem_modify h with k|⟨f,i,rfl⟩;exact a.lk l k;exact g f (a.lk f i),a.tx,a.th⟩
def LW{a:Int}(b: -1<=a)(c:a<=1000000):mH a:=by unfold mH;omega
def Qu.apply{j:iu}(a:Qu j)(w:fU){q o p:Int}(ht:mH q)(t:o=16->mH p)(x:Int):Qu (gW w j q o p x).1:=by
 have k:∀i f,mH f->Qu (j.qA i (mh f)):=λi f l=>a.qA i λd c=>⟨l,c.2⟩;have e:∀{i:Int},0<=i->i<=5->mH i:=λy z=>LW J J;have m:mH (-1):=LW J J;have b:= @rS (iu×Int) (λv=>Qu v.1);have own:∀i f,mH f->Qu (j.sj i λh=>{h with jF:=f}):=λi f l=>a.sj i λh c=>⟨l,c.2⟩;unfold gW;refine b (λ_=>k _ _ (e J J)) λ_=>b (λ_=>k _ _ (e J J)) λ_=>b (λ_=>own _ _ ht) λ_=>b (λ_=>own _ _ m) λ_=>b (λ_=>a.sj _ λh c=>⟨c.1,λd g=>(CF g).elim (c.2 d) λs=>s▸ht⟩) λ_=>b (λ_=>a.sj _ λh c=>⟨c.1,λd g=>c.2 d (List.mem_filter.1 g).1⟩) λ_=>b (λ_=>⟨a.lk,ht,a.th⟩) λ_=>b (λ_=>⟨a.lk,m,a.th⟩) λ_=>b (λ_=>a.qA _ λd c=>c) λ_=>b (λ_=>a.qA _ λd c=>c) λ_=>?_;refine b (λu=>(own _ _ m).qA _ λd c=>⟨e (i:=3) J J,t u⟩) λ_=>b (λ_=>(own _ _ ht).qA _ λd c=>⟨e (i:=2) J J,e (i:=0) J J⟩) λ_=>b (λ_=>b (λ_=>a) λ_=>k _ _ (e J J)) λ_=>?_;refine b (λ_=>⟨a.lk,a.tx,λd g=>by
  obtain⟨r,n,rfl⟩:=List.mem_map.1 g;split;exact⟨e (i:=4) J J,(a.th r n).2⟩;exact a.th r n⟩) λ_=>b (λ_=>k _ _ (e J J)) λ_=>b (λ_=>⟨a.lk,a.tx,a.th⟩) λ_=>a
structure RnZ(z:ir):Prop where
 s:Qu z.ig
 ce:∀x∈z.cells,mH x
 fu:∀x∈z.fR,mH x
structure RnW(w:fh):Prop where
 z:RnZ w.mP
 ev:∀e∈w.eZ,mH e.fa/\(e.kind=16->mH e.obj)/\(e.kind=4\/e.kind=22->mH e.value)
def Xp{b:fU}{h:ir}{a:gd}(j:b.jl.length<=1000/\b.eY.length<=1000)(e:uD b h a):mH a.fa/\(a.kind=16->mH a.obj):=by have⟨_,f,d⟩:=sS e;unfold jK at d;simp[aC]at d;have i:=gG.1 f;refine⟨LW J J,λg=>?_⟩;have c:=d.1.2;unfold ko at c;have c:=gG.1 (show jB a.obj b.jl.length=true by simpa[g]using c);exact LW J J 
def Jh{a:fU}(j:a.jl.length<=1000/\a.eY.length<=1000):∀(c:List gd) (b:ir),runs a b c->evR c->(∀e∈c,mH e.fa/\(e.kind=16->mH e.obj)/\(e.kind=4\/e.kind=22->mH e.value))/\(RnZ b->RnZ (yw a b c))
 | [],b,_,_=>⟨Y,id⟩
 |e::c,b,f,m=>by
  have f:(uD a b e&&runs a (oN a b e) c):=f;rw[aC]at f;have r1:=m e Y;obtain⟨n,o⟩:=Jh j c _ f.2 λd hx=>m d (by simp[hx]);obtain⟨k,l⟩:=Xp j f.1;refine⟨λd hx=>?_,λg=>?_⟩;rcases List.mem_cons.1 hx with rfl|hx;exact⟨k,l,r1⟩;exact n d hx;show RnZ (yw a (lP a b e).1 c);rw[u9 b e f.1];refine o ⟨g.s.apply a k l _,?_,?_⟩<;>unfold oN<;>simp only<;>split;rename_i h;exact λd hx=>(bP hx).elim (g.ce d) λi=>i▸r1 (.inl h);exact g.ce;rename_i h;exact λd hx=>(bP hx).elim (g.fu d) λi=>i▸r1 (.inr h);exact g.fu
def Na{d:fU}(e:∀c∈d.cells,mH c.mP):RnZ (kP d):=by have a:∀{i:Int},-1<=i->i<=5->mH i:=λf j=>LW f J;refine⟨⟨λk hl=>?_,a (by simp[kP,mI]) (by simp[kP,mI]),λc b=>?_⟩,λc b=>?_,λc b=>?_⟩;obtain⟨_,_,rfl⟩:=List.mem_map.1 hl;exact⟨a (i:=-1) J J,Y⟩;obtain⟨_,_,rfl⟩:=List.mem_map.1 b;split<;>exact⟨a Y Y,a Y Y⟩;obtain⟨h,g,rfl⟩:=List.mem_map.1 b;exact e h g;obtain⟨_,_,rfl⟩:=List.mem_map.1 b;exact a J J 
def Sp{a:fU}{c:List gd}(f:runs a (kP a) c)(g:a.jl.length<=1000/\a.eY.length<=1000)(e:trR ⟨a,c⟩)(i h:Nat):RnW (yz a c i h):=
 ⟨(Jh g _ _ (Ag f h) λb d=>e.1 b (bU d)).2 (Na e.2),λb d=>(Jh g _ _ f e.1).1 b (bY (bU d))⟩
end
noncomputable section
open Go Go.TI Tryz
attribute [-simp] List.map_take List.map_drop List.map_append ik gu fI Bool.not_or Bool.not_and
section
attribute [-simp] size_cons
def MI{c:fU}{d:ir}{b:List gd}{a:Nat}(e:a<b.length):yw c d (b.drop a)=yw c (lP c d b[a]).1 (b.drop (a+1)):=by rw[aJ e];rfl
def xn:iF:=⟨lQ×Nat,λa=>[a.1.t,M a.2],λa=>lY a.1.gY=true/\Wm a.1.eZ/\a.2<=a.1.eZ.length/\a.1.eZ.length<=1000,λa=>(yw a.1.gY (kP a.1.gY) (a.1.eZ.take a.2)).t,λa c b=>by
 simp at b;rw[lQ.inj b.1,show a.2=c.2 by omega]⟩
structure kO(w:fh):Prop where
 ok:A8 w
 wb:lY w.gY
 sm:yM 1000 w.mP
 ev:Wm w.eZ
 rdt:ET 4 w.mP.ig
 rn:RnW w
def oe:iF:=⟨fh×Int,λa=>[a.1.t,M a.2],λa=>kO a.1,λa=>(yw a.1.gY a.1.mP (a.1.eZ.take a.2.toNat)).t,λa c b=>by
 simp at b;rw[fh.inj b.1,b.2]⟩
def D1{c:iq}(ht:c.p 118=G oe)(e:oe.Ok prog cx 118)(a:fh)(b:Int)(d:kO a):rl prog cx c 118 [a.t,M b]=G (yw a.gY a.mP (a.eZ.take b.toNat)).t:=iL ht e (a,b) d
def Rw:xn.Ok prog cx 31:=by
 refine iD [(78,xd),(79,tM)] (jz 4215 [] func31) (λ_=>2000) (by simp[xn]) ?_;rintro⟨⟨a,i⟩,j⟩ ⟨r,o,y,hl⟩ g l
 dsimp at r o y hl
 simp[xn]at l|-;have⟨L,N,O,P,Q,R⟩:=kA r;simp[f31,l,Mx,show a.fT.length<=1000000 by omega,show a.fR.length<=1000000 by omega,show a.eY.length<=1000000 by omega,show a.cells.length<=1000000 by omega];refine io j J (λe g d=>∃k f,yM e f/\yw a f ((i.take j).drop e)=yw a (kP a) (i.take j)/\jk 3 d/\d.get 0=G (eg 7 0 [lQ.t ⟨a,i⟩])/\d.get 1=G (eg 7 0 [.agg [ed,M 0,ed,ed,ed,ed,ed]])/\d.get 2=G (eg 7 k [f.t])/\iS g 1 j/\jg g 2 0/\jg g 4 1/\jg g 5 2/\iS g 6 e) ?_ ?_ J ?_;rintro e g d F E ⟨k,f,m,h,c,s,u,v,w⟩;have H:=c.ne (b:=0) J;have I:=c.ne (b:=1) J;have K:=c.ne (b:=2) J;have x:e<i.length:=J;have q:=o i[e] (aG x);rw[MI dY,List.getElem_take]at h;have C:=λ{z:iq} (ht:z.p 79=G tM)=>Kh ht a f i[e] J (m.up J) q.1 q.2;simp[*];have B:2<d.size:=iV c.sz;refine⟨k+1,(lP a f i[e]).1,m.step a _,h,c.put _ _,?_,?_,?_⟩<;>rw[rV c.hp B]<;>simp[*];rintro g d ⟨k,f,m,h,c,s,u,v,w⟩;rw[dV dY]at h;have A:1<d.size:=iV c.sz;have D:∀n,(fQ d 1 n).get 1=G n:=λn=>by rw[rV c.hp A];simp
 have h:f=_:=h;rw[<-h];simp[*,c.hp];exact⟨1,kP a,Bd a J,Y,by exact⟨Y,Y,Y⟩,by simp[l]⟩
def Br:oe.Ok prog cx 118:=by
 refine iD [(79,tM)] (jz 262263 [] func118) (λ_=>2000) (by simp[oe]) ?_;rintro⟨f,k⟩ j h m;replace j:kO f:=j;simp[oe]at m|-;have⟨E,F,H,I,K,L⟩:=kA j.wb;have hl:=j.ok.len;have v:=j.sm;have u:=j.ev;obtain⟨f,C,o,e⟩:=f;simp[f118,m]
 dsimp at E F H I K L hl v u
 generalize U:min k.toNat e.length=n;refine io n J (λd h c=>∃l g,yM (1000+d) g/\yw f g ((e.take k.toNat).drop d)=yw f o (e.take k.toNat)/\jk 3 c/\c.get 0=G (eg 15 0 [fh.t ⟨f,C,o,e⟩])/\c.get 1=G (eg 7 0 [.agg [ed,M 0,ed,ed,ed,ed,ed]])/\c.get 2=G (eg 7 l [g.t])/\iS h 1 k/\jg h 2 0/\jg h 4 1/\jg h 5 2/\iS h 6 d) ?_ ?_ J ?_;rintro d h c T R ⟨l,g,q,i,a,w,x,y,z⟩;have V:=a.ne (b:=0) J;have W:=a.ne (b:=1) J;have X:=a.ne (b:=2) J;have A:d<e.length:=J;have B:(d:Int)<k:=J;have s:=u e[d] (aG A);rw[MI dY,List.getElem_take]at i;have P:=λ{D:iq} (ht:D.p 79=G tM)=>Kh ht f g e[d] J (q.up J) s.1 s.2;simp[*];have O:2<c.size:=iV a.sz;refine⟨l+1,(lP f g e[d]).1,(q.step f _).up J,i,a.put _ _,?_,?_,?_⟩<;>rw[rV a.hp O]<;>simp[*];rintro h c ⟨l,g,q,i,a,w,x,y,z⟩;rw[dV dY]at i;have N:1<c.size:=iV a.sz;have Q:∀r,(fQ c 1 r).get 1=G r:=λr=>by rw[rV a.hp N];simp
 have i:g=_:=i;rw[<-i];by_cases B:(n:Int)<k;have S:¬n<e.length:=J;simp[*,a.hp];simp[*,a.hp];exact⟨1,o,v,Y,by exact⟨Y,Y,Y⟩,by simp[m]⟩
end
end
noncomputable section
open Go Go.TI
def JV{c:fU}{b a:iu}(d:ou c b)(hl:a.fT.length=b.fT.length/\a.done.length=b.done.length/\a.eY.length=b.eY.length):ou c a=true:=by
 unfold ou at*
 rw[hl.1,hl.2.1,hl.2.2];exact d
def yN.up{b Mq:Nat}{d:fh}{c:fi}(a:yN b d c)(g:b<=Mq):yN Mq d c:=⟨a.fx,a.wk,a.ce,a.fu,a.ft,λe f=>iV (a.rd e f),a.BP,iV a.od⟩
def yN.go{f:Nat}{c:fh}{d:fi}(a:yN f c d)(i:Int)(e:gd)(g h:Int):yN (f+1) c (oZ c d i e g h):=by have hl:=BS c.gY d.ig g e.kind e.obj h;refine⟨?_,?_,λb=>?_,λb=>?_,λb=>JV (a.ft b) ⟨hl.1,hl.2.1,hl.2.2⟩,Jb a.rd _ _ _ _ _,yt a.BP _ _ _ _ _,?_⟩;have:=a.fx;simp[oZ];grind;have:=a.wk;simp[oZ];grind;have:=a.ce b;simp[oZ];grind;have:=a.fu b;simp[oZ];grind;have:=a.od;simp[oZ,aT,aU,cW];omega
def yN.step{c:Nat}{a:fh}{b:fi}(d:yN c a b)(ch:fG)(e:iO a b ch.fa):yN (c+1) a (jp a b ch).1:=by unfold jp;rw[au e];exact d.go _ _ _ _
def yN.start{w:fh}(h:kO w):yN 1000 w (jv w):=by
 have c:w.eZ≠ []->uG w.gY w.mP=true:=λa=>by
  have⟨d,e,b⟩:=List.exists_cons_of_ne_nil a;have hr:=h.ok.run;unfold runs at hr;rw[b]at hr;simp[vt,aC]at hr;exact(sS hr.1).1
 refine⟨by simp[jv],by simp[jv],λa=>?_,λa=>?_,λa=>?_,h.sm.r,h.ok.BP,by simp[jv]⟩
 all_goals
  have:=c a;unfold uG at this;simp[aC,aP]at this;simp[jv,this]
def adp(a:Int): -9223372036854775808<=IntKind.i64.wrap a/\IntKind.i64.wrap a<9223372036854775808:=by simp only[IntKind.wrap,IntKind.bits,IntKind.signed];by_cases b:a% 2^64>=(2:Int)^(64-1)<;>simp<;>omega
def OY{a:Int}(b: -9223372036854775808<=a)(c:a<9223372036854775808):IntKind.i64.wrap a=a:=by rw[<-kZ,lA b c]
def rj(b:Int):List gd->Nat->List Int
 | [],_=>[]
 |e::c,a=>if e.fa=b then(a:Int)::rj b c (a+1)else rj b c (a+1)
def Cv(d:Int):∀(a:List gd) (b:Nat),(rj d a b).length<=a.length:=by
 intro a;induction a with
 |nil=>intro b;simp[rj]
 |cons e a c=>intro b;have:=c (b+1);simp only[rj,aU];split<;>simp<;>omega
def Gd(d:Int):∀(a c:List gd) (b:Nat),rj d (a++c) b=rj d a b++rj d c (b+a.length):=by
 intro a;induction a with
 |nil=>intro c b;rfl
 |cons f a e=>
  intro c b;simp[aW,rj,e,aU];rw[show b+1+a.length=b+(a.length+1)by omega];split<;>rfl
def K8{t:Int}:∀{l:List gd} {i:Nat} {x:Int},x∈rj t l i->∃a:Nat,x=(i+a:Nat)/\a<l.length:=by
 intro l;induction l with
 |nil=>intro i x h;simp[rj]at h
 |cons c l d=>
  intro i x h;simp[rj]at h;have b:x∈rj t l (i+1)->∃a:Nat,x=(i+a:Nat)/\a<(c::l).length:=λh=>by
   have⟨a,e,f⟩:=d h;exact⟨a+1,J,dY⟩
  split at h;rcases List.mem_cons.1 h with h|h;exact⟨0,J,Y⟩;exact b h;exact b h
def Gt(f:Int):∀(b:List gd) (c:Nat) (a:Int),0<=a->a<9223372036854775808->sh f b c a=(rj f b c).getD a.toNat (-1):=by
 intro b;induction b with
 |nil=>intro c a _ _;simp[sh,rj]
 |cons i b e=>
  intro c a g h;simp[sh,rj];split;split;rename_i d;subst d;simp;rename_i d;rw[OY J J,e _ _ J J,show a.toNat=(a-1).toNat+1 by omega];simp;exact e _ _ g h
def LD(d:Int):∀(a:List gd) (c:Nat) (b:Int),a.length<=1000000->-9223372036854775808<=b->b<0->sh d a c b=-1:=by
 intro a;induction a with
 |nil=>intro c b _ _ _;simp[sh]
 |cons j a e=>
  intro c b f g h;simp[aU]at f;simp[sh];split;rw[aq J];by_cases i:b=-9223372036854775808;subst i;have:IntKind.i64.wrap (-9223372036854775808-1)=9223372036854775807:=d6;have hl:=Cv d a (c+1);rw[this,Gt d a _ _ J J,da,cj J];rfl;rw[OY J J];exact e _ _ J J J;exact e _ _ J g h
def kO.cnt{a:fh}(b:kO a)(d:a.eZ≠ []):a.mP.count.length=a.gY.eY.length:=by have⟨e,f,c⟩:=List.exists_cons_of_ne_nil d;have hr:=b.ok.run;unfold runs at hr;rw[c]at hr;simp[vt,aC]at hr;have:=(sS hr.1).1;unfold uG at this;simp[aC,aP]at this;exact this.2
end
noncomputable section
open Go Go.TI Tryz
attribute [-simp] List.map_take List.map_drop List.map_append ik gu fI Bool.not_or Bool.not_and
def aim(d:Nat)(e:T):Prop:=∃(a:List fh) (c:Int),e= .tuple [sl (a.map fh.t),M c]/\∀b∈a,kO b/\b.eZ.length<=d
def VE{d:iq}(ht:d.p 31=G xn)(b:fU)(a:List gd)(c:Nat)(e:lY b)(f:Wm a)(g:c<=a.length)(h:a.length<=1000):rl prog cx d 31 [lQ.t ⟨b,a⟩,M c]=G (yw b (kP b) (a.take c)).t:=iL ht Rw (⟨b,a⟩,c) ⟨e,f,g,h⟩
def Wu{w:fU}{b:List gd}(g:tS w b)(e:lY w)(i:Wm b)(hr:trR ⟨w,b⟩){d:Nat}(j:d<=16)(a:Nat):kO (yz w b d a):=by have⟨c,h,l⟩:=CW g;have⟨m,n,o,p,q,r⟩:=kA e;refine⟨Sq c h j a,e,?_,λf k=>i f (bY (bU k)),Qq J _ _ (Ag c a) (Ef 4 w),Sp c J hr d a⟩;have:=(Bd w J).yw (w:=w) (b.take a);exact this.up dY 
def IB:p8 prog cx 10 (λe:lQ×Nat=>[e.1.t,M e.2]) (λe=>Wm e.1.eZ/\e.1.eZ.length<=1000000/\1<=e.2/\e.2<=16/\trR e.1) (λe=>aim e.2):=by
 refine jX [(30,IH.kx),(31,xn)] (jz 138478519 [(10,[(2,6),(6,8),(6,14),(6,17)])] func10) (λ_=>2000) (λe b h=>by simp at h;exact aD (lQ.inj h.1) (iV h.2)) ?_;rintro⟨⟨g,c⟩,a⟩ ⟨w,hl,U,H,hr⟩ k v
 dsimp at w hl U H hr
 simp at v;obtain⟨_,⟨x,y,rfl,Z⟩,R⟩:=IH.use ⟨g,c⟩ ⟨w,hl⟩;simp[f10,v,R];refine fO (λI=>?_) (λI=>?_);simp;exact⟨[],12,rfl,Y⟩;have q:tS g c:=Z.1 (iC I);have K:lY g:=by
  unfold tS at q;simp[aC]at q;exact q.1.2
 have aN:c.length<=400:=(CW q).2.2;simp[v,show¬(a:Int)<1 by omega,show¬(16:Int)<a by omega];generalize B:(c.length+(a-1))/a=n;have aE:n<=c.length+16:=B▸aV (Nat.div_le_self _ _) J;refine io n J (λl k h=>∃s d,d=l*a/\fD s≠some 0/\Gr h s 15 (((List.range l).map λi=>yz g c a (i*a)).map fh.t)/\jk 1 h/\h.get 0=G (eg 7 0 [lQ.t ⟨g,c⟩])/\iS k 1 a/\jg k 2 0/\ka k 8 s/\iS k 9 (d:Int)) ?_ ?_ J ?_;rintro l k h T _ ⟨s,d,r,C,A,m,u,o,F,O⟩;have a7:=m.ne (b:=0) J;have V:d<c.length:=by
  rw[r];have o:(l+1)*a<=n*a:=bG a T;have F:n*a<=c.length+(a-1):=B▸Nat.div_mul_le_self _ _;rw[cD]at o;omega
 have⟨ap,ax,N,x⟩:=A.oy (cx:=cx) (f:=fh.t) ⟨m.hp,m.low,az _⟩ abU rfl abV rfl Y (λ_=>rfl) (yz g c a d) dY;have Q:=λ{ao:iq} (ht:ao.p 31=G xn)=>VE ht g c d K w J J;have P:binop .add (M (d:Int)) (M (a:Int))=G (M ((d:Int)+a)):=jr J J;have⟨j,ae,aX⟩:∃j:Nat,min ((d:Int)+a) (c.length:Int)=j/\j=min (d+a) c.length:=⟨min (d+a) c.length,J,rfl⟩;have al:d<=j:=J;have an:j<=c.length:=J;have W:(c.drop d).take (j-d)=(c.drop d).take a:=by
  rw[List.take_eq_take_iff];simp;omega
 have E:=N;unfold yz at E;simp[u,o,F,O,Q,E,V,P,ae,al,an,W];have hr:((List.range l).map λi=>yz g c a (i*a))++[yz g c a d]=(List.range (l+1)).map λi=>yz g c a (i*a):=by rw[List.range_succ,List.map_append,r];rfl
 rw[hr]at x;obtain⟨L,ar,av,D⟩:=x;have z:=m.sz;rw[List.map_map]at L;exact⟨ap,λj=>(av 0 j).elim C J,L,⟨D.hp,D.low,iV D.sz⟩,(ar 0 J C).trans u,rfl,by rw[r];simp[Int.add_mul]⟩;rintro k h ⟨s,d,r,C,A,m,u,o⟩;have S:¬d<c.length:=by
  rw[r,<-B];have:=Nat.div_add_mod (c.length+(a-1)) a;have aA:=Nat.mod_lt (c.length+(a-1)) (show a>0 by omega);rw[Nat.mul_comm]at this;omega
 simp[u,o,S];refine⟨.tuple [sl (((List.range n).map λi=>yz g c a (i*a)).map fh.t),M 0],⟨_,0,rfl,λx X=>?_⟩,m.hp,by rw[A.qZ Y];rfl⟩;obtain⟨i,_,rfl⟩:=List.mem_map.1 X;exact⟨Wu q K w hr H _,by simp[yz];omega⟩;exact⟨ed,0,Y,Y,Gr.nil _ _,by exact⟨Y,Y,Y⟩,by simp[v]⟩
end
noncomputable section
open Go Go.TI Tryz
section
attribute [-simp] List.map_take List.map_drop List.map_append
@[simp]theorem VH (a:List T):fD (sl a)=none:=by cases a<;>rfl
def sv(a b:aa jO):Bool:=match a,b with|none,_=>true|some _,none=>false|some a,some b=>decide (a.ver=b.ver)
@[simp]def agY (a b:jO):sv (some a) (some b)=decide (a.ver=b.ver):=a9
def mU(b c:H)(a:Nat):il b c a=sv (b.get a) (c.get a):=by
 unfold il sv;rcases b.get a with _|d
 rfl;cases c.get a<;>simp
def Ir:iF:=⟨Int×Nat,λa=>[M a.1,M a.2],λa=>True,λa=> .bool (jB a.1 a.2),λa c b=>by simp at b;rw[b.1,show a.2=c.2 by omega]⟩
def aaZ:Ir.Ok prog cx 63:=by refine iD [] (jz 19 [] func63) (λc=>1) (by simp[Ir]) ?_;rintro⟨b,e⟩ _ f a;simp[Ir]at a|-;by_cases d:0<=b<;>simp[*,f63,jB]
def Z0{c:iq}(ht:c.p 63=G Ir)(a:Int)(b:Nat):rl prog cx c 63 [M a,M b]=G (.bool (jB a b)):=iL ht aaZ (a,b) trivial
def FV:iF:=⟨gd,λa=>[a.t],λa=>True,λa=> .bool (pz a),λa c b=>by simp at b;rw[gd.inj b]⟩
def Xo:FV.Ok prog cx 41:=by refine iD [] (jz 7 [] func41) (λc=>1) (by simp[FV]) ?_;rintro(a:gd) _ e b;simp[FV]at b|-;by_cases d:a.kind=3<;>simp[*,f41,pz]
def Kk{b:iq}(ht:b.p 41=G FV)(a:gd):rl prog cx b 41 [a.t]=G (.bool (pz a)):=iL ht Xo a trivial
def aa6:FV.Ok prog cx 211:=by refine iD [] (jz 7 [] func211) (λc=>1) (by simp[FV]) ?_;rintro(a:gd) _ e b;simp[FV]at b|-;by_cases d:a.kind=3<;>simp[*,f211,pz]
def VF{b:iq}(ht:b.p 211=G FV)(a:gd):rl prog cx b 211 [a.t]=G (.bool (pz a)):=iL ht aa6 a trivial
def B8:iF:=⟨Int,λa=>[M a],λa=>True,λa=> .bool (ut a),λa c b=>by simp at b;rw[b]⟩
def TB:B8.Ok prog cx 210:=by refine iD [] (jz 29 [] func210) (λc=>1) (by simp[B8]) ?_;rintro(a:Int) _ i b;simp[B8]at b|-;by_cases d:a=6;simp[*,f210,ut];by_cases e:a=8;simp[*,f210,ut];by_cases f:a=10;simp[*,f210,ut];by_cases g:a=17;simp[*,f210,ut];by_cases h:a=21<;>simp[*,f210,ut]
def Yk{b:iq}(ht:b.p 210=G B8)(a:Int):rl prog cx b 210 [M a]=G (.bool (ut a)):=iL ht TB a trivial
def Dv:iF:=⟨gd×gd,λa=>[a.1.t,a.2.t],λa=>True,λa=> .bool (mE a.1 a.2),λa c b=>by simp at b;rw[gd.inj b.1,gd.inj b.2]⟩
def Rp:Dv.Ok prog cx 117:=by refine iD [(41,FV)] (jz 31 [] func117) (λa=>1) (by simp[Dv]) ?_;rintro⟨a,b⟩ _ h c;simp[Dv]at c|-;cases d:pz a;simp[*,f117,Kk,mE];cases e:pz b;simp[*,f117,Kk,mE];cases f:decide (a.obj=b.obj)<;>cases g:decide (a.kind=4)<;>simp[*,f117,Kk,mE]
def Hq{c:iq}(ht:c.p 117=G Dv)(a b:gd):rl prog cx c 117 [a.t,b.t]=G (.bool (mE a b)):=iL ht Rp (a,b) trivial
def wA:iF:=⟨iT×Int×Int,λa=>[a.1.t,M a.2.1,M a.2.2],λa=>jB a.2.1 a.1.w.eZ.length=true/\jB a.2.2 a.1.w.eZ.length=true,λa=> .bool (mE (mL a.1.w.eZ a.2.1) (mL a.1.w.eZ a.2.2)),λa c b=>by simp at b;rw[iT.inj b.1,b.2.1,b.2.2]⟩
def Ui:wA.Ok prog cx 162:=by refine iD [(211,FV)] (jz 463 [(1,[(8,14),(10,14),(11,14)])] func162) (λa=>1) (by simp[wA]) ?_;rintro⟨e,h,i⟩ b t d;simp[wA]at b d|-;obtain⟨j,k,l⟩:=d;have⟨a,d,f⟩:=jt b.1;have⟨c,m,g⟩:=jt b.2;have n:=fZ (gG.1 b.1).1;have o:=fZ (gG.1 b.2).1;rw[show mL e.w.eZ h=a by simp[mL,f],show mL e.w.eZ i=c by simp[mL,g]];cases p:pz a;simp[*,f162,VF,mU,mE];cases q:pz c;simp[*,f162,VF,mU,mE];cases r:decide (a.obj=c.obj)<;>cases s:decide (a.kind=4)<;>simp[*,f162,VF,mU,mE]
def Fe{d:iq}(ht:d.p 162=G wA)(a:iT)(b c:Int)(e:jB b a.w.eZ.length)(f:jB c a.w.eZ.length):rl prog cx d 162 [a.t,M b,M c]=G (.bool (mE (mL a.w.eZ b) (mL a.w.eZ c))):=iL ht Ui (a,b,c) ⟨e,f⟩
end
def DE{d:iv->Bool}{b c:iv}(a:c∈mr d b):c=b/\d b=true:=by unfold mr at a;split at a;simp at a;exact⟨a,by assumption⟩;simp at a
def RE{e:GX}{c:iv}(h:c∈e.pW):
 (∃a b,c=gR a b/\e.vR c=true)\/(∃a f,c=gC f/\f∈e.Hf a)\/(∃a b,c=gL a b/\e.vR c=true)\/(∃a b g i,c=gA a b g i/\e.vR c=true):=by
 unfold GX.pW at h;simp only[cz]at h;rcases h with((h|h)|h)|h
 rw[cT]at h;obtain⟨a,_,h⟩:=h;rw[cT]at h;obtain⟨b,_,h⟩:=h;obtain⟨rfl,d⟩:=DE h;exact .inl ⟨a,b,rfl,d⟩;rw[cT]at h;obtain⟨a,_,h⟩:=h;rw[dq]at h;obtain⟨f,j,rfl⟩:=h;exact .inr (.inl ⟨a,f,rfl,j⟩);rw[cT]at h;obtain⟨a,_,h⟩:=h;rw[cT]at h;obtain⟨b,_,h⟩:=h;obtain⟨rfl,d⟩:=DE h;exact .inr (.inr (.inl ⟨a,b,rfl,d⟩));rw[cT]at h;obtain⟨a,_,h⟩:=h;rw[cT]at h;obtain⟨b,_,h⟩:=h;split at h;rw[cT]at h;obtain⟨g,_,h⟩:=h;rw[cT]at h;obtain⟨i,_,h⟩:=h;obtain⟨rfl,d⟩:=DE h;exact .inr (.inr (.inr ⟨a,b,g,i,rfl,d⟩));simp at h
def GX.NV{e:GX}{d:iv}(f:d∈e.pW):e.vR d=true:=by rcases RE f with⟨b,c,rfl,a⟩|⟨b,i,rfl,a⟩|⟨b,c,rfl,a⟩|⟨b,c,g,h,rfl,a⟩;exact a;exact(XZ _ _ _ a).1;exact a;exact a
end
noncomputable section
open Go Go.TI Tryz
attribute [-simp] List.map_take List.map_drop List.map_append ik gu fI Bool.not_or Bool.not_and
section
attribute [-simp] size_cons
def wI{e:fU}{d:iu}{a:Int}(h:ou e d)(c:jB a e.fT.length):∃b,mQ a=G a.toNat/\d.fT[a.toNat]? =G b/\po d a=b:=by rw[<-(o8 h).1]at c;have⟨b,f,g⟩:=jt c;exact⟨b,fZ (gG.1 c).1,f,by simp[po,g]⟩
def Fa{d:fU}{e:iu}{b:Int}(g:ou d e)(h:jB b d.jl.length):∃a c,mQ b=G b.toNat/\d.jl[b.toNat]? =G a/\mQ a.oG=G a.oG.toNat/\e.fT[a.oG.toNat]? =G c/\vV d e b=c:=by have⟨a,f,k⟩:=jt h;have⟨c,i,j,l⟩:=wI g (vS g f);exact⟨a,c,fZ (gG.1 h).1,f,i,j,by simp[*,vV]⟩
def xV{e:fU}{d:iu}{a:Int}(h:ou e d)(c:jB a e.eY.length):∃b,mQ a=G a.toNat/\d.eY[a.toNat]? =G b/\qu d a=b:=by rw[<-(o8 h).2.2]at c;have⟨b,f,g⟩:=jt c;exact⟨b,fZ (gG.1 c).1,f,by simp[qu,g]⟩
def kO.at{b:fh}(j:kO b){i:Int}(c:jB i b.eZ.length):∃a:gd,b.eZ[i.toNat]? =G a/\mQ i=G i.toNat/\b.gx.e i=a/\jB a.fa b.gY.eY.length/\ko b.gY a.kind a.obj=true:=by have⟨a,d,f,g,h⟩:=j.ok.e c;exact⟨a,d,fZ (gG.1 c).1,f,g,h⟩
def kO.rd{w:fh}(c:kO w){b:Int}(g:jB b w.eZ.length):(∀d∈(w.gx.s b).fT,d.gh.length<=2000)/\(w.gx.s b).BP:=by have e:=c.sm.yw (w:=w.gY) (w.eZ.take b.toNat);rw[(c.ok.s g).1];exact⟨λd hl=>by have f:=e.r d hl;have h:=c.ok.len;simp at f;omega,e.a⟩
def Oc(a:ir)(b:H):fdW b 0 aap a.t=be a.ig.t b:=by unfold ir.t ir.cs iu.t iu.cs;simp[-iu.fold,-ir.fold]
def wC:iF:=⟨fh×Int×Int,λa=>[a.1.t,M a.2.1,M a.2.2],λa=>kO a.1/\jB a.2.1 a.1.eZ.length/\jB a.2.2 a.1.eZ.length=true,λa=> .bool (a.1.gx.r8 a.2.1 a.2.2),λa c b=>by simp at b;rw[fh.inj b.1,b.2.1,b.2.2]⟩
def Uo:wC.Ok prog cx 98:=by
 refine iD [(118,oe),(97,Ci)] (jz 77371547675299043809952719 [(1,[(6,12),(8,12),(9,12)])] func98) (λ_=>10) (by simp[wC]) ?_;rintro⟨d,l,r⟩ ⟨g,m,t⟩ Z q
 dsimp at g m t
 simp[wC]at q|-;have⟨S,K,L,N,W,X⟩:=g.at m;have⟨b,F,H,I,V,k⟩:=g.at t;have⟨y,j⟩:=g.ok.s m;have x:=(g.rd m).1;have O:=λ{R:iq} (ht:R.p 118=G oe)=>D1 ht Br d l g;generalize yw d.gY d.mP (d.eZ.take l.toNat)=z at*
 rw[y]at x j;have a:=GX.r8.eq_1 d.gx l r;rw[I,N,y,show d.gx.w=d.gY from rfl]at a;generalize d.gx.r8 l r=T at*
 simp[f98,q,F,H,K,L,mU];refine fO (λn=>?_) (λn=>?_);simp at n;simp[a,n];have P:¬b.fa=S.fa:=iC n;rw[aq P]at a;simp[q,O,Oc];have u:∀c:fF,z.ig.fT[b.obj.toNat]? =G c->c.gh.length<=1099511627776:=λc hl=>iV (x c (aB hl));cases v:decide (b.kind=6)with
 |true=>
  have e:b.kind=6:=iC v;have⟨c,l1,l2,l3⟩:=wI j (mW k J);have hl:=u c l2;rw[au (.inl e),l3]at a;simp[l1,l2,Mz,hl,a]
 |false=>
  cases f:decide (b.kind=10)with
  |true=>
   have e:b.kind=10:=iC f;have⟨c,l1,l2,l3⟩:=wI j (mW k J);have hl:=u c l2;rw[au (.inr e),l3]at a;simp[f,l1,l2,Mz,hl,a]
  |false=>
   have Q:¬(b.kind=6\/b.kind=10):=by simp at v f;omega
   rw[aq Q]at a;cases h:decide (b.kind=8)with
   |true=>
    have e:b.kind=8:=iC h;have⟨c,l1,l2,l3⟩:=wI j (mW k J);rw[au e,l3]at a;simp[f,h,l1,l2,a]
   |false=>
    rw[aq (iC h)]at a;cases i:decide (b.kind=17)with
    |true=>
     have e:b.kind=17:=iC i;have⟨U,c,A,B,C,D,E⟩:=Fa j (qO k J);rw[au e,E]at a;simp[f,h,i,A,B,C,D,a]
    |false=>
     rw[aq (iC i)]at a;cases o:decide (b.kind=21)with
     |true=>
      rw[au (iC o)]at a;simp[f,h,i,o,a]
     |false=>
      rw[aq (iC o)]at a;simp[f,h,i,o,a]
end
end
noncomputable section
open Go Go.TI
def Bv(g:Int)(f:List Int):∀(e:List gd) (b:Nat),
 (rR g f e b=-1/\∀a c,e[a]? =G c->c.fa=g->((b+a:Nat):Int)∈f)\/
 ∃a c,rR g f e b=(b+a:Nat)/\e[a]? =G c/\c.fa=g/\((b+a:Nat):Int)∉f/\∀d h,d<a->e[d]? =G h->h.fa=g->((b+d:Nat):Int)∈f:=by
 intro e;induction e with
 |nil=>intro b;exact .inl ⟨rfl,Y⟩
 |cons q e u=>
  intro b;simp only[rR];split;rename_i j;exact .inr ⟨0,q,Y,Y,j.1,iC j.2,λd h i=>by omega⟩;rename_i j;have p:q.fa=g->(b:Int)∈f:=λi=>by
   by_cases o:(b:Int)∈f;exact o;exact absurd ⟨i,o⟩ j
  rcases u (b+1)with⟨k,l⟩|⟨a,c,k,l,r,s,t⟩;refine .inl ⟨k,λa c n ht=>?_⟩;rcases a with _|a
  simp at n;subst n;simpa using p ht;have:=l a c (iC n) ht;rwa[show b+1+a=b+(a+1)by omega]at this;refine .inr ⟨a+1,c,by rw[k];congr 1;omega,iC l,r,by rwa[show b+1+a=b+(a+1)by omega]at s,λd h v m ht=>?_⟩;rcases d with _|d
  simp at m;subst m;simpa using p ht;have:=t d h J (iC m) ht;rwa[show b+1+d=b+(d+1)by omega]at this
def F8(a:fh)(b:fi)(c:Int):Nat:=if jn a b c<0 then a.eZ.length else(jn a b c).toNat
def F7(a:fh)(b:fi)(c:Int):F8 a b c<=a.eZ.length/\(∀(e:Nat) d,e<F8 a b c->a.eZ[e]? =G d->d.fa=c->(e:Int)∈b.order)/\
 (0<=jn a b c->jn a b c=F8 a b c/\∃d,a.eZ[F8 a b c]? =G d/\d.fa=c/\((F8 a b c:Nat):Int)∉b.order)/\(jn a b c<0->F8 a b c=a.eZ.length):=by
 have j:=Bv c b.order a.eZ 0;simp only[cV]at j;unfold F8;rcases j with⟨g,f⟩|⟨e,d,g,f,l,m,n⟩
 have h:jn a b c=-1:=g;rw[h];exact⟨Y,λe d _ i ht=>f e d i ht,J,Y⟩;have h:jn a b c=(e:Int):=g;have i:=(List.getElem?_eq_some_iff.1 f).1;rw[h,aq J];simp only[bO];exact⟨J,λq k p o ht=>n q k p o ht,λ_=>⟨trivial,d,f,l,m⟩,J⟩
end
noncomputable section
open Go Go.TI Tryz
attribute [-simp] List.map_take List.map_drop List.map_append ik gu fI Bool.not_or Bool.not_and
section
attribute [-simp] size_cons
def Ip:iF:=⟨fh×Int×Int,λa=>[a.1.t,M a.2.1,M a.2.2],λa=>a.1.eZ.length<=1000000,λa=> M (sh a.2.1 a.1.eZ 0 a.2.2),λa c b=>by simp at b;rw[show a=c from aD (fh.inj b.1) (aD b.2.1 b.2.2)]⟩
def aaW:Ip.Ok prog cx 120:=by refine iD [] (jz 20975823 [] func120) (λq=>q.1.eZ.length+5) (by simp[Ip]) ?_;rintro⟨h,m,p⟩ hl c j;simp[Ip]at hl j|-;simp[f120,j];refine io h.eZ.length J (λe c d=>∃f,jk 1 d/\d.get 0=G (eg 15 0 [h.t])/\iS c 1 m/\iS c 2 f/\jg c 3 0/\iS c 7 e/\sh m (h.eZ.drop e) e f=sh m h.eZ 0 p) ?_ ?_ J ⟨p,⟨Y,Y,Y⟩,by simp[j]⟩;rintro e c d u v ⟨f,g,n,r,s,o,i,a⟩;have w:=g.ne (b:=0) J;rw[aJ u]at a;simp[sh]at a;simp[*];refine fO (λk=>?_) (λk=>?_);rw[au (iC k)]at a;simp[*];refine fO (λl=>?_) (λl=>?_);rw[au (iC l)]at a;simp[i,g.hp,<-a];rw[aq (iC l)]at a;simp[*,we];rw[aq (iC k)]at a;simp[*];rintro c d ⟨f,g,n,r,s,o,i,a⟩;rw[cr]at a;simp[sh]at a;simp[n,o,i,g.hp,<-a]
def agp{d:iq}(ht:d.p 120=G Ip)(a:fh)(c b:Int)(hl:a.eZ.length<=1000000):rl prog cx d 120 [a.t,M c,M b]=G (M (sh c a.eZ 0 b)):=iL ht aaW (a,c,b) hl
def pB:iF:=⟨fh×fi×Int,λa=>[a.1.t,a.2.1.t,M a.2.2],λa=>a.1.eZ.length<=1000000/\a.2.1.order.length<=1000000,λa=> M (jn a.1 a.2.1 a.2.2),λa c b=>by simp at b;rw[show a=c from aD (fh.inj b.1) (aD (fi.inj b.2.1) b.2.2)]⟩
def TS:pB.Ok prog cx 69:=by
 refine iD [(97,Ci)] (jz 536875231 [] func69) (λv=>v.1.eZ.length+5) (by simp[pB]) ?_;rintro⟨l,i,m⟩ ⟨hl,y⟩ c p
 dsimp at hl y
 simp[pB]at p|-;obtain⟨w,x,b⟩:=p;simp[f69,w,x];refine io l.eZ.length J (λf c j=>jk 2 j/\j.get 0=G (eg 15 0 [l.t])/\j.get 1=G (eg 9 0 [i.t])/\iS c 2 m/\jg c 3 0/\jg c 4 1/\iS c 7 f/\rR m i.order (l.eZ.drop f) f=jn l i m) ?_ ?_ J ⟨⟨Y,Y,Y⟩,Y,Y,by simp[b,jn]⟩
 .rintro f c j q o ⟨g,d,h,b,e,k,n,a⟩;rw[aJ q]at a;simp only[rR]at a;cases s:decide (l.eZ[f].fa=m)<;>cases u:decide ((f:Int)∈i.order)
  all_goals
   have r:=s;have p2:=u;simp only[aP,bg]at r p2;simp only[r,p2]at a;simp at a;simp[d,h,b,e,k,n,q,s,u,Mz,show i.order.length<=1099511627776 by omega]
  simp[d,h,b,e,k,o,g,a];simp[d,h,b,e,k,o,g,a];simp[g.hp,<-a];simp[d,h,b,e,k,o,g,a]
 rintro c j ⟨g,d,h,b,e,k,n,a⟩;rw[cr]at a;simp only[rR]at a;simp[d,e,n,g.hp,<-a]
def C0{d:iq}(ht:d.p 69=G pB)(b:fh)(a:fi)(c:Int)(hl:b.eZ.length<=1000000)(e:a.order.length<=1000000):rl prog cx d 69 [b.t,a.t,M c]=G (M (jn b a c)):=iL ht TS (b,a,c) ⟨hl,e⟩
def Ut(e:Int)(d:List Int):∀(b:List gd) (a:Nat),rR e d b a<(a+b.length:Nat):=by
 intro b;induction b with
 |nil=>intro a;simp[rR];omega
 |cons f b c=>
  intro a;have g:=c (a+1);simp[rR,aU];split<;>omega
def qV{w:fh}{c:fi}{t:Int}(a:¬jn w c t<0):jB (jn w c t) w.eZ.length=true:=by have:=Ut t c.order w.eZ 0;rw[gG];unfold jn at*;omega
def qT:iF:=⟨fh×fi×Int×List Int,λa=>[a.1.t,a.2.1.t,M a.2.2.1,sl (a.2.2.2.map (T.int .i64))],λa=>a.1.eZ.length<=1000000/\a.2.2.2.length<=1000000,λa=> .bool (mD a.1 a.2.1 a.2.2.1 a.2.2.2),λa c b=>by simp at b;rw[show a=c from aD (fh.inj b.1) (aD (fi.inj b.2.1) (aD b.2.2.1 (jD Y b.2.2.2)))]⟩
def ND:qT.Ok prog cx 73:=by
 refine iD [(120,Ip)] (jz 2361183242534469502783 [] func73) (λN=>N.2.2.2.length+5) (by simp[qT]) ?_;rintro⟨d,b,c,l⟩ ⟨hl,Q⟩ j H
 dsimp at hl Q
 simp[qT]at H|-;obtain⟨B,C,e,f⟩:=H;cases w:jB c d.mP.count.length;have z:mD d b c l=decide (l=[]):=by unfold mD;rw[nQ w]
 have W:=sU w;have V:decide (l.length=0)=decide (l=[]):=by cases l<;>simp
 cases E:decide (c<0);have S:decide ((d.mP.count.length:Int)<=c)=true:=by simp at E;simp;omega
 simp[f73,B,C,e,f,E,S,z];simp[f73,B,C,e,f,E,z];have⟨first,v,P⟩:=jt w;have y:=fZ (gG.1 w).1;have z:mD d b c l=l.all (yK d b.fixed c first):=by unfold mD;rw[P]
 have⟨X,Z⟩:=gG.1 w;simp[f73,B,C,e,show decide (c<0)=false by simp;omega,show decide ((d.mP.count.length:Int)<=c)=false by simp;omega,z];refine io l.length J (λi j s=>jk 2 s/\s.get 0=G (eg 15 0 [d.t])/\s.get 1=G (eg 9 0 [b.t])/\iS j 2 c/\ka j 3 (sl (l.map (T.int .i64)))/\jg j 4 0/\jg j 5 1/\iS j 9 i/\(l.drop i).all (yK d b.fixed c first)=l.all (yK d b.fixed c first)) ?_ ?_ J ⟨⟨Y,Y,Y⟩,Y,Y,by simp[e,f]⟩
 .rintro i j s o I ⟨n,k,r,e,f,m,u,h,a⟩;rw[aJ o,cA]at a;simp[k,e,f,m,h,o,y,v];refine fO (λD=>?_) (λD=>?_);have:yK d b.fixed c first l[i]:=by unfold yK;rw[D];rfl
  rw[this,aZ]at a;simp[k,r,e,f,m,u,h,I,n,a];have R:yK d b.fixed c first l[i]=xM b.fixed (sh c d.eZ 0 (IntKind.i64.wrap (l[i]-first))):=by unfold yK;rw[D];rfl
  rw[R]at a;have A:=λ{U:iq} (ht:U.p 120=G Ip)=>agp ht d c (IntKind.i64.wrap (l[i]-first)) hl;generalize sh c d.eZ 0 (IntKind.i64.wrap (l[i]-first))=g at*
  cases q:decide (g<0)with
  |true=>
   have p3:g<0:=iC q;have:xM b.fixed g=false:=by unfold xM so;rw[aq J];rfl
   rw[this]at a;simp at a;simp[k,e,f,m,h,o,y,v,we,A,q,n.hp,a]
  |false=>
  have p3:¬g<0:=iC q;cases x:decide ((b.fixed.length:Int)<=g)with
  |true=>
   have p4:(b.fixed.length:Int)<=g:=iC x;have:xM b.fixed g=false:=by unfold xM;rw[nQ (by unfold jB;simp;omega)];rfl
   rw[this]at a;simp at a;simp[k,r,e,f,m,u,h,o,y,v,we,A,q,x,n.hp,a]
  |false=>
   have p4:¬(b.fixed.length:Int)<=g:=iC x;have⟨F,K,O⟩:=jt (l:=b.fixed) (i:=g) (by rw[gG];omega);have:xM b.fixed g=F:=by unfold xM;rw[O];rfl
   rw[this]at a;have L:=fZ (show 0<=g by omega);cases F;simp at a;simp[k,r,e,f,m,u,h,o,y,v,we,A,q,x,L,K,n.hp,a];simp[aZ]at a;simp[k,r,e,f,m,u,h,o,y,v,we,A,q,x,L,K,I,n,a]
 rintro j s ⟨n,k,r,e,f,m,u,h,a⟩;rw[cr]at a;simp at a;simp[f,h,n.hp];simpa using a
def I8{e:iq}(ht:e.p 73=G qT)(b:fh)(c:fi)(d:Int)(a:List Int)(hl:b.eZ.length<=1000000)(f:a.length<=1000000):rl prog cx e 73 [b.t,c.t,M d,sl (a.map (T.int .i64))]=G (.bool (mD b c d a)):=iL ht ND (b,c,d,a) ⟨hl,f⟩
structure sH(w:fh)(c:fi):Prop where
 hw:kO w
 hc:yN 1000000 w c
def py{e:Type}{b:List e}{c:Int}(a:jB c b.length):b≠ []:=λd=>by rw[d,gG]at a;simp at a
def sH.l{c:fh}{a:fi}(b:sH c a)(d:c.eZ≠ []):a.ig.fT.length<=4/\a.ig.done.length<=2/\a.ig.eY.length<=4:=by have e:=o8 (b.hc.ft d);have f:=kA b.hw.wb;omega
def sH.sm{d:fh}{c:fi}(a:sH d c)(b:d.eZ≠ []):c.ig.sm:=⟨iV (a.l b),iV (a.l b),iV (a.l b),λe f=>iV (a.hc.rd e f)⟩
def sH.ev{a:fh}{b:fi}(c:sH a b):a.eZ.length<=1000000:=iV c.hw.ok.len
def sH.od{c:fh}{a:fi}(b:sH c a):a.order.length<=1000000:=iV b.hc.od
def pF{c:List gd}{a:Int}{b:gd}(e:0<=a)(d:c[a.toNat]? =G b):mL c a=b:=by unfold mL so;rw[au e,d];rfl
def sO:iF:=⟨fh×fi×Int,λa=>[a.1.t,a.2.1.t,M a.2.2],λa=>sH a.1 a.2.1,λa=> .bool (iO a.1 a.2.1 a.2.2),λa c b=>by simp at b;rw[show a=c from aD (fh.inj b.1) (aD (fi.inj b.2.1) b.2.2)]⟩
def Lt:sO.Ok prog cx 72:=by
 refine iD [(69,pB),(119,oL),(73,qT)] (jz 16863 [] func72) (λo=>5) (by simp[sO]) ?_;rintro⟨a,b,d⟩ (c:sH a b) A j;simp[sO]at j|-;obtain⟨u,v,w⟩:=j;have hE:=iO.eq_1 a b d;generalize iO a b d=n at*
 have z:=λ{f:iq} (ht:f.p 69=G pB)=>C0 ht a b d c.ev c.od;by_cases h:jn a b d<0;rw[au h]at hE;simp[*,f72];rw[aq h]at hE;have g:=qV h;have⟨e,i,q,r,s,t⟩:=c.hw.at g;rw[pF (gG.1 g).1 i]at hE;have m:=c.hw.ev e (aB i);have l:a.gY.jl.length<=1099511627776:=iV (kA c.hw.wb);have x:=λ{f:iq} (ht:f.p 119=G oL)=>yq ht a.gY b.ig d e.kind e.obj l (c.sm (py g));have y:=λ{f:iq} (ht:f.p 73=G qT)=>I8 ht a b d e.m9 c.ev m.1;cases k:jK a.gY b.ig d e.kind e.obj;rw[k]at hE;simp[*,f72];rw[k,aZ]at hE;simp[*,f72]
end
def xY:iF:=⟨iu,λa=>[a.t],λa=>a.fT.length<=1000000/\a.done.length<=1000000/\a.eY.length<=1000000/\∀c∈a.fT,c.gh.length<=1000000,λa=>a.t,λd e b=>by simp at b;rw[iu.inj b]⟩
def Xl:xY.Ok prog cx 67:=by
 rintro(a:iu) d;have⟨q,h,l,k⟩:=Gm [a.t] ⟨0,0,[]⟩ ⟨a,rfl,⟨rfl,ay _,ay _⟩,d⟩;obtain⟨e,f,g,p,rfl,b,n⟩:=l a ⟨rfl,⟨rfl,ay _,ay _⟩,d⟩;have m:TI.qZ h (QJ a e f g)=G a.t:=by
  unfold QJ;rw[PL];simp[b.fz.1,b.fz.2.1,b.fz.2.2]
 have⟨r,i,c⟩:=eQ.1 m;simp[aw]at c;have:=Hn k n.ok.hp (az _) Y i;rw[c]at this;exact FZ (nl _ (by simp[xY])) Y this
def VB{b:iq}(ht:b.p 67=G xY)(a:iu)(c:a.fT.length<=1000000/\a.done.length<=1000000/\a.eY.length<=1000000/\∀d∈a.fT,d.gh.length<=1000000):rl prog cx b 67 [a.t]=G a.t:=iL ht Xl a c
section
attribute [-simp] size_cons
def BM{d:iq}(ht:d.p 72=G sO)(b:fh)(a:fi)(c:Int)(e:sH b a):rl prog cx d 72 [b.t,a.t,M c]=G (.bool (iO b a c)):=iL ht Lt (b,a,c) e
def Do:iF:=⟨fh×fi×Int,λa=>[a.1.t,a.2.1.t,M a.2.2],λa=>sH a.1 a.2.1,λa=>sl ((kG a.1 a.2.1 a.2.2).map (T.int .i64)),λa c b=>by simp at b;rw[show a=c from aD (fh.inj b.1) (aD (fi.inj b.2.1) b.2.2)]⟩
def W2:Do.Ok prog cx 27:=by
 refine iD [(69,pB),(71,vw)] (jz 34368127455 [] func27) (λr=>5) (by simp[Do]) ?_;rintro⟨b,a,c⟩ (e:sH b a) C j;simp[Do]at j|-;obtain⟨w,x,y⟩:=j;have hE:=kG.eq_1 b a c;generalize kG b a c=q at*
 have z:=λ{i:iq} (ht:i.p 69=G pB)=>C0 ht b a c e.ev e.od;by_cases o:jn b a c<0
 .rw[aq J]at hE;simp[*,f27,show¬0<=jn b a c by omega]
  try rfl
 .have f:=qV o;have⟨d,k,s,t,u,v⟩:=e.hw.at f;rw[pF (gG.1 f).1 k]at hE;have n:a.ig.eY.length<=1099511627776:=iV (e.l (py f));have A:=λ{i:iq} (ht:i.p 71=G vw)=>CY ht a.ig d.obj n;have m:0<=jn b a c:=J;cases g:decide (d.kind=18)
  .rw[aq (by simp at g;simp[g])]at hE;simp[*,f27]
   try rfl
  .by_cases h:jb d.obj a.ig.eY 0=[]
   .rw[aq (by simp[h])]at hE;simp[*,f27]
    try rfl
   rw[au ⟨m,iC g,h⟩]at hE;have B:0<(jb d.obj a.ig.eY 0).length:=List.length_pos_iff.2 h;simp[*,f27]
def ab9{d:iq}(ht:d.p 27=G Do)(b:fh)(a:fi)(c:Int)(e:sH b a):rl prog cx d 27 [b.t,a.t,M c]=G (sl ((kG b a c).map (T.int .i64))):=iL ht W2 (b,a,c) e
def agF(g:H)(a:iu)(b:Nat)(c d:List gU):Prop:=∃h e f,rD g 4 9 h [(sl (a.fT.map fF.t),none),(M a.tx,none),(sl (a.done.map T.bool),none),(sl (a.eY.map fc.t),none),(e,some (2,c.map gU.t)),(f,some (2,d.map gU.t)),(ed,none),(.arr 2 0 0 b false,some (1,(List.replicate b false).map T.bool)),(.arr 3 0 0 b false,some (1,(List.replicate b (0:Int)).map (T.int .i64)))]
def sw:jO:=(eg 9 0 [.agg [ed,M 0,ed,ed,ed,ed,ed,ed,ed]])
def y8:iF:=⟨fh,λa=>[a.t],λa=>kO a,λa=>(jv a).t,λc d b=>by simp at b;rw[fh.inj b]⟩
def Ra:y8.Ok prog cx 25:=by
 refine iD [(67,xY)] (jz 17592202821695 [(1,[(3,5),(3,7),(3,9),(3,11),(3,13)])] func25) (λ_=>1000005) (by simp[y8]) ?_;rintro(a:fh) I d s;simp[y8]at s|-;have⟨l1,l2,l3,l4,l5,l6⟩:=I.sm.l;have aE:=I.ok.len;have ar:a.eZ.length<=70368744177664:=J;have av:a.eZ.length*8<=70368744177664:=J;have aA:=λ{ao:iq} (ht:ao.p 67=G xY)=>VB ht a.mP.ig ⟨J,J,J,λal w=>iV (I.sm.r al w)⟩;have V:jv a=⟨a.mP.ig,a.mP.cells.map λi=>⟨i,true⟩,a.mP.fR.map λi=>⟨i,true⟩,[],List.replicate a.eZ.length false,List.replicate a.eZ.length 0⟩:=rfl;rw[V];simp[*,f25];generalize a.mP.ig=c at*
 refine io a.mP.cells.length J (λm d g=>agF g c a.eZ.length ((a.mP.cells.take m).map λi=>⟨i,true⟩) []/\Lb 4 g 0 (eg 15 0 [a.t])/\Lb 4 g 1 sw/\jg d 1 0/\jg d 2 1/\jg d 3 4/\iS d 4 m) ?_ ?_ J ?_;rintro m d g H W ⟨⟨K,e,f,b⟩,h,n,B,C,E,F⟩;have v:=b.get;simp at v;have⟨ap,U,S,q⟩:=(b.gr 4 rfl).oy (cx:=cx) (f:=gU.t) b.ok BK rfl CU rfl Y (λ_=>rfl) ⟨a.mP.cells[m],true⟩ dY;have⟨y,an,z⟩:=b.app 4 rfl q;have⟨o,A⟩:=z _ rfl;simp only[aS,bR,dc,cS]at y o A;simp[*,h.get,fN,q.1.je,q.1.cells];exact⟨⟨_,_,_,by rw[aM H,List.map_append];exact A⟩,h.step o,n.step o⟩;rintro d g ⟨⟨K,e,f,b⟩,h,n,B,C,E,F⟩;rw[aI]at b;simp[*,h.get];refine io a.mP.fR.length J (λm d g=>agF g c a.eZ.length (a.mP.cells.map λi=>⟨i,true⟩) ((a.mP.fR.take m).map λi=>⟨i,true⟩)/\Lb 4 g 0 (eg 15 0 [a.t])/\Lb 4 g 1 sw/\jg d 1 0/\jg d 2 1/\jg d 3 4/\iS d 5 m) ?_ ?_ J ⟨⟨_,_,_,b⟩,h,n,by simp[*]⟩;rintro m d g H W ⟨⟨K,e,f,b⟩,h,n,B,C,E,F⟩;have v:=b.get;simp at v;have⟨ap,U,S,q⟩:=(b.gr 5 rfl).oy (cx:=cx) (f:=gU.t) b.ok BK rfl CU rfl Y (λ_=>rfl) ⟨a.mP.fR[m],true⟩ dY;have⟨y,an,z⟩:=b.app 5 rfl q;have⟨o,A⟩:=z _ rfl;simp only[aS,bR,dc,cS]at y o A;simp[*,h.get,fN,q.1.je,q.1.cells];exact⟨⟨_,_,_,by rw[aM H,List.map_append];exact A⟩,h.step o,n.step o⟩;rintro d g ⟨⟨K,e,f,b⟩,h,n,B,C,E,F⟩;rw[aI]at b;have v:=b.get;simp at v;have Q:=n.get;unfold sw at Q;have D:=b.uB n (eg 9 1 [.agg [sl (c.fT.map fF.t),M c.tx,sl (c.done.map T.bool),sl (c.eY.map fc.t),e,f,ed,.arr 2 0 0 a.eZ.length false,.arr 3 0 0 a.eZ.length false]]);have ax:(fQ g 1 (eg 9 1 [.agg [sl (c.fT.map fF.t),M c.tx,sl (c.done.map T.bool),sl (c.eY.map fc.t),e,f,ed,.arr 2 0 0 a.eZ.length false,.arr 3 0 0 a.eZ.length false]])).get 1=_:=(fj Q _ 1).trans (au rfl);have aN:=(D.gr 4 rfl).fz Y;have aX:=(D.gr 5 rfl).fz Y;have a7:=(D.gr 7 rfl).fz Y;have a8:=(D.gr 8 rfl).fz Y;simp[-List.map_replicate,-yh, *,h.get,fN];exact⟨b.ok.hp,by unfold fi.t fi.cs;simp[-List.map_replicate]⟩
 .have P:∀(j:Nat) (u:T×aa (Nat×List T)),([(sl (c.fT.map fF.t),none),(M c.tx,none),(sl (c.done.map T.bool),none),(sl (c.eY.map fc.t),none),(ed,some (2,[])),(ed,some (2,[])),(ed,none),(.arr 2 0 0 a.eZ.length false,some (1,(List.replicate a.eZ.length false).map T.bool)),(.arr 3 0 0 a.eZ.length false,some (1,(List.replicate a.eZ.length (0:Int)).map (T.int .i64)))]:List (T×aa (Nat×List T)))[j]? =G u->∀e,fD u.1=G e->e+5=j:=by
   intro j u s e Z;rcases j with _|_|_|_|_|_|_|_|_|j<;>simp at s<;>subst s<;>simp at Z<;>omega
  refine⟨⟨1,ed,ed,⟨Y,Y,Y⟩,Y,λf L=>?_,λj k ae u R s X e y z=>ae ?_⟩,⟨Y,?_⟩,⟨by simp[sw],?_⟩,Y⟩
  .simp only[cg,cF,cG,bR,List.take_zero]at L;rcases L with rfl|rfl|rfl|rfl|rfl|rfl|rfl|rfl|rfl
   iterate 4 (show fD _=none;simp)
   exact⟨Gr.nil _ _,d6⟩;exact⟨Gr.nil _ _,d6⟩;show fD _=none;simp;exact⟨.inr ⟨2,0,0,true,_,Y,by simp;rfl,Y⟩,show(1:Nat)≠9 by decide⟩;exact⟨.inr ⟨3,0,0,true,_,Y,by simp;rfl,Y⟩,show(1:Nat)≠9 by decide⟩
  have B:=P j u (iC s) e y;have C:=P k R (iC X) e z;omega
  all_goals
   rintro(w|⟨x,O,i,N,w⟩);simp at w;simp at O;subst O;simp[iy,T.cells]at N;rcases N with rfl|rfl|rfl|rfl|rfl|rfl|rfl|rfl|rfl<;>simp at w
def Vm{b:iq}(ht:b.p 25=G y8)(a:fh)(c:kO a):rl prog cx b 25 [a.t]=G (jv a).t:=iL ht Ra a c
def Km(d:GX){lo hi:Int}{a b:Nat}(c:gd->Bool)(e:lo=a)(f:hi=b):d.Z1 lo hi c=((d.ev.drop a).take (b-a)).all c:=by unfold GX.Z1;rw[e,f,show((b:Int)-a).toNat=b-a by omega];rfl
def Jc{d:gd->Bool}{c:List gd}{a b:Nat}{e:gd}(f:c[a]? =G e)(g:a<b):((c.drop a).take (b-a)).all d=(d e&&((c.drop (a+1)).take (b-(a+1))).all d):=by obtain⟨hl,rfl⟩:=List.getElem?_eq_some_iff.1 f;rw[aJ hl,show b-a=(b-(a+1))+1 by omega,dH,cA]
def kO.nat{c:fh}{a:Int}(d:jB a c.eZ.length):∃b:Nat,a=b/\b<c.eZ.length:=by have:=gG.1 d;exact⟨a.toNat,J,this.2⟩
def Ce:iF:=⟨fh×iv,λe=>[e.1.t,e.2.t],λe=>kO e.1/\jB e.2.a e.1.eZ.length/\jB e.2.b e.1.eZ.length=true,λe=> .bool (decide (e.2.c=0)&&decide (e.2.d=0)&&decide (e.2.jA=[])&&e.1.gx.WN e.2.a e.2.b),λe g f=>by simp at f;rw[fh.inj f.1,iv.inj f.2]⟩
def TO:Ce.Ok prog cx 64:=by
 refine iD [(117,Dv)] (jz 127 [(1,[(7,14),(9,14),(10,14),(11,14)])] func64) (λ_=>10) (by simp[Ce]) ?_;rintro⟨a,⟨y,e,f,k,u,z⟩⟩ ⟨b,h,i⟩ A m
 dsimp at h i
 replace b:kO a:=b;simp[Ce]at m|-;have⟨c,a1,a2,a3,a4,a5⟩:=b.at h;have⟨o,q,r,j,s,t⟩:=b.at i;have l:=GX.WN.eq_1 a.gx e f;rw[a3,j,show a.gx.w=a.gY from rfl]at l;generalize a.gx.WN e f=p at*
 cases d:mE c o;simp[*,f64,mU,Hq];have n:c.kind=3\/c.kind=4:=by unfold mE pz at d;simp at d;exact d.1.1.1
 have g:jB c.obj a.gY.cells.length:=by unfold ko at a5;rw[aq J,au n]at a5;exact a5
 have⟨k,v,x⟩:=jt g;simp[*,f64,mU,Hq,fZ (gG.1 g).1]
 ac_rfl
def I1(a:iu)(b:H):fdW b 3 QH a.t=be (sl (a.eY.map fc.t)) b:=by unfold iu.t iu.cs;simp[-iu.fold]
def Cg:iF:=⟨fh×iv,λe=>[e.1.t,e.2.t],λe=>kO e.1/\jB e.2.a e.1.eZ.length/\jB e.2.b e.1.eZ.length=true,λe=> .bool (decide (e.2.c=0)&&decide (e.2.d=0)&&decide (e.2.jA=[])&&e.1.gx.Wl e.2.a e.2.b),λe g f=>by simp at f;rw[fh.inj f.1,iv.inj f.2]⟩
def TX:Cg.Ok prog cx 65:=by
 refine iD [(118,oe)] (jz 309637306140417614782923263 [(1,[(7,14),(9,14),(10,14),(11,14)]),(9,[(3,7)])] func65) (λ_=>100) (by simp[Cg]) ?_;rintro⟨c,⟨ap,a,b,R,T,x⟩⟩ ⟨h,q,v⟩ i F
 dsimp at q v
 replace h:kO c:=h;simp[Cg]at F|-;have⟨A,a1,a2,a3,a4,a5⟩:=h.at q;have⟨r,C,br,P,Q,bs⟩:=h.at v;have⟨K,L⟩:=h.ok.s q;have an:=λ{a7:iq} (ht:a7.p 118=G oe)=>D1 ht Br c a h;generalize yw c.gY c.mP (c.eZ.take a.toNat)=S at*
 rw[K]at L;have⟨z,a8,bi,bn⟩:=xV L Q;have f:=GX.Wl.eq_1 c.gx a b;rw[a3,P,K,bn]at f;generalize c.gx.Wl a b=N at*
 obtain⟨e,rfl,bW⟩:=kO.nat q;obtain⟨d,rfl,bZ⟩:=kO.nat v;have b8:=h.ok.len;rw[bO]at a1 C;simp[f65,F,a1,C,mU];refine fO (λo=>?_) (λo=>?_);have:(decide (R=0)&&decide (T=0)&&decide (x=[])&&N)=false:=by
  rw[cK];intro n;rw[f]at n;simp[aC,cm,aP,bg]at n o;obtain⟨⟨U,V⟩,⟨⟨⟨⟨⟨⟨bN,W⟩,X⟩,Z⟩,bT⟩,bu⟩,bA⟩⟩:=n;subst V;simp[U,W,X,Z]at o;omega
 simp[this];simp only[ci,dN,cZ,bg,aP]at o;obtain⟨⟨⟨⟨⟨⟨⟨ar,av⟩,ax⟩,aA⟩,aE⟩,aN⟩,aX⟩,b9⟩:=o;have hl:x=[]:=by cases x<;>simp at ax|-
 have bX:d<e:=J;subst ar av hl;have ao:=Km c.gx (lo:=(d:Int)+1) (hi:=e) (a:=d+1) (b:=e) (λj=> !decide (j.fa=r.fa)) J rfl;rw[ao,show c.gx.ev=c.eZ from rfl,bK (show(d:Int)<e by omega),bK aE,bK aN,bj aX,show(decide (A.kind=18)||decide (A.kind=19))=true by simpa using aA]at f;simp;generalize m:(((hE.cons _).cons _).cons _).cons _=l;have B:l.get 0=G (eg 15 0 [c.t]):=by rw[<-m];simp
 have D:l.get 1=G (eg 6 0 [iv.t ⟨ap,e,d,0,0,[]⟩]):=by rw[<-m];simp
 have O:l.get 2=G (eg 7 1 [A.t]):=by rw[<-m];simp
 have E:l.get 3=G (eg 7 1 [r.t]):=by rw[<-m];simp
 have I:Hp l:=by rw[<-m];simp
 clear m;have al:binop .add (M (d:Int)) (M 1)=G (M ((d:Int)+1)):=jr J J;simp[al];refine u5 e (λk i n=>l=n/\d+1<=k/\((c.eZ.drop k).take (e-k)).all (λj=> !decide (j.fa=r.fa))=((c.eZ.drop (d+1)).take (e-(d+1))).all (λj=> !decide (j.fa=r.fa))/\jg i 2 0/\jg i 3 1/\jg i 5 2/\jg i 6 3/\iS i 7 k) ?_ J (k:=d+1) J ?_;rintro k i _ b6 ⟨rfl,b7,g,u⟩;by_cases w:k<e;have H:k<c.eZ.length:=J;have ae:binop .add (M (k:Int)) (M 1)=G (M ((k:Int)+1)):=jr J J;rw[Jc (aF H) w]at g;simp[B,D,E,u,w,H];generalize c.eZ[k]=j at*
 refine fO (λy=>?_) (λy=>?_);rw[y]at g;rw[<-g]at f;simp[f,I];rw[y]at g;simp[u,ae];exact⟨k+1,J,J,J,iC g,Y⟩;rw[show e-k=0 by omega]at g;rw[<-g]at f;simp at f;simp[B,D,O,E,u,w,an,Oc,I1,a8,bi];exact⟨I,f.symm⟩;simp
def xj:iF:=⟨fh×iv,λe=>[e.1.t,e.2.t],λe=>kO e.1/\jB e.2.a e.1.eZ.length/\jB e.2.b e.1.eZ.length/\jB e.2.c e.1.eZ.length/\jB e.2.d e.1.eZ.length=true,λe=> .bool (decide (e.2.jA=[])&&e.1.gx.OB e.2.a e.2.b e.2.c e.2.d),λe g f=>by simp at f;rw[fh.inj f.1,iv.inj f.2]⟩
def NH:xj.Ok prog cx 66:=by
 refine iD [(118,oe),(117,Dv)] (jz 324518867979139826586741578400767 [(3,[(7,28),(9,28),(10,28),(11,28),(13,28),(15,28),(16,28),(17,28),(19,28),(21,28),(22,28),(23,28),(13,29),(15,29),(16,29),(17,29),(19,29),(21,29),(22,29),(23,29),(19,30),(21,30),(22,30),(23,30)]),(11,[(3,7)])] func66) (λ_=>100) (by simp[xj]) ?_;rintro⟨c,⟨br,a,b,q,r,D⟩⟩ ⟨i,w,B,U,V⟩ l R
 dsimp at w B U V
 replace i:kO c:=i;simp[xj]at R|-;have⟨m,a1,a2,a3,a4,a5⟩:=i.at w;have⟨y,I,b8,al,b9,ca⟩:=i.at B;have⟨u,an,ao,ap,cb,cp⟩:=i.at U;have⟨v,ar,av,ax,cL,c1⟩:=i.at V;have⟨Z,ae⟩:=i.ok.s w;have bi:=λ{bX:iq} (ht:bX.p 118=G oe)=>D1 ht Br c a i;generalize yw c.gY c.mP (c.eZ.take a.toNat)=S at*
 rw[Z]at ae;have⟨z,bZ,b6,b7⟩:=xV ae a4;have f:=GX.OB.eq_1 c.gx a b q r;rw[a3,al,ap,ax,Z,b7]at f;generalize c.gx.OB a b q r=F at*
 obtain⟨g,rfl,c6⟩:=kO.nat w;obtain⟨e,rfl,c7⟩:=kO.nat B;have de:=i.ok.len;rw[bO]at a1 I;simp[f66,R];refine fO (λd=>?_) (λd=>?_);have:(decide (D=[])&&F)=false:=by
  rw[cK];intro h;rw[f]at h;simp[aC,cm,aP,bg]at h d;obtain⟨aN,⟨⟨⟨⟨⟨⟨⟨aX,O⟩,P⟩,a7⟩,Q⟩,N⟩,aA⟩,aE⟩⟩:=h;subst aN;simp at d;omega
 simp[this];simp[ci,bg]at d;obtain⟨⟨bs,di⟩,dk⟩:=d;have hl:D=[]:=by cases D<;>simp at bs|-
 have c4:g<e:=J;subst hl;simp[a1,I,an,ao,ar,av,mU,Hq];refine fO (λd=>?_) (λd=>?_);have:F=false:=by
  rw[cK];intro h;rw[f]at h;simp[aC,cm,aP,bg]at h d;obtain⟨⟨⟨⟨⟨⟨⟨aX,O⟩,P⟩,a7⟩,Q⟩,N⟩,aA⟩,aE⟩:=h;simp[O,P,Q,N]at d;omega
 simp[this];simp[ci,bg,aP]at d;obtain⟨⟨⟨⟨bu,bA⟩,bN⟩,bT⟩,bW⟩:=d;have bn:=Km c.gx (lo:=(g:Int)) (hi:=e) (a:=g) (b:=e) (GX.CO m.fa) rfl rfl;rw[bn,show c.gx.ev=c.eZ from rfl,bK (show(g:Int)<e by omega),bK (show q<=r by omega),bK bu,bK bA,bj bN,bT,bW]at f;simp;generalize o:(((((hE.cons _).cons _).cons _).cons _).cons _).cons _=n;have H:n.get 0=G (eg 15 0 [c.t]):=by rw[<-o];simp
 have K:n.get 1=G (eg 6 0 [iv.t ⟨br,g,e,q,r,[]⟩]):=by rw[<-o];simp
 have L:n.get 2=G (eg 7 1 [m.t]):=by rw[<-o];simp
 have X:Hp n:=by rw[<-o];simp
 clear o;refine u5 e (λk l h=>n=h/\g<=k/\((c.eZ.drop k).take (e-k)).all (GX.CO m.fa)=((c.eZ.drop g).take (e-g)).all (GX.CO m.fa)/\jg l 2 0/\jg l 3 1/\jg l 5 2/\iS l 9 k) ?_ J (k:=g) J ?_;rintro k l _ c9 ⟨rfl,dd,j,A⟩;by_cases C:k<e;have W:k<c.eZ.length:=J;have a8:binop .add (M (k:Int)) (M 1)=G (M ((k:Int)+1)):=jr J J;rw[Jc (aF W) C]at j;simp[H,K,L,A,C,W];generalize c.eZ[k]=x at*
 have T:GX.CO m.fa x= !(decide (x.fa=m.fa)&&decide (x.kind=15)):=rfl;refine fO (λE=>?_) (λE=>?_);rw[T,E]at j;rw[<-j]at f;simp at f;simp[f,X];rw[T,E]at j;simp[A,a8];exact⟨k+1,J,J,J,iC j,Y⟩;rw[show e-k=0 by omega]at j;rw[<-j]at f;simp at f;simp[H,K,L,A,C,bi,Oc,I1,bZ,b6];exact⟨X,f.symm⟩;simp
end
def okB(a:List Int):Prop:=a.length<=140737488351232/\∀x∈a,0<=x/\x<256
def Tp(b:List Int)(c:Nat)(d:H):Prop:=∃e a,d.get c=G (eg 2 e [.agg [sl (b.map (T.int .u8)),M a]])/\0<=a
structure C7 where
 (L:List Int) (b:Nat) (n:Int)
def x8(a:C7)(d:List T)(c:H):Prop:=d=[ez a.b,M a.n]/\Tp a.L a.b c/\jk 0 c/\1<=a.n/\a.n<=100/\okB a.L
def vD(a:C7)(g:List T)(e:H)(f:T)(d:H):Prop:=∃c,f= M c/\0<=c/\c<a.n/\Tp a.L a.b d/\Sm a.b e d
def _root_.Go.TI.Sm.out{b:Nat}{h c:H}(a:Sm b (TI.hr h) c):Sm b h (mV h c):=⟨a.ok.out h,a.size,λd e=>by rw[iJ,a.get d e,iZ]⟩
def Jl{c:ak}{a b:Int}(e:¬b=0):binop .rem (.int c a) (.int c b)=G (.int c (a.tmod b)):=by
 have d:Wn b 0=false:=by rw[BH];simp[e]
 unfold binop;simp[AK,d]
def TT:(kW C7 x8 vD).Ok prog cx 139:=by
 refine jP [] [] (jz 262163 [] func139) 5 ?_;rintro⟨c,e,j⟩ _ h ⟨rfl,⟨g,b,f,l⟩,m,s,t,o,k⟩ z p
 dsimp at f l s t o k
 simp at p;simp[*,f139];refine fO (λi=>?_) (λi=>?_);simp[i];exact⟨0,rfl,Int.le_refl _,dZ,⟨g,b,by rw[iJ,iZ];exact f,l⟩,Sm.out (Sm.refl m.hr)⟩;simp at i;have A:IntKind.i64.wrap (b+1)=b+1:=by rw[<-kZ];exact lA J J
 have B:IntKind.i64.wrap b=b:=by rw[<-kZ];exact lA J J
 have u:Sm e (hr h) _:=(Sm.refl m.hr).put (x:=(eg 2 g [.agg [sl (c.map (T.int .u8)),M b]])) (by rw[iZ];exact f) (eg 2 (g+1) [.agg [sl (c.map (T.int .u8)),M (b+1)]]);have n:(fQ (hr h) e (eg 2 (g+1) [.agg [sl (c.map (T.int .u8)),M (b+1)]])).get e=_:=(fj (h:=hr h) (by rw[iZ];exact f) _ e).trans (au rfl);simp[*,tz,fN];generalize fQ (hr h) e _=v at*
 obtain⟨d,rfl⟩:∃d:Nat,b=d:=⟨b.toNat,J⟩;have r:d<c.length:=J;have q:=k c[d] (aG r);have w: -9223372036854775808<=c[d]:=J;have y:c[d]<9223372036854775808:=J;have t0:=Int.tmod_nonneg j q.1;have t1:=Int.tmod_lt_of_pos c[d] (show 0<j by omega);simp[*,we,Jl (a:=c[d]) (show¬j=0 by omega)];exact⟨_,rfl,t0,t1,⟨_,_,by rw[iJ];exact n,J⟩,Sm.out u⟩
def Nk:iF:=⟨Int,λa=>[M a],λ_=>True,λa=>(fJ.mk 1 a [] []).t,λa c b=>by simp at b;rw[b]⟩
def aeX:Nk.Ok prog cx 142:=by refine iD [] (jz 5 [] func142) (λ_=>5) (by simp[Nk]) ?_;rintro a _ c b;simp[Nk]at a b|-;simp[f142,b];simpa using fJ.fold 1 a [] []
def Yo{b:iq}(ht:b.p 142=G Nk)(a:Int):rl prog cx b 142 [M a]=G (fJ.mk 1 a [] []).t:=iL ht aeX a trivial
def QT:iF:=⟨List Nat,λa=>[.str a],λ_=>True,λa=>(fJ.mk 2 0 a []).t,λa c b=>by simp at b;rw[b]⟩
def aeY:QT.Ok prog cx 235:=by refine iD [] (jz 5 [] func235) (λ_=>5) (by simp[QT]) ?_;rintro a _ c b;simp[QT]at a b|-;simp[f235,b];simpa using fJ.fold 2 0 a []
def Yp{b:iq}(ht:b.p 235=G QT)(a:List Nat):rl prog cx b 235 [.str a]=G (fJ.mk 2 0 a []).t:=iL ht aeY a trivial
def QV:iF:=⟨Int×fJ×fJ,λa=>[M a.1,a.2.1.t,a.2.2.t],λ_=>True,λa=>(fJ.mk a.1 0 [] [a.2.1,a.2.2]).t,λa c b=>by
 simp at b;rw[b.1,fJ.inj b.2.1,fJ.inj b.2.2]⟩
def ae3:QV.Ok prog cx 234:=by refine iD [] (jz 119 [] func234) (λ_=>5) (by simp[QV]) ?_;rintro⟨d,b,c⟩ _ e a;simp[QV]at a|-;simp[f234,a,iW];simpa using fJ.fold d 0 [] [b,c]
def ach{d:iq}(ht:d.p 234=G QV)(c:Int)(a b:fJ):rl prog cx d 234 [M c,a.t,b.t]=G (fJ.mk c 0 [] [a,b]).t:=iL ht ae3 (c,a,b) trivial
def QW:iF:=⟨List Nat×fJ,λa=>[.str a.1,a.2.t],λ_=>True,λa=>(fk.mk 1 0 a.1 [] [] a.2 [] []).t,λa c b=>by
 simp at b;rw[b.1,fJ.inj b.2]⟩
def ae4:QW.Ok prog cx 141:=by refine iD [] (jz 27 [] func141) (λ_=>5) (by simp[QW]) ?_;rintro⟨b,c⟩ _ d a;simp[QW]at a|-;simp[f141,a];rw[fk.qv];rfl
def yL:List js:=[⟨1,0,[120],0,0,[]⟩,⟨1,0,[121],0,1,[]⟩,⟨2,0,[118],0,0,[]⟩,⟨1,0,[113],2,0,[]⟩,⟨3,0,[109],0,0,[]⟩,⟨3,0,[110],0,0,[]⟩,⟨4,0,[114],0,0,[]⟩,⟨5,0,[99],0,0,[109]⟩,⟨6,0,[102],0,0,[]⟩]
def FR:iF:=⟨Unit,λ_=>[],λ_=>True,λ_=>sl (yL.map js.t),λ_ _ _=>rfl⟩
def Xk:FR.Ok prog cx 138:=by refine iD [] (jz 1 [] func138) (λ_=>5) (by simp[FR]) ?_;rintro _ _ b a;simp[FR]at a|-;simp[f138,iW,yL]
def VA{a:iq}(ht:a.p 138=G FR):rl prog cx a 138 []=G (sl (yL.map js.t)):=iL ht Xk () trivial
def xR{c:iq}(ht:c.p 141=G QW)(a:List Nat)(b:fJ):rl prog cx c 141 [.str a,b.t]=G (fk.mk 1 0 a [] [] b [] []).t:=iL ht ae4 (a,b) trivial
section
attribute [-simp] size_cons
def Qj{d:iq}(ht:d.p 98=G wC)(a:fh)(c b:Int)(g:kO a)(e:jB c a.eZ.length)(f:jB b a.eZ.length):rl prog cx d 98 [a.t,M c,M b]=G (.bool (a.gx.r8 c b)):=iL ht Uo (a,c,b) ⟨g,e,f⟩
def CQ(c:GX)(d:Int->Int->Bool)(a:List Int)(b:Nat):Bool:=
 !decide (a.getD b 0<a.getD 0 0)&&d (a.getD ((b+1)% a.length) 0) (a.getD b 0)&&(List.range b).all λf=> !decide ((c.e (a.getD b 0)).fa=(c.e (a.getD f 0)).fa)
def Mh{d:GX}{e:Int->Int->Bool}{b:List Int}(f:2<=b.length)(g:b.length<=4)(h:∀a<b.length,jB (b.getD a 0) d.ev.length)(i:∀a<b.length,CQ d e b a):d.MU e b=true:=by unfold GX.MU;simp only[aC,aP];refine⟨⟨⟨f,g⟩,List.all_eq_true.2 λk j=>?_⟩,List.all_eq_true.2 λa c=>i a (List.mem_range.1 c)⟩;obtain⟨a,c,rfl⟩:=List.mem_iff_getElem.1 j;have:=h a c;simpa[List.getD,c]using this
def rf{e:GX}{f:Int->Int->Bool}{a:List Int}(h:a.length<2\/4<a.length\/(∃b<a.length,jB (a.getD b 0) e.ev.length=false)\/∃b<a.length,CQ e f a b=false):e.MU f a=false:=by
 rw[cK];intro d;unfold GX.MU at d;simp only[aC,aP]at d;obtain⟨⟨⟨j,k⟩,g⟩,i⟩:=d;rcases h with h|h|⟨b,c,h⟩|⟨b,c,h⟩
 omega;omega;have:=List.all_eq_true.1 g (a.getD b 0) (by simp[List.getD,c]);rw[h]at this;simp at this;have:=List.all_eq_true.1 i b (List.mem_range.2 c);unfold CQ at h;rw[h]at this;simp at this
def Ph(a b:Nat)(d:b≠0)(c:a<9223372036854775808):binop .rem (M (a:Int)) (M (b:Int))=G (M ((a% b:Nat):Int)):=by rw[Jl J];rfl
def Cm:iF:=⟨fh×iv,λa=>[a.1.t,a.2.t],λa=>kO a.1/\a.2.jA.length<=1000000,λa=> .bool (a.1.gx.dead a.1.gx.r8 a.2),λa c b=>by simp at b;rw[fh.inj b.1,iv.inj b.2]⟩
def Ud:Cm.Ok prog cx 62:=by
 refine iD [(98,wC),(63,Ir)] (jz 2596148777438049903812084076904959 [] func62) (λ_=>100) (by simp[Cm]) ?_;rintro⟨d,⟨P,u,v,w,z,a⟩⟩ ⟨q,av⟩ f S;simp only at av;replace q:kO d:=q;simp[Cm]at S|-;have l:d.gx.dead d.gx.r8 ⟨P,u,v,w,z,a⟩=(decide (u=0)&&decide (v=0)&&decide (w=0)&&decide (z=0)&&d.gx.MU d.gx.r8 a):=rfl;generalize d.gx.dead d.gx.r8 ⟨P,u,v,w,z,a⟩=W at*
 simp[f62,S];refine fO (λH=>?_) (λH=>?_);have:W=false:=by
  rw[cK];intro h;rw[l]at h;simp only[aC,aP]at h;obtain⟨⟨⟨Z,ae⟩,al⟩,R⟩:=h;simp[Z,ae,al]at H;rw[rf J]at R;simp at R
 simp[this];simp only[ci,cZ,bg,aP]at H;obtain⟨⟨⟨⟨⟨ax,aA⟩,aE⟩,aN⟩,br⟩,bs⟩:=H;have ap:2<=a.length:=J;have ar:a.length<=4:=J;have bi:=q.ok.len;rw[ax,aA,aE,aN]at l;simp at l;simp;generalize A:(hE.cons _).cons _=n;have I:n.get 0=G (eg 15 0 [d.t]):=by rw[<-A];simp
 have K:n.get 1=G (eg 6 0 [iv.t ⟨P,u,v,w,z,a⟩]):=by rw[<-A];simp
 have F:Hp n:=by rw[<-A];simp
 clear A;refine io a.length J (λb f h=>n=h/\(∀c<b,jB (a.getD c 0) d.eZ.length=true)/\jg f 2 0/\jg f 3 1/\iS f 5 a.length/\iS f 6 b) ?_ ?_ J ?_;rintro b f _ k B ⟨rfl,D,g⟩;have o:a.getD b 0=a[b]:=by simp[List.getD,k]
 simp[I,K,g,k,Z0];refine fO (λj=>?_) (λj=>?_);rw[rf (.inr (.inr (.inl ⟨b,k,by rw[o];exact(by simpa using j:jB a[b] d.eZ.length=false)⟩)))]at l;simp[l,F];simp[g,B];intro c m;rcases aR c b with h|h
 simpa using D c h;rw[show c=b by omega];simpa[k]using j;rintro f _ ⟨rfl,D,g⟩;simp[g];have C:∀c (m:c<a.length),jB a[c] d.eZ.length=true:=λc m=>by simpa[List.getD,m]using D c m
 refine io a.length J (λb f h=>n=h/\(∀c<b,CQ d.gx d.gx.r8 a c=true)/\jg f 2 0/\jg f 3 1/\iS f 5 a.length/\iS f 7 b) ?_ ?_ J ?_;rintro b f _ k B ⟨rfl,N,g⟩;have o:∀c (m:c<a.length),a.getD c 0=a[c]:=λc m=>by simp[List.getD,m]
 have L:0<a.length:=J;have U:=Ph (b+1) a.length J J;have E:(b+1)% a.length<a.length:=Nat.mod_lt _ L;have r:CQ d.gx d.gx.r8 a b=(!decide (a[b]<a[0])&&d.gx.r8 (a[(b+1)% a.length]'E) a[b]&&(List.range b).all λi=> !decide ((d.gx.e a[b]).fa=(d.gx.e (a.getD i 0)).fa)):=by unfold CQ;rw[o _ k,o _ L,o _ E]
 generalize(b+1)% a.length=V at*
 have X:=λ{aX:iq} (ht:aX.p 98=G wC)=>Qj ht d a[V] a[b] q (C V E) (C b k);have⟨x,a1,a2,a3,a4,a5⟩:=q.at (C b k);rw[a3]at r;simp at U;simp[I,K,g,k,B,L,U,E,X];refine fO (λj=>?_) (λj=>?_);have:CQ d.gx d.gx.r8 a b=false:=by
  rw[r,cK];intro h;simp only[aC,cO,bg]at h;simp[h.1.2]at j;omega
 rw[rf (.inr (.inr (.inr ⟨b,k,this⟩)))]at l;simp[l,F];simp only[ci,cZ,bg]at j;rw[j.2,bj j.1]at r;simp;refine io b J (λi f h=>n=h/\(∀c<i,decide (x.fa=(d.gx.e (a.getD c 0)).fa)=false)/\jg f 2 0/\jg f 3 1/\iS f 5 a.length/\iS f 7 b/\iS f 8 i) ?_ ?_ J ?_;rintro i f _ T an ⟨rfl,O,g⟩;have s:i<a.length:=J;have⟨y,a7,a8,Q,bu,bA⟩:=q.at (C i s);simp[I,K,g,T,s,k,a1,a2,a7,a8];have bn:(d.gx.e (a.getD i 0)).fa=y.fa:=by rw[o i s,Q]
 refine fO (λj=>?_) (λj=>?_);have:CQ d.gx d.gx.r8 a b=false:=by
  rw[r];simp;exact⟨i,T,by simpa[s,Q]using j⟩
 rw[rf (.inr (.inr (.inr ⟨b,k,this⟩)))]at l;simp[l,F];simp[g,an];intro c m;rcases aR c i with h|h
 simpa using O c h;rw[show c=i by omega];simp[s,Q];simpa using j;rintro f _ ⟨rfl,O,g⟩;simp[g,B];intro c m;rcases aR c b with h|h;exact N c h;rw[show c=b by omega,r];simp;intro i ao;simpa using O i ao;simp[g];rintro f _ ⟨rfl,N,g⟩;rw[Mh ap ar D N]at l;simp[g,l,F];simp[g];simp
def pT:iF:=⟨fh×iv,λa=>[a.1.t,a.2.t],λa=>kO a.1/\a.2.jA.length<=1000000,λa=> .bool (a.1.gx.vR a.2),λa c b=>by simp at b;rw[fh.inj b.1,iv.inj b.2]⟩
def Q8:pT.Ok prog cx 24:=by
 refine iD [(63,Ir),(62,Cm),(64,Ce),(65,Cg),(66,xj)] (jz 9302967882613055 [] func24) (λ_=>100) (by simp[pT]) ?_;rintro⟨f,e⟩ ⟨i,u⟩ D s;simp only at u;replace i:kO f:=i;simp[pT]at s|-;have g:=GX.vR.eq_1 f.gx e;simp only[show∀v,f.gx.BV v=jB v f.eZ.length from λ_=>rfl]at g;generalize f.gx.vR e=C at*
 have z:∀{h:iq},h.p 62=G Cm->rl prog cx h 62 [f.t,e.t]=G (.bool (f.gx.dead f.gx.r8 e)):=λht=>iL ht Ud (f,e) ⟨i,u⟩;cases q:decide (e.kind=2)with
 |true=>
  rw[au (iC q)]at g;simp[f24,s,q,z,g]
 |false=>
  rw[aq (iC q)]at g;simp[f24,s,q,Z0];refine fO (λm=>?_) (λm=>?_);rw[aq (by intro k;simp only[aC]at k;simp[k.1.1.1,k.1.1.2,k.1.2,k.2]at m)]at g;simp[g];simp only[ci,cZ]at m;obtain⟨⟨⟨n,o⟩,w⟩,x⟩:=m;rw[au (by rw[n,o,w,x];rfl)]at g;have B:∀{h:iq},h.p 64=G Ce->rl prog cx h 64 [f.t,e.t]=G (.bool (decide (e.c=0)&&decide (e.d=0)&&decide (e.jA=[])&&f.gx.WN e.a e.b)):=λht=>iL ht TO (f,e) ⟨i,n,o⟩;have A:∀{h:iq},h.p 65=G Cg->rl prog cx h 65 [f.t,e.t]=G (.bool (decide (e.c=0)&&decide (e.d=0)&&decide (e.jA=[])&&f.gx.Wl e.a e.b)):=λht=>iL ht TX (f,e) ⟨i,n,o⟩;have y:∀{h:iq},h.p 66=G xj->rl prog cx h 66 [f.t,e.t]=G (.bool (decide (e.jA=[])&&f.gx.OB e.a e.b e.c e.d)):=λht=>iL ht NH (f,e) ⟨i,n,o,w,x⟩;cases j:decide (e.kind=1)with
  |true=>
   rw[au (iC j)]at g;simp[j,B,g]
  |false=>
   rw[aq (iC j)]at g;cases l:decide (e.kind=3)with
   |true=>
    rw[au (iC l)]at g;simp[j,l,A,g]
   |false=>
    rw[aq (iC l)]at g;cases r:decide (e.kind=4)with
    |true=>
     rw[au (iC r)]at g;simp[j,l,r,y,g]
    |false=>
     rw[aq (iC r)]at g;simp[j,l,r,g]
def CZ{c:iq}(ht:c.p 24=G pT)(b:fh)(a:iv)(d:kO b)(hl:a.jA.length<=1000000):rl prog cx c 24 [b.t,a.t]=G (.bool (b.gx.vR a)):=iL ht Q8 (b,a) ⟨d,hl⟩
def Is:iF:=⟨fi×Int,λa=>[a.1.t,M a.2],λa=>a.1.order.length<=1000000,λa=> M (place a.1 a.2),λa c b=>by simp at b;rw[show a=c from aD (fi.inj b.1) b.2]⟩
def aa5:Is.Ok prog cx 70:=by refine iD [] (jz 525367 [] func70) (λo=>1000005) (by simp[Is]) ?_;rintro⟨c,i⟩ hl b m;simp[Is]at hl m|-;obtain⟨p,f⟩:=m;simp[*,f70];refine io c.order.length J (λe b d=>jk 1 d/\d.get 0=G (eg 9 0 [c.t])/\iS b 1 i/\jg b 2 0/\iS b 5 e/\kV (c.order.drop e) i e=place c i) ?_ ?_ J ⟨⟨Y,Y,Y⟩,Y,by simp[f,place]⟩;rintro e b d n q ⟨j,k,f,l,g,a⟩;rw[aJ n]at a;simp[kV]at a;simp[*];refine fO (λh=>?_) (λh=>?_);rw[au (iC h)]at a;simp[g,j.hp,<-a];rw[aq (iC h)]at a;simp[*];rintro b d ⟨j,k,f,l,g,a⟩;rw[cr]at a;simp[kV]at a;simp[k,l,g,j.hp,<-a]
def agr{c:iq}(ht:c.p 70=G Is)(a:fi)(b:Int)(d:a.order.length<=1000000):rl prog cx c 70 [a.t,M b]=G (M (place a b)):=iL ht aa5 (a,b) d
def xf:iF:=⟨fh×fi×Int,λa=>[a.1.t,a.2.1.t,M a.2.2],λa=>sH a.1 a.2.1/\jB a.2.2 a.1.eZ.length=true,λa=> .bool (qh a.1 a.2.1 a.2.2),λa c b=>by simp at b;rw[show a=c from aD (fh.inj b.1) (aD (fi.inj b.2.1) b.2.2)]⟩
def Rf:xf.Ok prog cx 68:=by
 refine iD [(69,pB),(72,sO)] (jz 223 [] func68) (λl=>5) (by simp[xf]) ?_;rintro⟨c,a,e⟩ ⟨b,d⟩ v g
 dsimp at b d
 simp[xf]at g|-;obtain⟨r,s,t⟩:=g;have⟨f,i,m,n,o,q⟩:=b.hw.at d;have hE:=qh.eq_1 c a e;rw[pF (gG.1 d).1 i]at hE;generalize qh c a e=k at*
 have u:=λ{j:iq} (ht:j.p 69=G pB)=>C0 ht c a f.fa b.ev b.od;cases h:decide (jn c a f.fa=e);rw[h]at hE;simp[*,f68];rw[h,aZ]at hE;simp[*,f68,BM]
def Vn{d:iq}(ht:d.p 68=G xf)(a:fh)(b:fi)(c:Int)(e:sH a b)(f:jB c a.eZ.length):rl prog cx d 68 [a.t,b.t,M c]=G (.bool (qh a b c)):=iL ht Rf (a,b,c) ⟨e,f⟩
def YR{h:GX}{f:iv}(e:h.vR f):(f.kind=2/\∀i∈f.jA,jB i h.ev.length=true)\/((f.kind=1\/f.kind=3\/f.kind=4)/\h.BV f.a/\h.BV f.b/\h.BV f.c/\h.BV f.d=true):=by unfold GX.vR at e;split at e;rename_i g;refine .inl ⟨g,λi j=>?_⟩;unfold GX.dead GX.MU at e;simp[aC,cw]at e;exact e.2.1.2 i j;split at e;rename_i g;simp[aC]at g;refine .inr ⟨?_,g.1.1.1,g.1.1.2,g.1.2,g.2⟩;split at e;omega;split at e;omega;split at e;omega;simp at e;simp at e
def vU(b:fh)(c:fi)(a:Int):Bool:=decide (jn b c (mL b.eZ a).fa=a)&&(!decide ((mL b.eZ a).kind=17)||decide ((qu c.ig (mL b.eZ a).fa).jq=4))
def PD{a:List Int}{c:Int}(b:a.getLast?=G c):0<a.length/\a[a.length-1]? =G c:=by rw[List.getLast?_eq_getElem?]at b;refine⟨?_,b⟩;cases a;simp at b;simp
def vy:iF:=⟨fh×fi×iv,λa=>[a.1.t,a.2.1.t,a.2.2.t],λa=>sH a.1 a.2.1/\a.2.2.jA.length<=1000000,λa=> .bool (a.1.gx.vR a.2.2&&Ah a.1 a.2.1 a.2.2),λa c b=>by simp at b;rw[show a=c from aD (fh.inj b.1) (aD (fi.inj b.2.1) (iv.inj b.2.2))]⟩
def Rm:vy.Ok prog cx 26:=by
 refine iD [(24,pT),(68,xf),(69,pB),(70,Is)] (jz 28334198897252767945215 [(11,[(4,6),(4,8),(4,9)]),(16,[(9,10),(9,12)])] func26) (λbn=>1000005) (by simp[vy]) ?_;rintro⟨e,d,c⟩ ⟨g,hl⟩ w I
 dsimp at g hl
 simp[vy]at I|-;obtain⟨q,r,s⟩:=I;have u:=λ{v:iq} (ht:v.p 24=G pT)=>CZ ht e c g.hw hl;cases o:e.gx.vR c;simp[f26,q,r,s,u,o];have hE:=Ah.eq_1 e d c;rw[aZ];generalize Ah e d c=B at*
 have aN:=g.od;have X:=λ{v:iq} (ht:v.p 70=G Is) (n:Int)=>agr ht d n aN;rcases YR o with⟨k,C⟩|⟨k,I,ax,bu,bA⟩
 have h:decide (c.kind=1)=false:=by simp[k]
 have y:decide (c.kind=2):=by simp[k]
 rw[aq J,au k]at hE;simp[f26,q,r,s,u,o,h,y];refine io c.jA.length J (λi w x=>jk 3 x/\x.get 0=G (eg 15 0 [e.t])/\x.get 1=G (eg 9 0 [d.t])/\x.get 2=G (eg 6 0 [c.t])/\jg w 3 0/\jg w 4 1/\jg w 5 2/\iS w 7 i/\(c.jA.drop i).all (vU e d)=B) ?_ ?_ J ⟨⟨Y,Y,Y⟩,Y,Y,Y,by simp[hE];rfl⟩;rintro i w x D av ⟨m,R,S,E,T,U,F,H,f⟩;rw[aJ D,cA]at f;have⟨j,W,al,br,an,bs⟩:=g.hw.at (C _ (aG D));have ar:vU e d c.jA[i]=(decide (jn e d j.fa=c.jA[i])&&(!decide (j.kind=17)||decide ((qu d.ig j.fa).jq=4))):=by
  unfold vU;rw[pF (gG.1 (C _ (aG D))).1 W]
 rw[ar]at f;have⟨l,t1,t2,t3⟩:=xV (g.hc.ft (py (C _ (aG D)))) an;rw[t3]at f;have ae:=m.ne (b:=0) J;have O:=m.ne (b:=1) J;have P:=m.ne (b:=2) J;have aE:=λ{v:iq} (ht:v.p 69=G pB)=>C0 ht e d j.fa g.ev g.od;simp[R,S,E,T,U,F,H,D,ae,O,P,m.low,W,al,aE,t1,t2];refine fO (λaA=>?_) (λaA=>?_);rw[show(decide (jn e d j.fa=c.jA[i])&&(!decide (j.kind=17)||decide (l.jq=4)))=false by grind]at f;simp at f;simp[m.hp,f];rw[show(decide (jn e d j.fa=c.jA[i])&&(!decide (j.kind=17)||decide (l.jq=4)))=true by grind]at f;simp at f;simp[R,S,E,T,U,F,H,ae,O,P,av,m.cons,f];rintro w x ⟨m,R,S,E,T,U,F,H,f⟩;rw[cr]at f;simp at f;simp[E,F,H,m.hp,f];have V:=λ{v:iq} (ht:v.p 68=G xf) (i:Int) (C:jB i e.eZ.length)=>Vn ht e d i g C;have K:jB c.a e.eZ.length:=I;have Z:jB c.b e.eZ.length:=ax;rcases k with k|k|k
 have h:decide (c.kind=1):=by simp[k]
 rw[au k]at hE;cases Q:qh e d c.a;rw[Q]at hE;simp[f26,q,r,s,u,o,h,V,K,Q,hE];rw[Q,aZ]at hE;simp[f26,q,r,s,u,o,h,V,K,Z,Q,hE];have h:decide (c.kind=1)=false:=by simp[k]
 have y:decide (c.kind=2)=false:=by simp[k]
 have N:decide (c.kind=3):=by simp[k]
 rw[aq J,aq J,au k]at hE;have⟨A,ao,ap⟩:=jt (l:=d.pM) (i:=c.a) (g.hc.wk▸K);have a8:=fZ (gG.1 K).1;have aX:pL d c.a=decide (A=0):=by unfold pL;rw[ap];simp
 rw[aX]at hE;rcases L:d.order.getLast? with _|z
 have:d.order=[]:=iC L;rw[L]at hE;simp at hE;simp[f26,q,r,s,u,o,h,y,N,this,hE];have⟨O,P⟩:=PD L;rw[L]at hE;have bi:decide (some z=G c.b)=decide (z=c.b):=Y;rw[bi]at hE;have a7:binop .sub (M (d.order.length:Int)) (M 1)=G (M ((d.order.length-1:Nat):Int)):=by rw[my J J,show(d.order.length:Int)-1=((d.order.length-1:Nat):Int)by omega]
 simp[f26,q,r,s,u,o,h,y,N,O,P,a7,X,a8,ao,hE];have h:decide (c.kind=1)=false:=by simp[k]
 have y:decide (c.kind=2)=false:=by simp[k]
 have N:decide (c.kind=3)=false:=by simp[k]
 rw[aq J,aq J,aq J]at hE;simp[f26,q,r,s,u,o,h,y,N,X,V,Z,hE]
def Vz{d:iq}(ht:d.p 26=G vy)(b:fh)(c:fi)(a:iv)(e:sH b c)(hl:a.jA.length<=1000000):rl prog cx d 26 [b.t,c.t,a.t]=G (.bool (b.gx.vR a&&Ah b c a)):=iL ht Rm (b,c,a) ⟨e,hl⟩
end
end
noncomputable section
open Go Go.TI
end
noncomputable section
open Go Go.TI Tryz
attribute [-simp] List.map_take List.map_drop List.map_append ik gu fI Bool.not_or Bool.not_and
section
attribute [-simp] size_cons
@[simp]def aku (a:Nat):(a+1+1=a)=False:=dY 
@[simp]def akt (a:Nat):(a+1+1+1=a)=False:=dY 
@[simp]def aks (a:Nat):(a+1+1+1+1=a)=False:=dY 
@[simp]def akr (a:Nat):(a+1+1+1+1+1=a)=False:=dY 
@[simp]def akq (a:Nat):(a+1+1+1+1+1+1=a)=False:=dY 
@[simp]def akk (a:Nat):(a=a+1+1+1+1+1+1)=False:=dY 
@[simp]def akj (a:Nat):(a=a+1+1+1+1+1+1+1)=False:=dY 
def Bx(e:H)(a b f:Nat)(c:List T):Prop:=∃g d,e.get a=G ⟨f,b,g,d,false,c⟩
def Bx.mono{d h':H}{a b e:Nat}{c:List T}(j:Bx d a b e c)(g:h'.get a=d.get a):Bx h' a b e c:=by obtain⟨i,f,h⟩:=j;exact⟨i,f,g.trans h⟩
def Bx.gr{d:H}{b c e:Nat}{a:List T}(g:Bx d b c e a):Gr d (.arr b c 0 a.length false) e a:=by obtain⟨i,h,f⟩:=g;exact Gr.new f
def Tf(a:fi)(b:List T)(c:H):Prop:=b=[a.t]/\jk 0 c/\(a.ig.fT.length<=1000000/\a.ig.done.length<=1000000/\a.ig.eY.length<=1000000/\∀d∈a.ig.fT,d.gh.length<=1000000)/\a.cells.length<=1000000/\a.fR.length<=1000000/\a.order.length<=1000000/\a.fixed.length<=1000000/\a.pM.length<=1000000
def ZZ(a:fi)(b c d e f g:Nat):T:= .agg [sl (a.ig.fT.map fF.t),M a.ig.tx,sl (a.ig.done.map T.bool),sl (a.ig.eY.map fc.t),.arr b c 0 a.cells.length false,.arr (b+1) d 0 a.fR.length false,.arr (b+1+1) e 0 a.order.length false,.arr (b+1+1+1) f 0 a.fixed.length false,.arr (b+1+1+1+1) g 0 a.pM.length false]
structure Wc(c:fi)(n e1 e2 e3 e4 e5:Nat)(h':H):Prop where
 bc:Bx h' n e1 2 (c.cells.map gU.t)
 bf:Bx h' (n+1) e2 2 (c.fR.map gU.t)
 bo:Bx h' (n+1+1) e3 1 (iE c.order)
 bx:Bx h' (n+1+1+1) e4 1 (c.fixed.map T.bool)
 bk:Bx h' (n+1+1+1+1) e5 1 (iE c.pM)
 bz:n+5<=h'.size
def Po(b:fi)(k:List T)(h:H)(j:T)(i:H):Prop:=∃a c d e f g,h.size<=a/\Nb h i/\j=ZZ b a c d e f g/\Wc b a c d e f g i
def yT{b c:H}{x:jO}(e:∀a,a<b.size->c.get a=b.get a)(f:c.size=b.size+1)(a:Nat)(d:(a=b.size)=False):il (b.cons x) c a=true:=by rcases Nat.lt_trichotomy a b.size with q|q|q;exact iw ((e a q).trans d2);exact(d▸q:False).elim;exact kf (oR _ dY)
def Ug:(kW fi Tf Po).Ok prog cx 74:=by
 refine jP [(67,xY)] [] (jz 7 [(1,[(2,3),(2,5),(2,7),(6,7),(2,9),(6,9),(2,11),(6,11),(10,11),(2,13),(6,13),(10,13),(2,15),(6,15),(10,15),(14,15),(2,17),(6,17),(10,17),(14,17),(2,19),(6,19),(10,19),(14,19),(18,19),(2,21),(6,21),(10,21),(14,21),(18,21)])] func74) 20 ?_;rintro b _ a ⟨rfl,bs,aN,l1,l2,l3,l4,l5⟩ c4 K;simp at K;have w:=bs.hr;have aA:=λ{bX:iq} (ht:bX.p 67=G xY)=>VB ht b.ig aN;have⟨d,f⟩:∃d:H,d=((TI.hr a).cons (eg 9 0 [b.t])).cons sw:=⟨_,rfl⟩;have bT:jk 0 d:=by subst f;exact(w.cons _).cons _
 have X:d.size=a.size+1+1:=by subst f;rfl
 have br:Nb a d:=by subst f;exact⟨(((Nb.refl w).cons _).cons _).ok,λb ax=>((((Nb.refl w).cons _).cons _).get b ax).trans (iZ a b)⟩
 have ap:d.get a.size=G (eg 9 0 [b.t]):=by subst f;simp
 have ar:d.get (a.size+1)=G sw:=by subst f;simp
 have⟨Z,c6,z,⟨bZ,ca,gA⟩,l,r,bu⟩:=kR (cx:=cx) (sz:=2) bT (x:=sl (b.cells.map gU.t)) (xs:=b.cells.map gU.t) BK rfl CU BK rfl rfl Y Y Y dY;have⟨ae,c7,A,⟨b6,cb,E⟩,m,k,okB⟩:=kR (cx:=cx) (sz:=2) bu (x:=sl (b.fR.map gU.t)) (xs:=b.fR.map gU.t) BK rfl CU BK rfl rfl Y Y Y dY;have⟨al,c9,B,⟨b7,cp,gC⟩,n,i,bA⟩:=kR (cx:=cx) (sz:=1) okB (x:=sl (iE b.order)) (xs:=iE b.order) kS rfl nL kS rfl rfl Y Y d1 dY;have⟨an,dd,C,⟨b8,cL,F⟩,o,g,Rn⟩:=kR (cx:=cx) (sz:=1) bA (x:=sl (b.fixed.map T.bool)) (xs:=b.fixed.map T.bool) Hg rfl I3 Hg rfl rfl Y Y (λe aE=>by obtain⟨c,_,rfl⟩:=List.mem_map.1 aE;rfl) dY;have⟨ao,V,D,⟨b9,c1,I⟩,W,h,bN⟩:=kR (cx:=cx) (sz:=1) Rn (x:=sl (iE b.pM)) (xs:=iE b.pM) kS rfl nL kS rfl rfl Y Y d1 dY;have Q:=yT (x:=(eg 2 0 [])) r l;have R:=yT (x:=(eg 2 0 [])) k m;have S:=yT (x:=(eg 1 0 [])) i n;have U:=yT (x:=(eg 1 0 [])) g o;have bW:=yT (x:=(eg 1 0 [])) h W;rw[X]at l;rw[l]at m;rw[m]at n;rw[n]at o;rw[o]at W;have L:=(r a.size J).trans ap;have N:=(k a.size J).trans L;have O:=(i a.size J).trans N;have aX:=(g a.size J).trans O;have a7:=(r (a.size+1) J).trans ar;have a8:=(k (a.size+1) J).trans a7;have bi:=(i (a.size+1) J).trans a8;have bn:=(g (a.size+1) J).trans bi;have q:=(h (a.size+1) J).trans bn;simp[X,aL]at z gA Q;simp[l,aL]at A E R;simp[m,aL]at B gC S;simp[n,aL]at C F U;simp[o,aL]at D I bW;unfold sw at f q;simp[f74,K,aA];rw[<-f];have av:=λy=>(fj q y (a.size+1)).trans (au rfl);simp[L,N,O,aX,z,A,B,C,D,Q,R,S,U,l,m,n,o,q,av];generalize u:fQ V (a.size+1) _=s;have j:∀c,c≠a.size+1->(mV a s).get c=V.get c:=λc v=>by rw[iJ,<-u,fj q,aq v]
 have P:jk 0 s:=u▸bN.put _ _;have de:(mV a s).size=a.size+7:=by rw[xr,<-u,iB];omega
 exact⟨a.size+1+1,Z,ae,al,an,ao,J,⟨⟨(P.out a).hp,(P.out a).low,J⟩,λc v=>(j c J).trans ((h c J).trans ((g c J).trans ((i c J).trans ((k c J).trans ((r c J).trans (br.get c v))))))⟩,rfl,
  ⟨bZ,ca,(j _ J).trans ((h _ J).trans ((g _ J).trans ((i _ J).trans ((k _ J).trans gA))))⟩,
  ⟨b6,cb,(j _ J).trans ((h _ J).trans ((g _ J).trans ((i _ J).trans E)))⟩,
  ⟨b7,cp,(j _ J).trans ((h _ J).trans ((g _ J).trans gC))⟩,⟨b8,cL,(j _ J).trans ((h _ J).trans F)⟩,⟨b9,c1,(j _ J).trans I⟩,J⟩
def qS(a:fi)(b c d e f:T):List (T×aa (Nat×List T)):=[(sl (a.ig.fT.map fF.t),none),(M a.ig.tx,none),(sl (a.ig.done.map T.bool),none),(sl (a.ig.eY.map fc.t),none),(b,some (2,a.cells.map gU.t)),(c,some (2,a.fR.map gU.t)),(d,some (1,iE a.order)),(e,some (1,a.fixed.map T.bool)),(f,some (1,iE a.pM))]
def Wc.jo{c:fi}{S:iu}{a g i k l m ver:Nat}{h:H}(f:Wc c a g i k l m h)(C:jk 0 h)(K:1<a)(z:h.get 1=G (eg 9 ver [.agg [sl (S.fT.map fF.t),M S.tx,sl (S.done.map T.bool),sl (S.eY.map fc.t),.arr a g 0 c.cells.length false,.arr (a+1) i 0 c.fR.length false,.arr (a+1+1) k 0 c.order.length false,.arr (a+1+1+1) l 0 c.fixed.length false,.arr (a+1+1+1+1) m 0 c.pM.length false]])):
 rD h 1 9 ver (qS {c with ig:=S} (.arr a g 0 c.cells.length false) (.arr (a+1) i 0 c.fR.length false) (.arr (a+1+1) k 0 c.order.length false) (.arr (a+1+1+1) l 0 c.fixed.length false) (.arr (a+1+1+1+1) m 0 c.pM.length false))/\∀b,Fp h 1 b->b=1\/(a<=b/\b<a+5):=by
 have s:∀(j:Nat) (e:T×aa (Nat×List T)),(qS {c with ig:=S} (.arr a g 0 c.cells.length false) (.arr (a+1) i 0 c.fR.length false) (.arr (a+1+1) k 0 c.order.length false) (.arr (a+1+1+1) l 0 c.fixed.length false) (.arr (a+1+1+1+1) m 0 c.pM.length false))[j]? =G e->∀b,fD e.1=G b->b+4=a+j/\j<9:=by
  intro j e n b q;unfold qS at n;rcases j with _|_|_|_|_|_|_|_|_|j<;>simp at n<;>subst n<;>simp at q<;>omega
 have w:rD h 1 9 ver (qS {c with ig:=S} (.arr a g 0 c.cells.length false) (.arr (a+1) i 0 c.fR.length false) (.arr (a+1+1) k 0 c.order.length false) (.arr (a+1+1+1) l 0 c.fixed.length false) (.arr (a+1+1+1+1) m 0 c.pM.length false)):=by
  refine⟨C,z,λu o=>?_,λj B A e x n y b d D=>A ?_⟩
  .simp only[qS,cg,cF,cG]at o;rcases o with rfl|rfl|rfl|rfl|rfl|rfl|rfl|rfl|rfl
   iterate 4 (show fD _=none;simp)
   exact⟨iC f.bc.gr,show(2:Nat)≠9 by decide⟩;exact⟨iC f.bf.gr,show(2:Nat)≠9 by decide⟩;exact⟨iC f.bo.gr,show(1:Nat)≠9 by decide⟩;exact⟨iC f.bx.gr,show(1:Nat)≠9 by decide⟩;exact⟨iC f.bk.gr,show(1:Nat)≠9 by decide⟩
  have E:=s j e n b d;have F:=s B x y b D;omega
 refine⟨w,λb q=>?_⟩;rcases q with d|⟨N,r,L,v,d⟩
 exact .inl d
 .rw[w.get]at r;cases r;simp only[iy,bh,df,cq,T.cells]at v;obtain⟨u,o,rfl⟩:=List.mem_map.1 v;have⟨j,p⟩:=cY o;have:=s j u p b d;have I:4<=j:=by
   rcases j with _|_|_|_|j
   iterate 4 (simp[qS]at p;subst p;simp at d)
   omega
  omega
def afy{b a:Nat}{c:H}{f:jO}(d:Lb b c a f):b≠a:=λe=>d.nf (.inl e.symm)
def zG{e d a:Nat}{b:H}{i y f:jO}(h:Lb e b a f)(c:Lb e b d i)(g:a≠d):Lb e (fQ b d y) a f:=
 h.mO (by rw[fj c.get,aq (afy c)]) (by rw[fj c.get,aq g])
def UG{d c:Nat}{a:H}{g:jO}(b:Lb d a c g)(e:jO):Lb d (fQ a c e) c e:=
 ⟨by rw[fj b.get,au rfl],by
   have f:(fQ a c e).get d=a.get d:=by rw[fj b.get,aq (afy b)]
   rw[jY f];exact b.nf⟩
def UH{b h i:Nat}{f:List (T×aa (Nat×List T))}{a:H}(e:rD a b h i f)(c:jO):Lb b (a.cons c) a.size c:=
 ⟨Y,λd=>by
   have g:(a.cons c).get b=a.get b:=by rw[fH,aq (iV e.lt)]
   rw[jY g]at d;have:=e.fp _ d;omega⟩
def PN{b:List gU}{c d:Int}{a:gU}(f:so b c=G a):fixC b c d=(a.known&&decide (a.value=d)):=by unfold fixC;rw[f];obtain⟨g,e⟩:=a;cases e<;>simp
def xW:iF:=⟨fh×fi×fG,λa=>[a.1.t,a.2.1.t,a.2.2.t],λa=>sH a.1 a.2.1,λa=> .tuple [(jp a.1 a.2.1 a.2.2).1.t,.bool (jp a.1 a.2.1 a.2.2).2],λa c b=>by simp at b;rw[show a=c from aD (fh.inj b.1) (aD (fi.inj b.2.1) (fG.inj b.2.2))]⟩
def J19(b:fi)(a:H):Prop:=∃h c d e f g,rD a 1 9 h (qS b c d e f g)/\Lb 1 a 3 sw
def TF:xW.Ok prog cx 28:=by
 refine AO (tb:=⟨pt [(72,sO),(69,pB),(73,qT),(75,uA)],ht [(74,kW fi Tf Po)]⟩) ml kl (jz 184680779068091373590541728903436752898777087 [] func28) (λ_=>100) (by simp[xW]) nl9 ?_;rintro⟨j,c,e⟩ (b:sH j c) A eK;simp[xW]at eK|-;obtain⟨eG,E,R⟩:=eK;have bA:=jp.eq_1 j c e;cases ap:iO j c e.fa with
 |false=>
  rw[ap,aq Y]at bA;simp[f28,eG,E,R,BM,b,ap,bA];rfl
 |true=>
 rw[au ap]at bA;have hE:=iO.eq_1 j c e.fa;have eL:¬jn j c e.fa<0:=λq=>by rw[au q,ap]at hE;simp at hE
 rw[aq eL,ap]at hE;have O:=qV eL;have⟨a,dd,bn,gF,gI,b6⟩:=b.hw.at O;rw[pF (gG.1 O).1 dd]at bA hE;have ff:jK j.gY c.ig e.fa a.kind a.obj:=by
  cases q:jK j.gY c.ig e.fa a.kind a.obj;rw[q]at hE;simp at hE;rfl
 have fs:=b.hw.ev a (aB dd);have fB:=λ{tb:iq} (ht:tb.p 69=G pB)=>C0 ht j c e.fa b.ev b.od;have fy:=λ{tb:iq} (ht:tb.p 73=G qT)=>I8 ht j c e.fa a.uY b.ev fs.2;have gS:=b.l (py O);have fe:j.gY.jl.length<=1099511627776:=iV (kA b.hw.wb);have e9:=λ{tb:iq} (ht:tb.p 75=G uA)=>MA ht j.gY c.ig e.fa a.kind a.obj e.pI fe ⟨J,J,J,b.hc.rd,b.hc.BP⟩ ff;rw[bA];generalize gQ:jn j c e.fa=u at*
 generalize fv:mD j c e.fa a.uY=dk at*
 simp[f28,eG,E,R,BM,b,ap,fB,dd,bn,fy];generalize U:H.cons _ _=Z;have fY:jk 0 Z:=U▸⟨Y,Y,Y⟩;have gE:Z.size=5:=by rw[<-U];rfl
 have gi:Z.get 0=G (eg 15 0 [j.t]):=by rw[<-U];simp
 have gj:Z.get 1=G (eg 9 0 [c.t]):=by rw[<-U];simp
 have gk:Z.get 2=G (eg 2 0 [e.t]):=by rw[<-U];simp
 have gm:Z.get 3=G sw:=by rw[<-U];simp[sw]
 have gn:Z.get 4=G (eg 7 1 [a.t]):=by rw[<-U];simp
 clear U;refine jy Ug Y c ⟨rfl,fY,⟨J,J,J,b.hc.rd⟩,by have:=b.hc.ce (py O);have:=kA b.hw.wb;omega,by have:=b.hc.fu (py O);have:=kA b.hw.wb;omega,b.od,by have:=b.hc.fx;have:=b.ev;omega,by have:=b.hc.wk;have:=b.ev;omega⟩ ?_;rintro _ X ⟨n,p1,p2,p3,p4,p5,fC,al,rfl,V⟩;rw[gE]at fC;have a0:=(al.get 0 J).trans gi;have a1:=(al.get 1 J).trans gj;have a2:=(al.get 2 J).trans gk;have a3:=(al.get 3 J).trans gm;have a4:=(al.get 4 J).trans gn;have x:=λy=>(fj a1 y 1).trans (au rfl);have go:=λy g (fb:(g=1)=False)=>(fj a1 y g).trans (aq (by simp[fb]));simp[ZZ,a0,a1,a2,a4,x,go,fN,e9];generalize ao:fQ (H.cons _ _) X.size _=N;have b8:jk 0 X:=⟨al.ok.hp,al.ok.low,az _⟩;have gX:=V.bz;have okB:jk 0 N:=ao▸((b8.put _ _).cons _).put _ _;have e6:N.size=X.size+1:=by rw[<-ao,iB];simp[size_cons]
 have eA:N.get X.size=G (eg 4 1 [(gW j.gY c.ig e.fa a.kind a.obj e.pI).1.t]):=by rw[<-ao,rV ((b8.put _ _).cons _).hp (by simp[size_cons]),au rfl]
 have D:∀g,g<X.size->g≠1->N.get g=X.get g:=λg E R=>by
  rw[<-ao,rV ((b8.put _ _).cons _).hp (by simp[size_cons]),aq J,fH,aq dY,fj a1,aq R]
 have bZ:N.get 1=G (eg 9 1 [.agg [sl (c.ig.fT.map fF.t),M c.ig.tx,sl (c.ig.done.map T.bool),sl (c.ig.eY.map fc.t),.arr n p1 0 c.cells.length false,.arr (n+1) p2 0 c.fR.length false,.arr (n+1+1) p3 0 c.order.length false,.arr (n+1+1+1) p4 0 c.fixed.length false,.arr (n+1+1+1+1) p5 0 c.pM.length false]]):=by
  rw[<-ao,rV ((b8.put _ _).cons _).hp (by simp[size_cons]),aq J,fH,aq dY];exact x _
 have eo:=(D 0 J J).trans a0;have et:=(D 2 J J).trans a2;have eu:=(D 3 J J).trans a3;have ey:=(D 4 J J).trans a4;have an:Wc c n p1 p2 p3 p4 p5 N:=⟨V.bc.mono (D _ J J),V.bf.mono (D _ J J),V.bo.mono (D _ J J),V.bx.mono (D _ J J),V.bk.mono (D _ J J),J⟩;clear ao x go D;have gP:oZ j c u a e.fa e.pI=oZ j c u a e.fa e.pI:=rfl;generalize hr:gW j.gY c.ig e.fa a.kind a.obj e.pI=r at*
 obtain⟨S,b9⟩:=r;simp[eA,bZ,fN];generalize bu:fQ N 1 _=bs;have gD:bs.size=X.size+1:=by rw[<-bu,iB,e6]
 have eP:jk 0 bs:=bu▸okB.put _ _;have W:∀g,g≠1->bs.get g=N.get g:=λg R=>by rw[<-bu,fj bZ,aq R]
 have⟨d,eE⟩:=Wc.jo (S:=S) (c:=c) (ver:=2) (h:=bs) ⟨an.bc.mono (W _ J),an.bf.mono (W _ J),an.bo.mono (W _ J),an.bx.mono (W _ J),an.bk.mono (W _ J),J⟩ eP J (by rw[<-bu,fj bZ,au rfl]);have bN:∀g w,g<5->g≠1->N.get g=G w->Lb 1 bs g w:=λg w E R e8=>⟨(W g R).trans e8,λq=>iV (eE g q)⟩;have l0:=bN 0 _ J J eo;have l2:=bN 2 _ J J et;have l3:=bN 3 _ J J eu;have l4:=bN 4 _ J J ey;clear bN bu W eE an eA eo bZ et eu ey okB e6 V a0 a1 a2 a3 a4;have⟨gV,eF,eB,ca⟩:=(d.gr 6 rfl).oy (cx:=cx) (f:=T.int .i64) d.ok kS rfl nL rfl Y (λ_=>rfl) u (uC b.hc.od);have⟨eb,gg,eS⟩:=d.app 6 rfl ca;have⟨ax,av⟩:=eS _ rfl;have dm:=d.get;simp[qS,aS,bR,dc,cS]at eb ax av dm;simp[dm,eB,eb,fN,ca.1.je,ca.1.cells];have eW:=av.cons (eg 2 0 [gU.t ⟨0,false⟩]);have ec:=Step.cons av.ok av.lt (eg 2 0 [gU.t ⟨0,false⟩]);have ar:=UH av (eg 2 0 [gU.t ⟨0,false⟩]);rw[iB]at ar;have z:=zG (y:=(eg 2 1 [gU.t ⟨0,false⟩])) ((l3.step ax).step ec) ar (by have:=(l3.step ax).lt;rw[iB]at this;omega);have s:=zG (y:=(eg 2 1 [gU.t ⟨0,false⟩])) ((l4.step ax).step ec) ar (by have:=(l4.step ax).lt;rw[iB]at this;omega);have P:=UG ar (eg 2 1 [gU.t ⟨0,false⟩]);have eX:=eW.uB ar (eg 2 1 [gU.t ⟨0,false⟩]);generalize fQ (H.cons _ _) eF.size _=gM at*
 generalize eF.size=m at*
 clear eW ec ar av ax eb gg eS ca eB dm l0 l2 l3 l4 d eP gD;refine nS (λA h=>∃aN aX a7 a8 bi e4,rD h 1 9 3 (qS {c with ig:=S,order:=c.order++[u]} aN aX a7 a8 bi)/\Lb 1 h 3 sw/\Lb 1 h 4 (eg 7 1 [a.t])/\Lb 1 h m (eg 2 e4 [(cont dk a.value).t])/\jg A 4 1/\jg A 6 3/\iS A 8 u/\jg A 9 4/\iS A 12 b9/\jg A 14 m) (λea=>?_) (λea=>?_) ?_;subst ea;have fE:(4=m)=False:=by have:=P.nf;have:=s;simp;intro q;subst q;have E:=P.get;rw[s.get]at E;simp at E
 simp[s.get,P.get];exact⟨⟨_,_,_,_,_,eX.uB P _⟩,zG z P (by intro q;subst q;have E:=P.get;rw[z.get]at E;simp[sw]at E),zG s P (iC fE),_,UG P _⟩;subst ea;simp;exact⟨⟨_,_,_,_,_,eX⟩,z,s,_,P⟩;rintro A h ⟨aN,aX,a7,a8,bi,e4,d,l3,l4,eO,F,I,b7,br,eH,eI⟩;simp[br,l4.get];have dn:a.kind=3\/a.kind=4->jB a.obj c.cells.length=true:=λq=>by
  rw[b.hc.ce (py O)];unfold ko at b6;rcases q with q|q<;>simpa[q]using b6
 have ds:a.kind=22\/a.kind=23->jB a.obj c.fR.length=true:=λq=>by
  rw[b.hc.fu (py O)];unfold ko at b6;rcases q with q|q<;>simpa[q]using b6
 have eM:u.toNat<c.fixed.length:=b.hc.fx▸(gG.1 O).2;have fA:u.toNat<c.pM.length:=b.hc.wk▸(gG.1 O).2;have x:=d.get;simp[qS,aS,bR]at x;have eU:∀w y:Bool,mT (.bool w) 0 [.bool y]=G (.bool y):=λ_ _=>rfl;have eV:∀w y:Int,mT (M w) 0 [M y]=G (M y):=λ_ _=>rfl;have k:=oZ.eq_1 j c u a e.fa e.pI;rw[hr,fv]at k;generalize oZ j c u a e.fa e.pI=L at*
 refine nS (λA h=>J19 L h/\jg A 4 1/\jg A 6 3) (λc4=>?_) (λc4=>?_) ?_;have o:a.kind=3:=iC c4;have⟨w,bX,ef⟩:=jt (dn (.inl o));have v:=gG.1 (dn (.inl o));have⟨q,de,ee,di,ej,bT,ae,z,s⟩:=(d.gr 4 rfl).CD (te:=yA) rfl (i:=a.obj.toNat) (iC v.2);have⟨eR,eC,e0,eD,e5,aA,aE,K,Q⟩:=(d.gr 7 rfl).CD (te:=Wz) rfl (i:=u.toNat) (iC eM);have eh:c.cells[a.obj.toNat]'v.2=w:=by rw[aF v.2]at bX;simpa using bX
 simp[eh]at s Q;simp[o,PN ef]at k;have⟨C,B⟩:=d.elem 7 rfl aA K u.toNat (.bool (w.known&&decide (w.value=a.value)));simp[F,I,b7,br,x,l4.get,fZ v.1,ae,z,s,bn,aE,K,Q,eU];exact⟨_,_,_,_,_,_,by rw[k];simpa[qS,aY]using B,l3.step C⟩;have fW:¬a.kind=3:=iC c4;simp;refine fO (λc1=>?_) (λc1=>?_);have o:a.kind=23:=iC c1;have⟨w,bX,ef⟩:=jt (ds (.inr o));have v:=gG.1 (ds (.inr o));have⟨q,de,ee,di,ej,bT,ae,z,s⟩:=(d.gr 5 rfl).CD (te:=yA) rfl (i:=a.obj.toNat) (iC v.2);have⟨eR,eC,e0,eD,e5,aA,aE,K,Q⟩:=(d.gr 7 rfl).CD (te:=Wz) rfl (i:=u.toNat) (iC eM);have eh:c.fR[a.obj.toNat]'v.2=w:=by rw[aF v.2]at bX;simpa using bX
 simp[eh]at s Q;simp[o,PN ef]at k;have⟨C,B⟩:=d.elem 7 rfl aA K u.toNat (.bool (w.known&&decide (w.value=a.value)));simp[F,I,b7,br,x,l4.get,fZ v.1,ae,z,s,bn,aE,K,Q,eU];exact⟨_,_,_,_,_,_,by rw[k];simpa[qS,aY]using B,l3.step C⟩;have fS:¬a.kind=23:=iC c1;simp;refine fO (λc6=>?_) (λc6=>?_);have o:a.kind=4:=iC c6;have v:=gG.1 (dn (.inr o));have⟨q,de,ee,di,ej,bT,ae,z,s⟩:=(d.gr 4 rfl).CD (te:=yA) rfl (i:=a.obj.toNat) (iC v.2);simp at s;simp[o]at k;have⟨C,B⟩:=d.elem 4 rfl bT z a.obj.toNat (cont dk a.value).t;simp[F,I,br,eI,x,l4.get,eO.get,fZ v.1,ae,z,s];exact⟨_,_,_,_,_,_,by rw[k];simpa[qS,aY]using B,l3.step C⟩;have fX:¬a.kind=4:=iC c6;simp;refine fO (λcL=>?_) (λcL=>?_);have o:a.kind=22:=iC cL;have v:=gG.1 (ds (.inl o));have⟨q,de,ee,di,ej,bT,ae,z,s⟩:=(d.gr 5 rfl).CD (te:=yA) rfl (i:=a.obj.toNat) (iC v.2);simp at s;simp[o]at k;have⟨C,B⟩:=d.elem 5 rfl bT z a.obj.toNat (cont dk a.value).t;simp[F,I,br,eI,x,l4.get,eO.get,fZ v.1,ae,z,s];exact⟨_,_,_,_,_,_,by rw[k];simpa[qS,aY]using B,l3.step C⟩;have fP:¬a.kind=22:=iC cL;have⟨eR,eC,e0,eD,e5,aA,aE,K,Q⟩:=(d.gr 8 rfl).CD (te:=EW) rfl (i:=u.toNat) (iC fA);simp at Q;simp;refine fO (λcb=>?_) (λcb=>?_);have o:a.kind=18:=iC cb;simp[o]at k;simp[eH];refine fO (λc7=>?_) (λc7=>?_);have c9:0<=b9:=iC c7;rw[au c9]at k;have⟨C,B⟩:=d.elem 8 rfl aA K u.toNat (M 1);simp[F,I,b7,x,bn,aE,K,Q,eV];exact⟨_,_,_,_,_,_,by rw[k];simpa[qS,aY]using B,l3.step C⟩;have c9:¬0<=b9:=iC c7;rw[aq c9]at k;simp[F,I];exact⟨_,_,_,_,_,_,k▸d,l3⟩;have fL:¬a.kind=18:=iC cb;simp;refine fO (λcp=>?_) (λcp=>?_);have o:a.kind=19:=iC cp;simp[o]at k;have⟨C,B⟩:=d.elem 8 rfl aA K u.toNat (M b9);simp[F,I,b7,eH,x,bn,aE,K,Q,eV];exact⟨_,_,_,_,_,_,by rw[k];simpa[qS,aY]using B,l3.step C⟩;have fM:¬a.kind=19:=iC cp;simp[fW,fS,fX,fP,fL,fM]at k;simp[F,I];exact⟨_,_,_,_,_,_,k▸d,l3⟩;rintro A h ⟨⟨ver,aN,aX,a7,a8,bi,d,l3⟩,F,I⟩;have x:=d.get;simp[qS,aS,bR]at x;have eN:=l3.get;unfold sw at eN;have bW:=d.uB l3 (eg 9 1 [.agg [sl (L.ig.fT.map fF.t),M L.ig.tx,sl (L.ig.done.map T.bool),sl (L.ig.eY.map fc.t),aN,aX,a7,a8,bi]]);have e7:=(fj l3.get (eg 9 1 [.agg [sl (L.ig.fT.map fF.t),M L.ig.tx,sl (L.ig.done.map T.bool),sl (L.ig.eY.map fc.t),aN,aX,a7,a8,bi]]) 3).trans (au rfl);have gv:=(bW.gr 4 rfl).fz Y;have gw:=(bW.gr 5 rfl).fz Y;have gy:=(bW.gr 6 rfl).fz Y;have gz:=(bW.gr 7 rfl).fz Y;have gB:=(bW.gr 8 rfl).fz Y;simp[F,I,x,eN,fN,e7,gv,gw,gy,gz,gB,d.ok.hp]
def Ym{d:iq}(ht:d.p 28=G xW)(b:fh)(a:fi)(c:fG)(e:sH b a):rl prog cx d 28 [b.t,a.t,c.t]=G (.tuple [(jp b a c).1.t,.bool (jp b a c).2]):=iL ht TF (b,a,c) e
end
end
noncomputable section
open Go Go.TI Tryz
def KC(e:List (aj×iF))(l:List (aj×mM)){i:Type}{h:i->List T->H->Prop}{n:i->List T->H->T->H->Prop}{k:aj}{d:Func}{g:Nat}{j:DL}(s:Ea prog cx k d g j)(m:Nat)
 (r:∀b f a,h b f a->∀o,oz o 0 f->W (kN cx (r7 prog cx ⟨pt e,ht l⟩) m g j (d.body.getD .skip) ⟨o,.nil⟩ (hr a)) (AJ cx g d.results.toList λe p=>OW a (ky e) p (n b f a)))
 (q:∀b c a,h b c a->Nat.ble c.length d.ntmps=true:=by first|(rintro _ _ _ ⟨rfl,_⟩;rfl)|(rintro _ _ _ ⟨⟨rfl,_⟩,_⟩;rfl)):(kW i h n).Ok prog cx k:=
 Wv (tb:=⟨pt e,ht l⟩) ml kl s (λ_ _=>m) (λb c a t=>bp (q b c a t)) r
end
noncomputable section
open Go Go.TI Tryz
attribute [-simp] ain List.map_take List.map_drop List.map_append ik gu fI Bool.not_or Bool.not_and
def wg(b:Nat)(e left:Int)(set f a d:Bool)(c:T):List T:=[ez b,M e,M left,.bool set,.bool f,.bool a,.bool d,c]
structure Mk(L:List Int)(n:Nat)(h:H)(m b:Nat):Prop where
 ok:jk 0 h
 fp:∀c,Fp h m c->c<h.size
 tp:Tp L b h
 ex:∃ver th left set tx at' lp hv,∃hs:List (List Nat),h.get m=G (eg 8 ver [.agg (wg b th left set tx at' lp hv)])/\Gr h hv 1 (hs.map T.str)/\hs.length=n
def Mk.ne{e:List Int}{h:Nat}{g:H}{d b:Nat}(c:Mk e h g d b):d≠b:=λi=>by
 have⟨k,j,f,_⟩:=c.tp;have⟨_,_,_,_,_,_,_,_,_,a,_⟩:=c.ex;rw[i,f]at a;simp at a
def Mk.lt{c:List Int}{f:Nat}{b:H}{a d:Nat}(e:Mk c f b a d):a<b.size:=e.fp a (.inl rfl)
def Mk.fpb{d:List Int}{g:Nat}{b:H}{c a:Nat}(f:Mk d g b c a):Fp b c a:=by have⟨_,_,_,_,_,_,_,_,_,e,_⟩:=f.ex;exact .inr ⟨_,e,_,by simp[iy,T.cells,wg];exact .inl rfl,rfl⟩
def Mk.tape{h:List Int}{m:Nat}{i f:H}{g e:Nat}(d:Mk h m i g e)(a:Sm e i f)(v:Tp h e f):Mk h m f g e/\Step g i f:=by have j:=a.get g d.ne;have⟨z,C,p,_⟩:=d.tp;have⟨y,w,left,set,x,o,u,t,s,q,l,hl⟩:=d.ex;refine⟨⟨a.ok,λc b=>by rw[jY j]at b;rw[a.size];exact d.fp c b,v,y,w,left,set,x,o,u,t,s,j▸q,l.mono λc b=>a.get c λk=>?_,hl⟩,⟨a.ok.hp,a.ok.low,a.size▸ay _⟩,λc _ r=>a.get c λk=>r (k▸d.fpb),λc b=>by rw[jY j]at b;exact .inl b⟩;have⟨A,z,B,D,n,_⟩:=l.box b;rw[k,p]at n;simp at n
structure Tw(L:List Int)(b:Nat)(h h':H):Prop where
 ok:jk 0 h'
 size:h.size<=h'.size
 get:∀c,c<h.size->c≠b->h'.get c=h.get c
 tp:Tp L b h'
def Tw.refl{b:List Int}{c:Nat}{a:H}(d:jk 0 a)(e:Tp b c a):Tw b c a a:=⟨d,ay _,λ_ _ _=>rfl,e⟩
def Tp.lt{c:List Int}{a:Nat}{b:H}(e:Tp c a b):a<b.size:=by obtain⟨_,_,d,_⟩:=e;exact H.fV d
def Tp.eq{b:List Int}{a:Nat}{c d:H}(i:Tp b a c)(f:d.get a=c.get a):Tp b a d:=by obtain⟨j,g,e,h⟩:=i;exact⟨j,g,f▸e,h⟩
theorem Tw.cons{a:List Int}{b:Nat}{c d:H}(w:Tw a b c d)(e:jO):Tw a b c (d.cons e):=
 ⟨w.ok.cons e,uC w.size,λf g h=>by rw[fH,aq (iV w.size)];exact w.get f g h,w.tp.eq (by rw[fH,aq (iV w.tp.lt)])⟩
theorem Tw.put{f:List Int}{d:Nat}{b e:H}(c:Tw f d b e){a:Nat}{x:jO}(g:e.get a=G x)(l:b.size<=a)(k:d<b.size)(y:jO):Tw f d b (fQ e a y):=
 ⟨c.ok.put a y,by rw[iB];exact c.size,λh i j=>by rw[fj g,aq J];exact c.get h i j,c.tp.eq (by rw[fj g,aq J])⟩
def Tw.call{b:List Int}{a:Nat}{f g c:H}(i:Tw b a f g)(d:Sm a g c)(k:Tp b a c):Tw b a f c:=
 ⟨d.ok,d.size▸i.size,λe j h=>(d.get e h).trans (i.get e j h),k⟩
def Tw.cut{j:List Int}{e:Nat}{a d:H}(b:Tw j e (TI.hr a) d)(A:jk 0 a)(v:e<a.size){p q:T}{o:T->H->Prop}(x:∃i,kI d a.size p=G i/\cn i=q)
 (z:Sm e a (DZ a d)->Tp j e (DZ a d)->o q (DZ a d)):OW a p d o:=by
 obtain⟨i,u,rfl⟩:=x;have h:a.size<=d.size:=b.size;refine⟨b.ok.hp,h,λc B w l=>?_,i,u,z ⟨A.cut b.ok.hp h,rfl,λc y=>?_⟩ (b.tp.eq (Hh b.ok.hp h v))⟩;by_cases f:c=e;have⟨r,D,t,_⟩:=b.tp;rw[f,t]at l;cases l;refine .inr λr k=>(GC r ?_).mono (az _);simp[iy,T.cells]at k;rcases k with rfl|rfl<;>simp;exact .inl ((b.get c w f).trans (iZ a c));by_cases f:c<a.size;rw[Hh b.ok.hp h f,b.get c f y,iZ];have m:∀g:H,g.size=a.size->g.get c=none:=λg C=>by
  rcases s:g.get c with _|B;rfl;have:=H.fV s;omega
 rw[m (DZ a d) rfl,m a rfl]
def Mk.tw{g:List Int}{m:Nat}{a i:H}{f h:Nat}(b:Mk g m a f h)(c:Tw g h (TI.hr a) i):Mk g m i f h:=by have l:=(c.get f b.lt b.ne).trans (iZ a f);have⟨x,B,o,_⟩:=b.tp;have⟨w,u,left,set,v,n,s,r,q,p,k,hl⟩:=b.ex;have A:a.size<=i.size:=c.size;refine⟨c.ok,λd e=>by rw[jY l]at e;have:=b.fp d e;omega,c.tp,w,u,left,set,v,n,s,r,q,l▸p,k.mono λd e=>?_,hl⟩;have⟨y,x,z,C,j,_⟩:=k.box e;exact(c.get d (H.fV j) λt=>by rw[t,o]at j;simp at j).trans (iZ a d)
def vZ{g:iq}{l:Nat}{e:List Int}{b:Nat}{d:Int}{f:H}{m:af Oper}{j:aa Tmp}{k:List Oper}{o n:iM}{i:jH}(ht:g.h 139=G (kW C7 x8 vD))(y:Tp e b f)(u:jk 0 f)(q:1<=d)(r:d<=100)(s:okB e)
 (p:∀(a:Nat) c,(a:Int)<d->Tp e b c->Sm b f c->XK (some (M a,c)) cx (r7 prog cx g) l m j k o n i):XK (hl prog cx g 139 [ez b,M d] f) cx (r7 prog cx g) l m j k o n i:=
 jy TT ht ⟨e,b,d⟩ ⟨rfl,y,u,q,r,s⟩ (by
  rintro _ c ⟨a,rfl,z,v,w,x⟩;obtain⟨a,rfl⟩:∃t:Nat,a=t:=⟨a.toNat,J⟩;exact p a c v w x)
def Ow{i:iq}{p:Nat}{f:List Int}{c:Nat}{e:Int}{b:H}{r:af Oper}{k:List (Nat×Nat)}{l:aa Tmp}{q:Op}{n:List Oper}{g:Nat}{o:List (Nat×Nat)}{m:List (Nat×H×H)}{t s:iM}{j:jH}(ht:i.h 139=G (kW C7 x8 vD))(C:Tp f c b)(y:jk 0 b)(v:1<=e)(w:e<=100)(x:okB f)
 (u:∀(a:Nat) d,(a:Int)<e->Tp f c d->Sm c b d->V9 (some (M a,d)) cx (r7 prog cx i) p r k l q n g o m t s b j):V9 (hl prog cx i 139 [ez c,M e] b) cx (r7 prog cx i) p r k l q n g o m t s b j:=
 mZ TT ht ⟨f,c,e⟩ ⟨rfl,C,y,v,w,x⟩ (by
  rintro _ d ⟨a,rfl,D,z,A,B⟩;obtain⟨a,rfl⟩:∃g:Nat,a=g:=⟨a.toNat,J⟩;exact u a d z A B)
def fJ.ft{b:H}{Vq:Nat->Prop}(a:fJ)(d:Nat):FT b Vq (d+2) a.t a.t:= .inr (.inr ⟨_,_,a.qv,.cons (jh ..) (.cons (jh ..) (.cons (lL ..) (.cons (uq _ _ _ λe c=>by obtain⟨f,_,rfl⟩:=List.mem_map.1 c;simp) .nil))),a.qv⟩)
structure YJ where
 (L:List Int) (m b n d:Nat)
def aaK(a:YJ)(c:List T)(e:H):Prop:=c=[ez a.m,M a.d]/\Mk a.L a.n e a.m a.b/\okB a.L/\a.d<=10
def Pn(a:YJ)(h:List T)(f:H)(g:T)(e:H):Prop:=∃c:fJ,g=c.t/\ME c/\c.w<=3^a.d/\Tp a.L a.b e/\Sm a.b f e
def JY{f:List Int}{m e n d:Nat}{b c:H}{z:jO}{a k:Int}{s:List Nat}{v:T}{l:List fJ}{args:List T}(q:jk 0 b)(h:e<b.size)(y:Tw f e (TI.hr b) c)(g:c.get b.size=G z)
 (o:FT (fQ c b.size (eg 4 1 [.agg [M a,M k,.str s,v]])) (λi=>b.size<=i) 11 v (sl (l.map fJ.t))) (j:ME ⟨a,k,s,l⟩) (p:(fJ.mk a k s l).w<=3^d):
 (fQ c b.size (eg 4 1 [.agg [M a,M k,.str s,v]])).get b.size=G (eg 4 1 [.agg [M a,M k,.str s,v]])/\
 OW b (.agg [M a,M k,.str s,v]) (fQ c b.size (eg 4 1 [.agg [M a,M k,.str s,v]])) (Pn ⟨f,m,e,n,d⟩ args b):=
 ⟨(fj g _ _).trans (au rfl),(y.put g (ay _) h _).cut q h (FT.top (ay 11) (λ_ r=>r) (.cons (jh ..) (.cons (jh ..) (.cons (lL ..) (.cons o .nil))))) λu x=>⟨⟨a,k,s,l⟩,(fJ.qv ⟨a,k,s,l⟩).symm,j,p,x,u⟩⟩
abbrev QU(e:Nat):mM:=kW YJ (λa b c=>aaK a b c/\a.d<e) Pn
def UW(k:Nat)(Q:(QU k).Ok prog cx 233):(QU (k+1)).Ok prog cx 233:=by
 refine KC [(142,Nk),(235,QT),(234,QV)] [(139,kW C7 x8 vD),(233,QU k)] (jz 35186519589107 [(10,[(8,13),(9,13),(8,17),(9,17)])] func233) 5 ?_;rintro⟨F,m,z,n,d⟩ _ f ⟨⟨rfl,b,r,ax⟩,aA⟩ c1 i
 dsimp at b r ax aA
 simp at i;have⟨cL,ca,left,set,cb,bA,b9,b6,bZ,I,bN,hl⟩:=b.ex;simp[wg]at I;have aX:=b.lt;have aE:(m=f.size)=False:=dY;have aN:(m=f.size+1)=False:=dY;simp[f233,i,I,aE,aN];have E:=((Tw.refl b.ok.hr (b.tp.eq (iZ f z))).cons (eg 4 0 [.agg [M 0,M 0,.str [],ed]])).cons (eg 1 0 [.str [97],.str [98],.str [120],.str [121],.str [118],.str [120],.str [121]]);refine vZ Y E.tp E.ok J J r λb8 p bW t2 C=>?_;have B:=b.tp.lt;have e:=E.call C t2;have gR:p.get f.size=G (eg 4 0 [.agg [M 0,M 0,.str [],ed]]):=(C.get _ J).trans Y;have gN:p.get (f.size+1)=G (eg 1 0 [.str [97],.str [98],.str [120],.str [121],.str [118],.str [120],.str [121]]):=(C.get _ J).trans Y;have K:=((e.get m aX b.ne).trans (iZ f m)).trans I;clear C E;simp[i];refine fO (λO=>?_) (λO=>?_);simp[i,K];refine vZ Y e.tp e.ok J J r λg q _ t3 h=>?_;have j:=e.call h t3;have gR:=(h.get _ J).trans gR;have fin:=JY (m:=m) (n:=n) (d:=d) (v:=sl []) (l:=[]) (args:=[ez m,M d]) b.ok B j gR (uq _ _ _ Y) (.num g) (by rw[fJ.nN];simp[fJ.JC,fJ.jW];exact Nat.pow_pos J);simp[Yo,gR,fin.1];exact fin.2;simp;refine fO (λL=>?_) (λL=>?_);simp[i,K];refine vZ Y e.tp e.ok J J r λg q W t3 h=>?_;have j:=e.call h t3;have gR:=(h.get _ J).trans gR;have gN:=(h.get _ J).trans gN;have o:∃s:List Nat,([.str [97],.str [98],.str [120],.str [121],.str [118],.str [120],.str [121]]:List T)[g]? =G (.str s):=by
  rcases(by omega:g=0\/g=1\/g=2\/g=3\/g=4\/g=5\/g=6)with rfl|rfl|rfl|rfl|rfl|rfl|rfl<;>exact⟨_,rfl⟩
 obtain⟨s,o⟩:=o;generalize([.str [97],.str [98],.str [120],.str [121],.str [118],.str [120],.str [121]]:List T)=an at gN o;have fin:=JY (m:=m) (n:=n) (d:=d) (v:=sl []) (l:=[]) (args:=[ez m,M d]) b.ok B j gR (uq _ _ _ Y) (.nm s) (by rw[fJ.nN];simp[fJ.JC,fJ.jW];exact Nat.pow_pos J);have W:g<7:=J;simp[gN,W,o,Yp,gR,fin.1];exact fin.2;simp;refine fO (λN=>?_) (λN=>?_);simp[i];simp at L O N;refine jy Q Y ⟨F,m,z,n,0⟩ ⟨⟨rfl,b.tw e,r,Y⟩,dZ⟩ ?_;rintro _ q ⟨c,rfl,ap,a8,t3,h⟩
 dsimp at a8 t3 h
 have j:=e.call h t3;have gR:=(h.get _ J).trans gR;have bX:=H.fV gR;have P:(f.size=q.size)=False:=dY;have A:(q.cons (eg 4 0 [c.t])).get f.size=_:=(by rw[fH,aq J]:(q.cons (eg 4 0 [c.t])).get f.size=q.get f.size).trans gR;have fin:=JY (m:=m) (n:=n) (d:=d) (a:=3) (k:=0) (s:=[113]) (v:= .arr q.size 0 0 1 false) (l:=[c]) (args:=[ez m,M d]) b.ok B (j.cons (eg 4 0 [c.t])) A
  (.inr (.inl ⟨q.size,0,0,1,false,[c.t],[c.t],rfl,J,by rw[iW,fj A,aq J,fH,au rfl];simp,.cons (c.ft 8) .nil,rfl⟩)) (.ix ap) (by
    have:3^1<=3^d:=dR J J;rw[fJ.nN];simp[fJ.JC,fJ.ly,fJ.jW];omega)
 simp[gR,P,fin.1];exact fin.2;simp at L O N;obtain⟨d,rfl⟩:∃c,d=c+1:=⟨d-1,J⟩;have P:(m=p.size)=False:=by have:=e.size;simp at this;simp;omega
 have al:IntKind.i64.wrap d=(d:Int):=by rw[<-kZ];exact lA J J
 simp[i,P,K];have j:=e.cons (eg 1 0 [M 6,M 7,M 8,M 11,M 13,M 17]);refine Ow Y j.tp j.ok J J r λu w X t4 D=>?_;have Z:=j.call D t4;have b7:p.size+1=w.size:=by rw[D.size];simp
 have bT:=e.tp.lt;have gO:w.get p.size=G (eg 1 0 [M 6,M 7,M 8,M 11,M 13,M 17]):=(D.get _ J).trans Y;have A:w.get f.size=_:=((D.get _ J).trans (by rw[fH,aq (iV (H.fV gR))])).trans gR;have o:∃s:Int,([M 6,M 7,M 8,M 11,M 13,M 17]:List T)[u]? =G (M s)/\6<=s:=by
  rcases(by omega:u=0\/u=1\/u=2\/u=3\/u=4\/u=5)with rfl|rfl|rfl|rfl|rfl|rfl<;>exact⟨_,rfl,J⟩
 obtain⟨s,o,a7⟩:=o;generalize([M 6,M 7,M 8,M 11,M 13,M 17]:List T)=an at*
 have X:u<6:=J;simp[i,gO,o,X,we,al];refine mZ Q Y ⟨F,m,z,n,d⟩ ⟨⟨rfl,b.tw Z,r,dZ⟩,dZ⟩ ?_;rintro _ U ⟨c,rfl,ar,bi,t5,x⟩
 dsimp at bi t5 x
 have ae:=Z.call x t5;have ao:=(x.get _ J).trans A;have br:il w U p.size:=iw (x.get _ J);simp[i,we,al,br];refine mZ Q Y ⟨F,m,z,n,d⟩ ⟨⟨rfl,b.tw ae,r,dZ⟩,dZ⟩ ?_;rintro _ V ⟨R,rfl,av,bn,t6,y⟩
 dsimp at bn t6 y
 have bu:=ae.call y t6;have S:=(y.get _ J).trans ao;have bs:il U V p.size:=iw (y.get _ J);have cp:il w V p.size:=iw ((y.get _ J).trans (x.get _ J));have fin:=JY (m:=m) (n:=n) (d:=d+1) (a:=s) (k:=0) (s:=[]) (v:=sl [c.t,R.t]) (l:=[c,R]) (args:=[ez m,M (d+1:Nat)]) b.ok B bu S (uq _ _ _ Y) (.bin a7 ar av) (by
  have:=Nat.pow_pos (n:=d) (show 0<3 by omega);rw[fJ.nN,Nat.pow_succ];simp[fJ.JC,fJ.ly,fJ.jW];omega)
 simp[ach,bs,S,fin.1];exact fin.2
def Ls(a:Nat):(QU a).Ok prog cx 233:=AH (λb:YJ=>b.d) UW a
def Nw(d c:Nat)(b:H)(e:Nat)(f:T)(a:Nat):Prop:=d<=a/\a<c/\¬Fp b e a/\fD f≠some a
def Px(a:Nat):fD .mn≠some a:=by show(none:aa Nat)≠some a;simp
def SV(f e:Nat)(b:H)(g h:Nat)(c:T)(i:List fk):Prop:=∃d,Gr b c 11 d/\jw (FT b (Nw f e b g c) (h+2)) d (i.map fk.t)/\∀a,fD c=G a->f<=a/\a<e/\¬Fp b g a
theorem SV.nil(d c:Nat)(b:H)(e a:Nat):SV d c b e a ed []:=⟨[],Gr.nil _ _,.nil,Y⟩
def SV.same{i h m k:Nat}{f g:H}{d j:Nat}{n:T}{l:List fk}(r:SV i h f d j n l)(v:m<=i)(w:h<=k)(c:∀a,i<=a->a<h->¬Fp f d a->g.get a=f.get a/\¬Fp g d a):SV m k g d j n l:=by obtain⟨p,q,o,e⟩:=r;refine⟨p,q.mono λa b=>(c a (e a b).1 (e a b).2.1 (e a b).2.2).1,o.ft λa b=>⟨⟨iV b.1,iV b.2.1,(c a b.1 b.2.1 b.2.2.1).2,b.2.2.2⟩,(c a b.1 b.2.1 b.2.2.1).1⟩,λa b=>?_⟩;have⟨s,t,u⟩:=e a b;exact⟨J,J,(c a s t u).2⟩
def SV.step{i b:Nat}{a f:H}{c e:Nat}{l:T}{h:List fk}(m:SV i b a c e l h)(k:Step c a f)(o:b<=a.size):SV i b f c e l h:=
 m.same (ay _) (ay _) λd _ n g=>⟨k.get d J g,λj=>(k.fp d j).elim g λj=>by omega⟩
def SV.wide{f c g d:Nat}{b:H}{h a:Nat}{i:T}{e:List fk}(l:SV f c b h a i e)(j:g<=f)(k:c<=d):SV g d b h a i e:=l.same j k λ_ _ _ m=>⟨rfl,m⟩
def SV.box{e d:Nat}{i:H}{l h:Nat}{g:T}{k:List fk}(c:SV e d i l h g k){a:Nat}(j:e<=a/\a<d->False):fD g≠some a:=λf=>by
 obtain⟨_,_,_,c⟩:=c;exact j ⟨(c a f).1,(c a f).2.1⟩
def SV.uB{f e:Nat}{b:H}{c g:Nat}{i:T}{h:List fk}(l:SV f e b c g i h){a:Nat}{m:jO}(d:Lb c b a m)(q:a<f\/e<=a)(j:jO):SV f e (fQ b a j) c g i h:=
 l.same (ay _) (ay _) λn o p k=>⟨by rw[fj d.get,aq J],by rw[jY (show(fQ b a j).get c=b.get c by rw[fj d.get,aq (bH d.ne)])];exact k⟩
def SV.ft{i h:Nat}{e:H}{j d:Nat}{k:T}{a:List fk}(p:SV i h e j d k a):FT e (Nw i h e j .mn) (d+3) k (sl (a.map fk.t)):=by obtain⟨n,g,b,q⟩:=p;have o:=g.kd;rcases g with⟨rfl,rfl⟩|⟨c,m,y,v,A,rfl,w,x⟩;rcases hl:a.map fk.t with _|⟨z,a⟩;exact kj _ _ _ _;rw[hl]at b;cases b;have⟨r,s,u⟩:=q c rfl;exact .inr (.inl ⟨c,m,0,_,false,n,_,rfl,⟨r,s,u,Px c⟩,o,b.ft λl f=>⟨⟨f.1,f.2.1,f.2.2.1,Px l⟩,rfl⟩,rfl⟩)
def fk.ft{c:H}{Vq:Nat->Prop}(b:fk)(d:Nat):FT c Vq (d+2) b.t b.t:=by
 have f:∀a:List fJ,FT c Vq (d+1) (sl (a.map fJ.t)) (sl (a.map fJ.t)):=λa=>uq _ _ _ λh e=>by obtain⟨i,_,rfl⟩:=List.mem_map.1 e;simp
 have g:∀a:List fk,FT c Vq (d+1) (sl (a.map fk.t)) (sl (a.map fk.t)):=λa=>uq _ _ _ λh e=>by obtain⟨i,_,rfl⟩:=List.mem_map.1 e;simp
 exact .inr (.inr ⟨_,_,b.qv,.cons (jh ..) (.cons (jh ..) (.cons (lL ..) (.cons (lL ..) (.cons (f _) (.cons (jh ..) (.cons (jh ..) (.cons (lL ..) (.cons (f _) (.cons (g _) (.cons (g _) .nil)))))))))),b.qv⟩)
def Mk.same{i:List Int}{m:Nat}{b c:H}{f g:Nat}(e:Mk i m b f g)(r:jk 0 c)(v:b.size<=c.size)(h:∀a,Fp b f a->c.get a=b.get a):Mk i m c f g:=by have k:=h f (.inl rfl);have⟨u,s,left,set,t,n,q,l,p,j,o,hl⟩:=e.ex;refine⟨r,λa d=>by rw[jY k]at d;have:=e.fp a d;omega,e.tp.eq (h g e.fpb),u,s,left,set,t,n,q,l,p,k▸j,o.mono λa d=>h a (.inr ⟨_,j,l,by simp[iy,T.cells,wg],d⟩),hl⟩
theorem Mk.cons{b:List Int}{f:Nat}{d:H}{e c:Nat}(a:Mk b f d e c)(g:jO):Mk b f (d.cons g) e c:=a.same (a.ok.cons g) Y λh i=>by rw[fH,aq (iV (a.fp h i))]
def Mk.uB{d:List Int}{h:Nat}{b:H}{c e:Nat}(f:Mk d h b c e){a:Nat}{l:jO}(g:Lb c b a l)(i:jO):Mk d h (fQ b a i) c e:=f.same (f.ok.put a i) (by rw[iB];exact ay _) λm j=>by rw[fj g.get,aq (λk=>g.nf (by rw[<-k];exact j))]
def Mk.hr{b:List Int}{f:Nat}{a:H}{e c:Nat}(d:Mk b f a e c):Mk b f (TI.hr a) e c:=d.same d.ok.hr (ay _) λg _=>iZ a g
def Mk.out{b:List Int}{e:Nat}{h a:H}{m c:Nat}(d:Mk b e a m c):Mk b e (mV h a) m c:=d.same (d.ok.out h) (ay _) λf _=>iJ h a f
def SV.out{e c:Nat}{h a:H}{m b:Nat}{f:T}{d:List fk}(j:SV e c a m b f d):SV e c (mV h a) m b f d:=
 j.same (ay _) (ay _) λg _ _ i=>⟨iJ h a g,by rw[jY (iJ h a m)];exact i⟩
def Mk.set{j:List Int}{h:Nat}{c:H}{d b f:Nat}{s left th' left':Int}{r t l n se' tx' at2 lp':Bool}{a:T}{g:List (List Nat)}(e:Mk j h c d b)(k:c.get d=G (eg 8 f [.agg (wg b s left r t l n a)]))(m:Gr c a 1 (g.map T.str))(hl:g.length=h):
 Step d c (fQ c d (eg 8 (f+1) [.agg (wg b th' left' se' tx' at2 lp' a)]))/\Mk j h (fQ c d (eg 8 (f+1) [.agg (wg b th' left' se' tx' at2 lp' a)])) d b:=by
 obtain⟨i,o,p,q⟩:=Jz e.ok e.fp k (cells':=wg b th' left' se' tx' at2 lp' a) (λu a=>by
  simp[wg,cg,cF,cG]at a;rcases a with rfl|rfl|rfl|rfl|rfl|rfl|rfl|rfl<;>first|exact .inr (.inl rfl)|exact .inl (by simp[wg])) _ rfl
 exact⟨i,⟨i.ok.hp,i.ok.low,az _⟩,o,e.tp.eq (by rw[fj k,aq (bH e.ne)]),f+1,th',left',se',tx',at2,lp',a,g,p,q _ _ _ m d6,hl⟩
def SV.app{C:List Int}{n h q:Nat}{b:H}{d E v:Nat}{u x:T}{xs:List T}{A l2:List fk}(k:SV h q b d v u A)(l:Mk C n b d E)(ap:h<=b.size)(ao:q<=b.size)(al:b.kd x=G xs)(L:jw (FT b (Nw h q b d u) (v+2)) xs (l2.map fk.t))(V:∀i∈xs,i.cells.length=11)(Z:xs≠ [])(ar:A.length+l2.length<=1000000):
 ∃B f,jE cx b 176 176 u x=be B f/\SV h f.size f d v B (A++l2)/\Mk C n f d E/\(∀o,Step d o b->o.size<=h->Step d o f)/\∀e,e<h->f.get e=b.get e:=by
 obtain⟨w,R,D,r⟩:=k;have l1:=iC D.length;have l3:xs.length=l2.length:=iC L.length;obtain⟨B,f,i,e,I,an,Q,rfl,N,g,j,m⟩:=R.app (cx:=cx) l.ok CT rfl CR CT rfl rfl Y al V Z dY;have y:¬Fp b d e:=λK=>g.elim (λg=>(r e g).2.2 K) λg=>iV (l.fp e K);have ae:=m.sz;have X:h<=e:=g.elim (λg=>(r e g).1) λg=>by omega
 have W:=H.fV N;have z:f.get d=b.get d:=j d (λr=>y (r▸ .inl rfl)) l.lt;have P:∀a,Nw h q b d u a->Nw h f.size f d (.arr e I 0 (w++xs).length false) a/\f.get a=b.get a:=λa c=>by
  have O:a≠e:=λi=>g.elim (λg=>c.2.2.2 (i▸g)) λg=>iV c.2.1;exact⟨⟨c.1,by have:=c.2.1;omega,by rw[jY z];exact c.2.2.1,by simp;exact bH O⟩,j a O (by have:=c.2.1;omega)⟩
 refine⟨_,f,i,⟨w++xs,.inr ⟨e,I,an,Q,w++xs,rfl,N,aI⟩,?_,λa F=>?_⟩,l.same ⟨m.hp,m.low,az _⟩ ae λa c=>j a (λi=>y (i▸c)) (l.fp a c),λo s hl=>⟨⟨m.hp,m.low,iV s.ok.sz⟩,λa S U=>?_,λa c=>by rw[jY z]at c;exact s.fp a c⟩,λa c=>j a J J⟩;rw[List.map_append];exact(D.ft P).append (L.ft P);simp at F;subst F;exact⟨X,W,by rw[jY z];exact y⟩;exact(j a J (iV s.ok.sz)).trans (s.get a S U)
def wd(a:Nat):Nat:=100*10^a
def OZ(a:Nat):wd (a+1)=10*wd a:=by unfold wd;rw[Nat.pow_succ];omega
def Fk(a:Nat):100<=wd a:=by
 induction a with
 |zero=>decide
 |succ a b=>rw[OZ];omega
structure Wr where
 (L:List Int) (m b n d cnt:Nat)
def okM(a:Wr)(c:H):Prop:=Mk a.L a.n c a.m a.b/\okB a.L/\a.d<=2/\a.n+a.d<=10/\a.cnt<=3
def Tm(a:Wr)(i:List T)(f:H)(h:T)(c:H):Prop:=∃e,SV f.size c.size c a.m (2*a.d+2) h e/\(∀g∈e,MS g/\g.w<=wd a.d)/\e.length<=a.cnt/\Mk a.L a.n c a.m a.b/\Step a.m f c
def Js(a:Wr)(i:List T)(g:H)(h:T)(c:H):Prop:=∃f e,h= .agg f/\f.length=11/\FT c (Nw g.size c.size c a.m .mn) (2*a.d+4) h e.t/\MS e/\e.w<=wd a.d/\Mk a.L a.n c a.m a.b/\Step a.m g c
abbrev rMs(e:Nat):mM:=kW Wr (λa b c=>(b=[ez a.m,M a.d,M a.cnt]/\okM a c)/\a.d<e) Tm
abbrev rMt(e:Nat):mM:=kW Wr (λa b c=>(b=[ez a.m,M a.d]/\okM a c)/\a.d<e) Js
def afl(k:Nat)(W:(rMt k).Ok prog cx 184):(rMs k).Ok prog cx 140:=by
 refine jP [] [(184,rMt k)] (jz 4194759 [] func140) 10 ?_;rintro⟨v,d,y,O,l,z⟩ _ q ⟨⟨rfl,r,B,F,K,a⟩,I⟩ f D
 dsimp at r B F K a I
 simp at D;simp[f140];refine u5 z (λh f m=>∃p i,SV q.size m.size m d (2*l+2) p i/\(∀j∈i,MS j/\j.w<=wd l)/\i.length=h/\Mk v O m d y/\Step d (hr q) m/\jg f 0 d/\iS f 1 l/\iS f 2 z/\ka f 7 p/\iS f 8 h) ?_ J (k:=0) J ⟨ed,[],SV.nil _ _ _ _ _,Y,rfl,r.hr,Step.refl r.ok.hr,by simp[D]⟩;rintro h f m ax ⟨p,i,sv,hl,aA,s,u,n⟩;have⟨bi,a7,left,set,a8,ao,aX,aN,aE,A,ap,av⟩:=s.ex;simp[wg]at A;simp[n,A];refine fO (λH=>?_) (λH=>?_);simp at H;simp[n];refine jy W Y ⟨v,d,y,O,l,0⟩ ⟨⟨rfl,s,B,F,K,Y⟩,I⟩ ?_;rintro _ c ⟨b,j,rfl,E,ft,S,L,e,o⟩
 dsimp at ft L e o
 have V:=u.ok.sz;have N:=o.ok.sz;simp at V;have ae:=((sv.step o (ay _)).step (Step.cons e.ok e.lt (eg 11 0 [.agg b])) N).wide (ay _) N;have C:∀g,g<c.size->(c.cons (eg 11 0 [.agg b])).get g=c.get g:=λg a=>by rw[fH,aq J]
 have R:FT (c.cons (eg 11 0 [.agg b])) (Nw q.size c.size (c.cons (eg 11 0 [.agg b])) d p) (2*l+4) (.agg b) j.t:=ft.mono λg a=>⟨⟨by have:=a.1;omega,a.2.1,by rw[jY (C d e.lt)];exact a.2.2.1,sv.box λP=>by have:=a.1;omega⟩,C g a.2.1⟩;have⟨an,ar,Q,al,X,Z,_⟩:=ae.app (e.cons (eg 11 0 [.agg b])) (x:= .arr c.size 0 0 1 false) (xs:=[.agg b]) (l2:=[j]) dY Y d4 (.cons R .nil) (by simp[T.cells,E]) Y dY;simp[n,Q,E,jr (show-9223372036854775808<=(h:Int)+1 by omega) (show(h:Int)+1<9223372036854775808 by omega)];exact⟨h+1,J,J,an,i++[j],al,λx U=>(List.mem_append.1 U).elim (hl x) λP=>List.mem_singleton.1 P▸⟨S,L⟩,dY,X,Z _ ((u.trans o).trans (Step.cons e.ok e.lt _)) Y,Y⟩;simp[n];exact⟨i,sv.out,hl,dZ,s.out,u.out⟩
def Mk.held{s:List Int}{q:Nat}{c h:H}{a b f:Nat}{m left:Int}{l n g k:Bool}{p o:T}{j:List (List Nat)}{w:List Nat}(d:Mk s q c a b)(t:c.get a=G (eg 8 f [.agg (wg b m left l n g k p)]))(v:Gr c p 1 (j.map T.str))(hl:j.length=q)(x:Xt c p 1 ((j++[w]).map T.str) o h):
 h.get a=c.get a/\Step a c (fQ h a (eg 8 (f+1) [.agg (wg b m left l n g k o)]))/\Mk s (q+1) (fQ h a (eg 8 (f+1) [.agg (wg b m left l n g k o)])) a b:=by
 have⟨e,C⟩:=Ar (i:=7) d.ok d.fp t (by simp[wg]) d6 v x;have⟨r,y,A,_⟩:=C _ rfl;have u:=e.trans t;have⟨I,F,z,_⟩:=d.tp;refine⟨e,r,⟨r.ok.hp,r.ok.low,az _⟩,y,d.tp.eq ?_,f+1,m,left,l,n,g,k,o,j++[w],(fj u _ a).trans (au rfl),A,dY⟩;rw[fj u,aq (bH d.ne)];refine x.2.1 b d.tp.lt λB=>?_;have⟨D,f,E,K,e,_⟩:=v.box B;rw[z]at e;simp at e
def Mk.drop{p:List Int}{g:Nat}{b:H}{c a l:Nat}{i left:Int}{h j e f:Bool}{n d:T}{m:List (List Nat)}(k:Mk p (g+1) b c a)(q:b.get c=G (eg 8 l [.agg (wg a i left h j e f n)]))(hl:m.length=g+1)(r:Gr b d 1 ((m.map T.str).take g))(s:fD d=fD n):
 Step c b (fQ b c (eg 8 (l+1) [.agg (wg a i left h j e f d)]))/\Mk p g (fQ b c (eg 8 (l+1) [.agg (wg a i left h j e f d)])) c a:=by
 obtain⟨o,t,u,v⟩:=Jz k.ok k.fp q (cells':=wg a i left h j e f d) (λw hm=>by
  simp[wg,cg,cF,cG]at hm;rcases hm with rfl|rfl|rfl|rfl|rfl|rfl|rfl|hm
  exact .inl (by simp[wg])
  iterate 6 exact .inr (.inl rfl)
  exact .inr (.inr ⟨n,by simp[wg],hm▸s⟩)) _ rfl
 exact⟨o,⟨o.ok.hp,o.ok.low,az _⟩,t,k.tp.eq (by rw[fj q,aq (bH k.ne)]),l+1,i,left,h,j,e,f,d,m.take g,u,List.map_take▸v _ _ _ r d6,by rw[List.length_take];omega⟩
structure IBk where
 (L:List Int) (m b n d:Nat) (s:List Nat)
def aeO(a:IBk)(c:List T)(e:H):Prop:=c=[ez a.m,.str a.s,M a.d]/\Mk a.L a.n e a.m a.b/\okB a.L/\a.d<=2/\a.n+a.d<=9
abbrev rBk(g:Nat):mM:=kW IBk (λa c e=>aeO a c e/\a.d<g) (λa c e h f=>Tm ⟨a.L,a.m,a.b,a.n,a.d,2⟩ c e h f)
def agt(k:Nat)(X:(rMs k).Ok prog cx 140):(rBk k).Ok prog cx 237:=by
 refine jP [] [(139,kW C7 x8 vD),(140,rMs k)] (jz 199 [] func237) 10 ?_;rintro⟨L,c,N,n,O,s⟩ _ i ⟨⟨rfl,m,j,u,V⟩,w⟩ a7 T
 dsimp at m j u V w
 simp at T;have e:=m.hr;have⟨I,F,left,set,H,q,A,z,y,a,b,hl⟩:=e.ex;have⟨ao,R,r,g⟩:=b.oy (cx:=cx) e.ok uH rfl xO rfl Y Y s dY;have⟨C,p,d⟩:=e.held a b hl g;have t:=C.trans a;simp[wg]at a t p d;have P:i.get c=_:=(iZ i c).symm.trans a;have aX:(c=i.size)=False:=uC m.lt;rw[uX]at r;simp[*,f237,fN,g.1.je,g.1.cells];generalize fQ R c _=ax at*
 clear a P t C g r b e;have⟨I,F,left,set,H,q,A,z,y,a,b,hl⟩:=d.ex;simp[wg]at a;simp[*];refine vZ Y d.tp d.ok J J j λl aA aE t2 al=>?_;have⟨ae,D⟩:=d.tape al t2;have ap:binop .add (M 1) (M l)=G (M ((1+l:Nat):Int)):=by rw[jr J J];simp
 simp[*];refine jy X Y ⟨L,c,N,n+1,O,1+l⟩ ⟨⟨Y,ae,j,u,dZ,dZ⟩,w⟩ ?_;rintro v S ⟨Z,sv,x,W,o,E⟩
 dsimp at sv x W o E
 have⟨I,F,left,set,H,q,A,z,y,a,b,hl⟩:=o.ex;have Q:=a;simp[wg]at a;have aN:=b.len (cx:=cx) S WB _ rfl;have⟨ao,av,h,U⟩:=b.cut (cx:=cx) (ty:=WB) rfl xO rfl (n:=n) dY dY;have⟨f,B⟩:=o.drop Q hl h U;have ar:binop .sub (M ((n:Int)+1)) (M 1)=G (M n):=by
  rw[we,<-kZ,lA J J];simp
 simp[wg]at f B;simp[*,fN,h.je,h.cells];have an:=((p.trans D).trans E).trans f;have K:=(p.trans D).ok.sz;simp at K;exact⟨Z,((sv.step f (ay _)).wide K (by have:=f.ok.sz;simp)).out,x,dZ,B.out,an.out⟩
def Ds:mM:=⟨λe a=>∃d c b f i,e=[ez b,.str i]/\Mk d c a b f/\c<=100,λ_ a h g=>g=a/\MR h⟩
def Xg:Ds.Ok prog cx 236:=by refine MY (tb:=⟨pt [(130,FU)],ht []⟩) ml kl (jz 19 [] func236) false (λ_ _=>5) (λo a i=>by obtain⟨e,m,l,f,n,rfl,_⟩:=i;simp[f236]) ?_;rintro _ a ⟨e,m,l,f,n,rfl,d,q⟩ w c;simp at c;have⟨v,t,left,set,u,p,s,r,j,b,h,hl⟩:=d.ex;simp[wg]at b;have k:=(h.mono (h':=hr a) λg _=>iZ a g).qZ Y;simp[f236,c,b,k,Sk,show j.length<=1099511627776 by omega];exact ug a _ _ d.ok.hp (Fr.refl _ _) rfl ⟨rfl,Y⟩
def ajy{d:H}{b:Nat->Prop}(h:fk)(c:Nat):jw (FT d b (c+1)) h.cs h.cs:=by
 have f:∀a:List fJ,FT d b (c+1) (sl (a.map fJ.t)) (sl (a.map fJ.t)):=λa=>uq _ _ _ λi e=>by obtain⟨j,_,rfl⟩:=List.mem_map.1 e;simp
 have g:∀a:List fk,FT d b (c+1) (sl (a.map fk.t)) (sl (a.map fk.t)):=λa=>uq _ _ _ λi e=>by obtain⟨j,_,rfl⟩:=List.mem_map.1 e;simp
 exact .cons (jh ..) (.cons (jh ..) (.cons (lL ..) (.cons (lL ..) (.cons (f _) (.cons (jh ..) (.cons (jh ..) (.cons (lL ..) (.cons (f _) (.cons (g _) (.cons (g _) .nil))))))))))
def LF{i:Wr}{args:List T}{a c:H}{r:jO}{cs:List T}{s:fk}(e:Lb i.m c a.size r)(g:Mk i.L i.n c i.m i.b)(p:Step i.m (TI.hr a) c)(hl:cs.length=11)(j:jw (FT c (Nw (a.size+1) c.size c i.m .mn) (2*i.d+3)) cs s.cs)(k:MS s)(o:s.w<=wd i.d):
 (fQ c a.size (eg 11 1 [.agg cs])).get a.size=G (eg 11 1 [.agg cs])/\Js i args a (.agg cs) (mV a (fQ c a.size (eg 11 1 [.agg cs]))):=by
 have l:(fQ c a.size (eg 11 1 [.agg cs])).get i.m=c.get i.m:=by rw[fj e.get,aq (bH e.ne)]
 have q:=Step.uB g.ok e (eg 11 1 [.agg cs]) _ p (ay _);refine⟨(fj e.get _ _).trans (au rfl),cs,s,rfl,hl,?_,k,o,(g.uB e _).out,q.out⟩;refine .inr (.inr ⟨cs,s.cs,rfl,j.ft λh f=>⟨⟨iV f.1,uC f.2.1,?_,Px h⟩,?_⟩,s.qv⟩);rw[jY (iJ a _ i.m),jY l];exact f.2.2.1;rw[iJ,fj e.get,aq (iV f.1)]
def HH(c:List Nat)(b:List fJ)(a:fJ):fk:=⟨1,0,c,[],b,a,[],[]⟩
def Hx{d:List Nat}{b:List fJ}{c:fJ}(g:∀i∈b,ME i)(f:ME c)(h:b≠ []->d=[113]):MS (HH d b c):=
 .mk (λa=>by unfold HH at a;simp at a) (λ_ a=>h a) g (λ_=>f) (λe a=>by unfold HH at a;simp at a) (λe a=>by unfold HH at a;simp at a)
def Qn{nm:List Nat}{ix:List fJ}{e:fJ}{d:Nat}(a:fJ.ws ix<=20)(b:e.w<=20):(HH nm ix e).w<=wd d:=by have:=Fk d;rw[fk.nN];unfold HH;simp[fk.vP,fk.Oh,fk.yr,fk.BJ,fk.jW];omega
abbrev agO(f:Wr)(e:List T)(b d:H)(c:List Nat)(a:fJ):Prop:=
 (fQ d b.size (eg 11 1 [.agg [M 1,M 0,.str c,.str [],sl [],M a.op,M a.n,.str a.name,sl (a.l.map fJ.t),sl [],sl []]])).get b.size=G (eg 11 1 [.agg [M 1,M 0,.str c,.str [],sl [],M a.op,M a.n,.str a.name,sl (a.l.map fJ.t),sl [],sl []]])/\
 Js f e b (.agg [M 1,M 0,.str c,.str [],sl [],M a.op,M a.n,.str a.name,sl (a.l.map fJ.t),sl [],sl []]) (mV b (fQ d b.size (eg 11 1 [.agg [M 1,M 0,.str c,.str [],sl [],M a.op,M a.n,.str a.name,sl (a.l.map fJ.t),sl [],sl []]])))
def OK{i:Wr}{args:List T}{c d:H}{k:jO}{nm:List Nat}{a:fJ}(g:Lb i.m d c.size k)(h:Mk i.L i.n d i.m i.b)(j:Step i.m (TI.hr c) d)(e:ME a)(f:a.w<=20):agO i args c d nm a:=
 LF (s:=HH nm [] a) g h j rfl (ajy (HH nm [] a) _) (Hx Y e (λc=>absurd rfl c)) (Qn (by rw[fJ.jW];omega) f)
def Od(a:Wr){f:iq}{s:af Oper}{k:aa Tmp}{l:List Oper}{x w:iM}{i:jH}{p:Nat}{d e:H}{y:jO}(ht:f.h 233=G (QU 11))(q:Mk a.L a.n e a.m a.b)(z:okB a.L)(o:Lb a.m e d.size y)(E:Step a.m (TI.hr d) e)
 (C:∀c hE,hE.get d.size=G y->(∀j r,agO a j d hE r c)->XK (some (fJ.t c,hE)) cx (r7 prog cx f) p s k l x w i):XK (hl prog cx f 233 [ez a.m,M 1] e) cx (r7 prog cx f) p s k l x w i:=by
 refine jy (Ls 11) ht ⟨a.L,a.m,a.b,a.n,1⟩ ⟨⟨rfl,q,z,Y⟩,Y⟩ ?_;rintro _ hE ⟨c,rfl,A,B,v,u⟩
 dsimp at B v u
 have⟨D,g⟩:=q.tape u v;exact C c hE (o.step g).get λj r=>OK (o.step g) D (E.trans g) A J 
theorem _root_.Go.TI.Lb.put{d:Nat}{c:H}{a b:Nat}{x y:jO}(f:Lb d c a x)(l2:Lb d c b y)(e:a≠b)(g:jO):Lb d (fQ c b g) a x:=f.mO (by rw[fj l2.get,aq (bH l2.ne)]) (by rw[fj l2.get,aq e])
def Zl{n:List Int}{q:Nat}{k b:H}{c o a:Nat}{w:jO}(p:Mk n q b c o)(e:Lb c b a w)(v:Step c (TI.hr k) b)(r:k.size<=a)(d:jO):
 Mk n q (fQ b a d) c o/\Lb c (fQ b a d) a d/\Step c (TI.hr k) (fQ b a d)/\(∀g m,g≠a->Lb c b g m->Lb c (fQ b a d) g m)/\∀i h j l f,SV i h b c j l f->a<i\/h<=a->SV i h (fQ b a d) c j l f:=
 ⟨p.uB e d,⟨(fj e.get d a).trans (au rfl),by rw[jY (show(fQ b a d).get c=b.get c by rw[fj e.get,aq (bH e.ne)])];exact e.nf⟩,Step.uB p.ok e d _ v r,λg m s f=>f.put e s d,λi h j l f t u=>t.uB e u d⟩
theorem oO{o:List Int}{q:Nat}{m a:H}{b p:Nat}(g:Mk o q a b p)(s:Step b (TI.hr m) a)(c e:jO):
 Mk o q (fQ (a.cons c) a.size e) b p/\Lb b (fQ (a.cons c) a.size e) a.size e/\Step b (TI.hr m) (fQ (a.cons c) a.size e)/\(∀h l,Lb b a h l->Lb b (fQ (a.cons c) a.size e) h l)/\∀j f i k d,SV j f a b i k d->f<=a.size->SV j f (fQ (a.cons c) a.size e) b i k d:=by
 have n:=Step.cons g.ok g.lt c;have v:=Lb.new g.lt g.fp c;have t:m.size<=a.size:=iC s.ok.sz;have⟨w,x,y,z,A⟩:=Zl (g.cons c) v (s.trans n) t e;exact⟨w,x,y,λh l d=>z h l (iV d.lt) (d.step n),λj f i k d u r=>A j f i k d (u.step n r) (.inr r)⟩
def SV.gc{h e:Nat}{d:H}{i c:Nat}{a:T}{g:List fk}(f:SV h e d i c a g):a.je/\a.cells=[a]:=by obtain⟨j,b,_⟩:=f;exact⟨b.je,b.cells⟩
def SV.cell{g e c d:Nat}{b:H}{h a:Nat}{i:T}{f:List fk}(l:SV g e b h (2*a+2) i f)(j:c<=g)(k:e<=d):FT b (Nw c d b h .mn) (2*(a+1)+3) i (sl (f.map fk.t)):=by have:=(l.wide j k).ft;rw[show 2*(a+1)+3=2*a+2+3 by omega];exact this
def BX{a:List fk}{W:Nat}(c:∀b∈a,MS b/\b.w<=W):fk.ws a<=a.length*W:=by
 induction a with
 |nil=>rw[fk.jW];omega
 |cons f a e=>
  have g:=e λb d=>c b (dw _ d);have h:=(c f Y).2;rw[fk.ly,aU,cD];omega
def uZ{k:List Int}{c m o d cnt:Nat}{args:List T}{a b:H}{p:jO}{op:Int}{nm:List Nat}{e:fJ}{f g h:T}{j le:List fk}(z:Lb c b a.size p)(A:Mk k o b c m)(B:Step c (TI.hr a) b)
 (q:FT b (Nw (a.size+1) b.size b c .mn) (2*(d+1)+3) g (sl (j.map fk.t))) (r:FT b (Nw (a.size+1) b.size b c .mn) (2*(d+1)+3) h (sl (le.map fk.t))) (u:FT b (Nw (a.size+1) b.size b c .mn) (2*(d+1)+3) f (sl (e.l.map fJ.t)))
 (D:2<=op/\op<=8) (hE:op<=3->ME e) (E:e.w<=20) (v:∀s∈j,MS s) (x:∀s∈le,MS s) (C:fk.ws j+fk.ws le<=5*wd d):
 (fQ b a.size (eg 11 1 [.agg [M op,M 0,.str nm,.str [],ed,M e.op,M e.n,.str e.name,f,g,h]])).get a.size=G (eg 11 1 [.agg [M op,M 0,.str nm,.str [],ed,M e.op,M e.n,.str e.name,f,g,h]])/\
 Js ⟨k,c,m,o,d+1,cnt⟩ args a (.agg [M op,M 0,.str nm,.str [],ed,M e.op,M e.n,.str e.name,f,g,h]) (mV a (fQ b a.size (eg 11 1 [.agg [M op,M 0,.str nm,.str [],ed,M e.op,M e.n,.str e.name,f,g,h]]))):=
 LF (i:=⟨k,c,m,o,d+1,cnt⟩) (s:=⟨op,0,nm,[],[],e,j,le⟩) z A B rfl
  (.cons (jh ..) (.cons (jh ..) (.cons (lL ..) (.cons (lL ..) (.cons (kj ..) (.cons (jh ..) (.cons (jh ..) (.cons (lL ..) (.cons u (.cons q (.cons r .nil)))))))))))
  (.mk (λa=>by simp at a;omega) (λa=>by simp at a;omega) Y (λa=>by simp at a;exact hE J) v x)
  (by
    have:=Fk d;rw[fk.nN,OZ];simp[fk.vP,fk.Oh,fk.yr,fk.BJ,fJ.jW];omega)
def SV.deep{f d:Nat}{c:H}{g a b:Nat}{h:T}{e:List fk}(m:SV f d c g a h e)(o:a<=b):SV f d c g b h e:=by obtain⟨j,l,i,n⟩:=m;exact⟨j,l,i.imp λ_ _ k=>k.deep J,n⟩
def adq(a:Nat):wd 0<=wd a:=Fk a
def SV.lit{g:List Int}{m:Nat}{a:H}{b j d:Nat}{es:List T}{l:List fk}(e:Mk g m a b j)(i:∀k h,jw (FT k h (d+2)) es (l.map fk.t)):SV a.size (a.size+1) (a.cons ⟨11,0,0,true,false,es⟩) b d (.arr a.size 0 0 es.length false) l:=by refine⟨es,.inr ⟨a.size,0,0,true,es,rfl,by rw[fH,au rfl],aI⟩,i _ _,λn f=>?_⟩;simp at f;subst f;refine⟨ay _,dE _,λc=>?_⟩;rw[jY (show(a.cons ⟨11,0,0,true,false,es⟩).get b=a.get b by rw[fH,aq (iV e.lt)])]at c;have:=e.fp _ c;omega
def EO(a:Int):fk:=⟨a,0,[99],[],[],⟨0,0,[],[]⟩,[],[]⟩
def Vb{d:H}{b:Nat->Prop}(a:Int)(c:Nat):FT d b (c+2) (.agg [M a,M 0,.str [99],.str [],ed,M 0,M 0,.str [],ed,ed,ed]) (EO a).t:=
 .inr (.inr ⟨_,(EO a).cs,rfl,.cons (jh ..) (.cons (jh ..) (.cons (lL ..) (.cons (lL ..) (.cons (kj ..) (.cons (jh ..) (.cons (jh ..) (.cons (lL ..) (.cons (kj ..) (.cons (kj ..) (.cons (kj ..) .nil)))))))))),fk.qv _⟩)
def Va{c:Int}(e:9<=c/\c<=11):MS (EO c):= .mk (λ_=>rfl) (λb=>by unfold EO at b;simp at b;omega) (λd a=>by unfold EO at a;simp at a) (λb=>by unfold EO at b;simp at b;omega) (λd a=>by unfold EO at a;simp at a) (λd a=>by unfold EO at a;simp at a)
def ZY(a:Int):(EO a).w=5:=by rw[fk.nN,fJ.nN];unfold EO;simp[fk.vP,fk.Oh,fk.yr,fk.BJ,fk.jW,fJ.jW,fJ.JC]
def Ee{b c a:Int}(d:b-c=a)(e: -9223372036854775808<=a)(f:a<9223372036854775808):binop .sub (M b) (M c)=G (M a):=by subst d;rw[we,<-kZ,lA e f]
def MJ{b c a:Int}(d:b+c=a)(e: -9223372036854775808<=a)(f:a<9223372036854775808):binop .add (M b) (M c)=G (M a):=by subst d;rw[tz,<-kZ,lA e f]
def afk(k:Nat)(c6:(rMs k).Ok prog cx 140)(eN:(rBk k).Ok prog cx 237):(rMt (k+1)).Ok prog cx 184:=by
 have⟨gy,dd⟩:=hlB Xg λ_ _ _ _ A=>A;have cL:=Ls 11;refine jP [(142,Nk),(235,QT),(234,QV),(141,QW)] [(139,kW C7 x8 vD),(233,QU 11),(140,rMs k),(237,rBk k),(236,Ds)] (jz 521481210427296124309566527199867809678935259509485941609668421502669740186866579200068820979 [(5,[(0,5),(2,5),(3,5)]),(7,[(0,5),(0,9),(6,9),(7,9)])] func184) 10 ?_;rintro⟨j,a,m,p,d,cnt⟩ _ A ⟨⟨rfl,bN,r,fs,fB,ff⟩,fv⟩ gZ c;simp only at bN r fs fB ff fv;simp at c;have eI:(a=A.size)=False:=uC bN.lt;have z:=Step.cons bN.hr.ok bN.hr.lt (eg 11 0 [.agg [M 0,M 0,.str [],.str [],ed,M 0,M 0,.str [],ed,ed,ed]]);have o:Lb a _ A.size _:=Lb.new bN.hr.lt bN.hr.fp (eg 11 0 [.agg [M 0,M 0,.str [],.str [],ed,M 0,M 0,.str [],ed,ed,ed]]);have eo:=bN.hr.cons (eg 11 0 [.agg [M 0,M 0,.str [],.str [],ed,M 0,M 0,.str [],ed,ed,ed]]);have⟨ca,Z,left,set,H,W,ar,bX,u,f,R,hl⟩:=eo.ex;have⟨ds,cp⟩:=eo.set (th':=Z) (left':=IntKind.i64.wrap (left-1)) (se':=set) (tx':=H) (at2:=W) (lp':=ar) f R hl;replace o:=o.step ds;replace z:=z.trans ds;simp only[wg]at f ds cp o z;have eb:=f;rw[fH,uX,aq (iV bN.lt),iZ]at eb;simp[f184,c,eb,eI,we,fN];generalize fQ ((hr A).cons _) a _=gz at*
 clear f eb R eo ds eI;have⟨ca,Z,left,set,H,W,ar,bX,u,f,R,hl⟩:=cp.ex;simp only[wg]at f;simp[f];refine vZ Y cp.tp cp.ok J J r λP O gE t2 eU=>?_;have⟨b,eu⟩:=cp.tape eU t2;replace o:=o.step eu;replace z:=z.trans eu;clear f R cp t2 eU eu hl;have⟨ca,Z,left,set,H,W,ar,bX,u,f,R,hl⟩:=b.ex;have de:=f;simp only[wg]at f;simp[c,f];rcases(by omega:P=0\/P=1\/P=2\/P=3\/P=4\/P=5\/P=6\/P=7\/P=8\/P=9\/P=10\/P=11\/P=12\/P=13\/P=14\/P=15\/P=16\/P=17)with rfl|rfl|rfl|rfl|rfl|rfl|rfl|rfl|rfl|rfl|rfl|rfl|rfl|rfl|rfl|rfl|rfl|rfl
 iterate 4
  simp[c];have C:=b.cons (eg 1 0 [.str [120],.str [121],.str [120],.str [118]]);have D:=Step.cons b.ok b.lt (eg 1 0 [.str [120],.str [121],.str [120],.str [118]]);refine mZ cL Y ⟨j,a,m,p,1⟩ ⟨⟨rfl,C,r,Y⟩,Y⟩ ?_;rintro _ hE ⟨e,rfl,aX,br,an,S⟩;simp only at br an S;have⟨al,V⟩:=C.tape S an;have g:=(o.step D).step V;have fin:=λnm=>OK (i:=⟨j,a,m,p,d,cnt⟩) (args:=[ez a,M d]) (nm:=nm) g al ((z.trans D).trans V) aX J;have eB:il (O.cons (eg 1 0 [.str [120],.str [121],.str [120],.str [118]])) hE O.size:=iw (S.get _ (iV b.tp.lt));simp[xR,g.get,eB,λnm=>(fin nm).1];exact(fin _).2
 have fA:(a=O.size)=False:=uC b.lt;simp[c,f,fA];have C:=b.cons (eg 1 0 [.str [97],.str [98]]);have D:=Step.cons b.ok b.lt (eg 1 0 [.str [97],.str [98]]);refine Ow Y C.tp C.ok J J r λU bA cb t4 av=>?_;have⟨X,bu⟩:=C.tape av t4;have gO:bA.get O.size=G (eg 1 0 [.str [97],.str [98]]):=(av.get _ (iV b.tp.lt)).trans Y;have gw:il (O.cons (eg 1 0 [.str [97],.str [98]])) bA O.size:=iw (av.get _ (iV b.tp.lt));have⟨nm,e8⟩:∃nm:List Nat,([.str [97],.str [98]]:List T)[U]? =G (.str nm):=by
  rcases(by omega:U=0\/U=1)with rfl|rfl<;>exact⟨_,rfl⟩
 generalize([.str [97],.str [98]]:List T)=e7 at*
 have cb:U<2:=J;simp[c,gO,e8,cb,gw];refine mZ cL Y ⟨j,a,m,p,1⟩ ⟨⟨rfl,X,r,Y⟩,Y⟩ ?_;rintro _ hE ⟨e,rfl,aX,br,an,S⟩;simp only at br an S;have⟨al,V⟩:=X.tape S an;have g:=((o.step D).step bu).step V;have fin:=OK (i:=⟨j,a,m,p,d,cnt⟩) (args:=[ez a,M d]) (nm:=nm) g al (((z.trans D).trans bu).trans V) aX J;have eB:il bA hE O.size:=iw (S.get _ (iV b.tp.lt));have gX:il (O.cons ⟨1,0,0,true,false,e7⟩) hE O.size:=iw ((S.get _ (iV b.tp.lt)).trans (av.get _ (iV b.tp.lt)));simp[xR,g.get,eB,fin.1];exact fin.2;simp[c];refine jy cL Y ⟨j,a,m,p,0⟩ ⟨⟨rfl,b,r,Y⟩,Y⟩ ?_;rintro _ hE ⟨e,rfl,aX,br,an,S⟩;simp only at br an S;have⟨al,V⟩:=b.tape S an;have eS:=al.cons (eg 4 0 [e.t]);have eX:=Step.cons al.ok al.lt (eg 4 0 [e.t]);simp[c];refine jy cL Y ⟨j,a,m,p,1⟩ ⟨⟨rfl,eS,r,Y⟩,Y⟩ ?_;rintro _ eF ⟨c4,rfl,fb,fE,e5,dn⟩;simp only at fE e5 dn;have⟨fX,ey⟩:=eS.tape dn e5;have eP:=((o.step V).step eX).step ey;have gI:=V.ok.sz;have gP:=o.lt;have e9:eF.get hE.size=G (eg 4 0 [e.t]):=(dn.get _ (iV al.tp.lt)).trans Y;have fL:=dn.size;simp at fL;have fC:¬Fp eF a hE.size:=λq=>by
  rcases ey.fp _ q with q|q;rw[jY (show(hE.cons (eg 4 0 [e.t])).get a=hE.get a by rw[fH,aq (iV al.lt)])]at q;have:=al.fp _ q;omega;simp at q;omega
 have fin:=LF (i:=⟨j,a,m,p,d,cnt⟩) (args:=[ez a,M d]) (cs:=[M 1,M 0,.str [113],.str [],.arr hE.size 0 0 1 false,M c4.op,M c4.n,.str c4.name,sl (c4.l.map fJ.t),ed,ed]) (s:=HH [113] [e] c4) eP fX (((z.trans V).trans eX).trans ey) rfl
  (.cons (jh ..) (.cons (jh ..) (.cons (lL ..) (.cons (lL ..) (.cons (.inr (.inl ⟨hE.size,0,0,1,false,[e.t],[e.t],rfl,⟨J,J,fC,Px _⟩,by rw[iW,e9];simp,.cons (e.ft _) .nil,rfl⟩)) (.cons (jh ..) (.cons (jh ..) (.cons (lL ..) (.cons (uq _ _ _ λx bs=>by obtain⟨y,_,rfl⟩:=List.mem_map.1 bs;simp) (.cons (kj ..) (.cons (kj ..) .nil)))))))))))
  (Hx (iC aX) fb Y) (Qn (by rw[fJ.ly,fJ.jW];omega) J)
 simp[eP.get,fin.1];exact fin.2;simp[c];refine fO (λaE=>?_) (λaE=>?_);simp at aE;obtain⟨d,rfl⟩:∃e,d=e+1:=⟨d-1,J⟩;have aA:binop .sub (M ((d:Int)+1)) (M 1)=G (M d):=by
  rw[we,<-kZ,lA J J];simp
 simp[c];refine jy cL Y ⟨j,a,m,p,1⟩ ⟨⟨rfl,b,r,Y⟩,Y⟩ ?_;rintro _ hE ⟨e,rfl,aX,br,an,S⟩;simp only at br an S;have⟨al,V⟩:=b.tape S an;simp[c,aA];refine jy c6 Y ⟨j,a,m,p,d,1⟩ ⟨⟨rfl,al,r,dZ,dZ,Y⟩,dZ⟩ ?_;rintro v ae ⟨l,sv,B,K,N,E⟩;simp only at sv B K N E;have ap:=(o.step V).step E;have a8:=(z.trans V).trans E;have Q:=sv.gc;have⟨yJ,aN,bu,bZ,b9⟩:=oO N a8 (eg 11 0 [.agg [M 0,M 0,.str [],.str [],ed,M 0,M 0,.str [],ed,ed,ed]]) (eg 11 1 [.agg [M 2,M 0,.str [],.str [],ed,M e.op,M e.n,.str e.name,sl (e.l.map fJ.t),v,ed]]);have a7:=bZ _ _ ap;have b7:=b9 _ _ _ _ _ sv (ay _);have⟨ca,Z,left,set,H,W,ar,bX,u,f,R,hl⟩:=yJ.ex;simp only[wg]at f;simp[c,Q.1,Q.2,f];generalize fQ (ae.cons _) ae.size _=di at*
 refine vZ Y yJ.tp yJ.ok J J r λU bA cb t4 av=>?_;have⟨X,ax⟩:=yJ.tape av t4;have l4:=aN.step ax;have eh:=a7.step ax;have bT:=bu.trans ax;have gQ:=yJ.lt;have fM:ae.size<di.size:=aN.lt;have e4:=b7.step ax J;have gM:=av.size;have gB:A.size<ae.size:=ap.lt;have eG:A.size<hE.size:=(o.step V).lt;simp;refine fO (λfy=>?_) (λfy=>?_);simp[c,aA];refine jy c6 Y ⟨j,a,m,p,d,1⟩ ⟨⟨rfl,X,r,dZ,dZ,Y⟩,dZ⟩ ?_;rintro gv gD ⟨l2,eA,ef,eK,mkV,stV⟩;simp only at eA ef eK mkV stV;have eD:=eA.gc;have⟨fY,fP,b6,gg,e6⟩:=Zl mkV (l4.step stV) (bT.trans stV) J (eg 11 2 [.agg [M 2,M 0,.str [],.str [],ed,M e.op,M e.n,.str e.name,sl (e.l.map fJ.t),v,gv]]);have eR:=gg _ _ J (eh.step stV);have gi:=e6 _ _ _ _ _ (e4.step stV J) (.inr (ay _));have gj:=e6 _ _ _ _ _ eA (.inl J);have gS:=stV.ok.sz;have fin:=uZ (cnt:=cnt) (args:=[ez a,M (d+1:Nat)]) (op:=2) (nm:=[]) (e:=e) eR fY b6 (gi.cell eG dY) (gj.cell J Y) (uq _ _ _ λx bs=>by obtain⟨y,_,rfl⟩:=List.mem_map.1 bs;simp) J (λ_=>aX) J (λs u=>(B s u).1) (λs u=>(ef s u).1) (by
  have c1:=BX B;have ha:=BX ef;have:=bG (wd d) K;have:=bG (wd d) eK;omega)
 simp[(l4.step stV).get,fP.get,fN,eD.1,eD.2,eR.get,fin.1];exact fin.2;have fin:=uZ (cnt:=cnt) (args:=[ez a,M (d+1:Nat)]) (op:=2) (nm:=[]) (e:=e) (le:=[]) eh X bT (e4.cell eG J) (kj _ _ _ false) (uq _ _ _ λx bs=>by obtain⟨y,_,rfl⟩:=List.mem_map.1 bs;simp) J (λ_=>aX) J (λs u=>(B s u).1) Y (by
  have c1:=BX B;have:=bG (wd d) K;rw[fk.jW];omega)
 simp[l4.get,eh.get,fN,fin.1];exact fin.2;simp[c];refine Od ⟨j,a,m,p,d,cnt⟩ Y b r o z λe hE g fin=>?_;simp[xR,g,λnm=>(fin [] nm).1];exact(fin _ _).2;simp[c];refine fO (λaE=>?_) (λaE=>?_);simp at aE;obtain⟨d,rfl⟩:∃e,d=e+1:=⟨d-1,J⟩;have aA:binop .sub (M ((d:Int)+1)) (M 1)=G (M d):=by
  rw[we,<-kZ,lA J J];simp
 have⟨D,C⟩:=b.set (th':=Z) (left':=left) (se':=set) (tx':=H) (at2:=W) (lp':=true) de R hl;simp only[wg]at D C;simp[c,f,fN];generalize fQ O a _=ec at*
 have ao:=o.step D;have a8:=z.trans D;simp[c,Yo,Yp,ach,aA];refine jy c6 Y ⟨j,a,m,p,d,1⟩ ⟨⟨rfl,C,r,dZ,dZ,Y⟩,dZ⟩ ?_;rintro v ae ⟨l,sv,B,K,N,E⟩;simp only at sv B K N E;have ap:=ao.step E;have bu:=a8.trans E;have et:=Step.cons N.ok N.lt (eg 11 0 [(HH [98] [] ⟨6,0,[],[⟨2,0,[98],[]⟩,⟨1,1,[],[]⟩]⟩).t]);have fM:=E.ok.sz;have⟨gn,eE,eC,e0,fS,eV,_⟩:=(sv.step et (ay _)).app (N.cons (eg 11 0 [(HH [98] [] ⟨6,0,[],[⟨2,0,[98],[]⟩,⟨1,1,[],[]⟩]⟩).t])) (x:= .arr ae.size 0 0 1 false) (xs:=[(HH [98] [] ⟨6,0,[],[⟨2,0,[98],[]⟩,⟨1,1,[],[]⟩]⟩).t]) (l2:=[HH [98] [] ⟨6,0,[],[⟨2,0,[98],[]⟩,⟨1,1,[],[]⟩]⟩]) dY Y d4 (.cons (fk.ft _ _) .nil) Y Y dY;have bT:=eV _ (bu.trans et) (iC a8.ok.sz);have l3:=ao.step (eV _ (E.trans et) (ay _));have Q:=e0.gc;have⟨yJ,aN,b6,bZ,b9⟩:=oO fS bT (eg 11 0 [.agg [M 0,M 0,.str [],.str [],ed,M 0,M 0,.str [],ed,ed,ed]]) (eg 11 1 [.agg [M 3,M 0,.str [],.str [],ed,M 13,M 0,.str [],sl [(fJ.mk 2 0 [98] []).t,(fJ.mk 1 2 [] []).t],gn,ed]]);have a7:=bZ _ _ l3;have b7:=b9 _ _ _ _ _ e0 (ay _);simp only[HH]at eC;simp[c,Yo,Yp,ach,xR,eC,Q.1,Q.2];generalize fQ (eE.cons _) eE.size _=di at*
 have⟨ca,Z,left,set,H,W,gV,bX,u,f,R,hl⟩:=yJ.ex;have⟨I,c7⟩:=yJ.set (th':=Z) (left':=left) (se':=set) (tx':=H) (at2:=W) (lp':=ar) f R hl;have fe:=ao.lt;have eL:=aN.lt;have eM:=I.ok.sz;have fin:=uZ (cnt:=cnt) (args:=[ez a,M (d+1:Nat)]) (op:=3) (nm:=[]) (e:=⟨13,0,[],[⟨2,0,[98],[]⟩,⟨1,2,[],[]⟩]⟩) (le:=[]) (a7.step I) c7 (b6.trans I) ((b7.step I J).cell fe J) (kj _ _ _ false) (uq _ _ _ λx bs=>by obtain⟨y,_,rfl⟩:=List.mem_map.1 bs;simp) J (λ_=> .bin J (.nm _) (.num _)) (by simp[fJ.nN,fJ.ly,fJ.jW]) (λs u=>(List.mem_append.1 u).elim (λq=>(B s q).1) λq=>List.mem_singleton.1 q▸Hx Y (.bin J (.nm _) (.num _)) (λA=>absurd rfl A)) Y (by
  have c1:=BX B;have:=bG (wd d) K;have:=Qn (nm:=[98]) (ix:=[]) (e:=⟨6,0,[],[⟨2,0,[98],[]⟩,⟨1,1,[],[]⟩]⟩) (d:=d) (by rw[fJ.jW];omega) (by simp[fJ.nN,fJ.ly,fJ.jW]);rw[fk.MW,fk.ly,fk.jW];omega)
 have gT:=(aN.step I).get;have gR:=(a7.step I).get;simp only[wg]at f gT gR fin;simp[f,gT,gR,fN];simp at fin;simp[fin.1];exact fin.2;simp[c];refine Od ⟨j,a,m,p,d,cnt⟩ Y b r o z λe hE g fin=>?_;simp[xR,g,λnm=>(fin [] nm).1];exact(fin _ _).2
 iterate 2
  by_cases F:(decide (0<d)&&decide (0<left)&& !H)=true;simp at F;obtain⟨⟨aE,bi⟩,bn⟩:=F;subst bn;obtain⟨d,rfl⟩:∃e,d=e+1:=⟨d-1,J⟩;have aA:binop .sub (M ((d:Int)+1)) (M 1)=G (M d):=by
   rw[we,<-kZ,lA J J];simp
  have C:=b.cons (eg 1 0 [.str [109],.str [110]]);have bW:=λ{b8:iq} (ht:b8.h 236=G Ds) s=>dd ht [ez a,.str s] (O.cons (eg 1 0 [.str [109],.str [110]])) ⟨j,p,a,m,s,rfl,C,J⟩;have D:=Step.cons b.ok b.lt (eg 1 0 [.str [109],.str [110]]);have ao:=o.step D;have dk:binop .sub (M 8) (M 8)=G (M 0):=Ee J J J;have dm:binop .sub (M 9) (M 8)=G (M 1):=Ee J J J;simp[c,bi,bW,dk,dm];refine fO (λL=>?_) (λL=>?_);simp[c,dk,dm];have fW:=C.cons (eg 1 0 [.str [109],.str [110]]);have eW:=Step.cons C.ok C.lt (eg 1 0 [.str [109],.str [110]]);have eO:=ao.step eW;simp[aA];refine jy eN Y ⟨j,a,m,p,d,_⟩ ⟨⟨rfl,fW,r,dZ,dZ⟩,dZ⟩ ?_;rintro v ae ⟨l,sv,B,K,N,E⟩;simp only at sv B K N E;have Q:=sv.gc;have ap:=eO.step E;have fin:=λnm=>uZ (cnt:=cnt) (args:=[ez a,M (d+1:Nat)]) (op:=4) (nm:=nm) (e:=⟨0,0,[],[]⟩) (le:=[]) ap N (((z.trans D).trans eW).trans E) (sv.cell eO.lt (ay _)) (kj _ _ _ false) (kj _ _ _ false) J (λA=>by omega) (by simp[fJ.nN,fJ.jW]) (λs u=>(B s u).1) Y (by
   have c1:=BX B;have:=bG (wd d) K;rw[fk.jW];omega)
  simp only[fJ.AV,fJ.LE,fJ.tN]at fin;simp[Q.1,Q.2,ap.get,λnm=>(fin nm).1];exact(fin _).2;simp[c];refine Od ⟨j,a,m,p,d+1,cnt⟩ Y C r ao (z.trans D) λe hE g fin=>?_;simp[xR,g,λnm=>(fin [] nm).1];exact(fin _ _).2;have F:(decide (0<d)&&decide (0<left)&& !H)=false:=iC F;simp[c,F];refine Od ⟨j,a,m,p,d,cnt⟩ Y b r o z λe hE g fin=>?_;simp[xR,g,λnm=>(fin [] nm).1];exact(fin _ _).2
 iterate 2
  by_cases F:(decide (0<d)&&decide (0<left)&& !H)=true;simp at F;obtain⟨⟨aE,bi⟩,bn⟩:=F;subst bn;obtain⟨d,rfl⟩:∃e,d=e+1:=⟨d-1,J⟩;have aA:binop .sub (M ((d:Int)+1)) (M 1)=G (M d):=by
   rw[we,<-kZ,lA J J];simp
  have bW:=λ{b8:iq} (ht:b8.h 236=G Ds) s=>dd ht [ez a,.str s] O ⟨j,p,a,m,s,rfl,b,J⟩;have dk:binop .sub (M 10) (M 10)=G (M 0):=Ee J J J;have gk:binop .sub (M 11) (M 10)=G (M 1):=Ee J J J;have gm:binop .add (M 1) (M 5)=G (M 6):=MJ J J J;have dm:binop .add (M 0) (M 5)=G (M 5):=MJ J J J;simp[c,bi,bW];refine fO (λL=>?_) (λL=>?_);simp[c,dk,dm,gk,gm,aA];refine jy eN Y ⟨j,a,m,p,d,_⟩ ⟨⟨rfl,b,r,dZ,dZ⟩,dZ⟩ ?_;rintro v ae ⟨l,sv,B,K,N,E⟩;simp only at sv B K N E;have Q:=sv.gc;have ap:=o.step E;have fin:=λop (gF:op=5\/op=6) nm=>uZ (cnt:=cnt) (args:=[ez a,M (d+1:Nat)]) (op:=op) (nm:=nm) (e:=⟨0,0,[],[]⟩) (le:=[]) ap N (z.trans E) (sv.cell o.lt (ay _)) (kj _ _ _ false) (kj _ _ _ false) J (λA=>by omega) (by simp[fJ.nN,fJ.jW]) (λs u=>(B s u).1) Y (by
   have c1:=BX B;have:=bG (wd d) K;rw[fk.jW];omega)
  simp only[fJ.AV,fJ.LE,fJ.tN]at fin;simp[Q.1,Q.2,ap.get,λnm=>(fin 5 (.inl rfl) nm).1,λnm=>(fin 6 (.inr rfl) nm).1];exact(fin _ Y _).2;simp[c];refine Od ⟨j,a,m,p,d+1,cnt⟩ Y b r o z λe hE g fin=>?_;simp[xR,g,λnm=>(fin [] nm).1];exact(fin _ _).2;have F:(decide (0<d)&&decide (0<left)&& !H)=false:=iC F;simp[c,F];refine Od ⟨j,a,m,p,d,cnt⟩ Y b r o z λe hE g fin=>?_;simp[xR,g,λnm=>(fin [] nm).1];exact(fin _ _).2
 simp;refine fO (λL=>?_) (λL=>?_);simp at L;obtain⟨⟨aE,bi⟩,bn⟩:=L;obtain⟨d,rfl⟩:∃e,d=e+1:=⟨d-1,J⟩;have aA:binop .sub (M ((d:Int)+1)) (M 1)=G (M d):=by
  rw[we,<-kZ,lA J J];simp
 have⟨D,C⟩:=b.set (th':=Z) (left':=left) (se':=set) (tx':=true) (at2:=W) (lp':=ar) de R hl;simp only[wg]at D C;simp[c,f,fN];generalize fQ O a _=ec at*
 have ao:=o.step D;have a8:=z.trans D;have⟨ca,Z,left,set,H,W,ar,bX,u,f,R,hl⟩:=C.ex;simp only[wg]at f;simp[f];refine vZ Y C.tp C.ok J J r λU bA cb t4 av=>?_;have⟨X,ax⟩:=C.tape av t4;have l4:=ao.step ax;have ea:binop .add (M 1) (M U)=G (M ((1+U:Nat):Int)):=MJ Y J J;simp[ea];refine jy c6 Y ⟨j,a,m,p,0,1+U⟩ ⟨⟨Y,X,r,Y,dZ,dZ⟩,dZ⟩ ?_;rintro v ae ⟨l,sv,B,K,N,E⟩;simp only at sv B K N E;replace K:l.length<=2:=J;replace sv:=sv.deep (show 2*0+2<=2*d+2 by omega);replace B:∀s∈l,MS s/\s.w<=wd d:=λs u=>⟨(B s u).1,aV (B s u).2 (adq d)⟩;have ap:=l4.step E;have bT:=(a8.trans ax).trans E;have Q:=sv.gc;have⟨yJ,aN,b6,bZ,b9⟩:=oO N bT (eg 11 0 [.agg [M 0,M 0,.str [],.str [],ed,M 0,M 0,.str [],ed,ed,ed]]) (eg 11 1 [.agg [M 7,M 0,.str [],.str [],ed,M 0,M 0,.str [],ed,v,ed]]);have a7:=bZ _ _ ap;have b7:=b9 _ _ _ _ _ sv (ay _);simp[c,Q.1,Q.2];generalize fQ (ae.cons _) ae.size _=di at*
 have⟨ca,Z,left,set,H,W,ar,bX,u,f,R,hl⟩:=yJ.ex;have⟨I,c7⟩:=yJ.set (th':=Z) (left':=left) (se':=set) (tx':=false) (at2:=W) (lp':=ar) f R hl;have eL:=aN.lt;have eM:=I.ok.sz;have fin:=uZ (cnt:=cnt) (args:=[ez a,M (d+1:Nat)]) (op:=7) (nm:=[]) (e:=⟨0,0,[],[]⟩) (le:=[]) (a7.step I) c7 (b6.trans I) ((b7.step I J).cell l4.lt J) (kj _ _ _ false) (kj _ _ _ false) J (λA=>by omega) (by simp[fJ.nN,fJ.jW]) (λs u=>(B s u).1) Y (by
  have c1:=BX B;have:=bG (wd d) K;rw[fk.jW];omega)
 have gT:=(aN.step I).get;have gR:=(a7.step I).get;simp only[wg,fJ.AV,fJ.LE,fJ.tN]at f gT gR fin;simp[f,gT,gR,fN,fin.1];exact fin.2;simp[c];refine Od ⟨j,a,m,p,d,cnt⟩ Y b r o z λe hE g fin=>?_;simp[xR,g,λnm=>(fin [] nm).1];exact(fin _ _).2;simp[c,f];refine fO (λL=>?_) (λL=>?_);simp at L;obtain⟨⟨⟨aE,bi⟩,bn⟩,eH⟩:=L;obtain⟨d,rfl⟩:∃e,d=e+1:=⟨d-1,J⟩;have aA:binop .sub (M ((d:Int)+1)) (M 1)=G (M d):=by
  rw[we,<-kZ,lA J J];simp
 have⟨D,C⟩:=b.set (th':=Z) (left':=left) (se':=set) (tx':=H) (at2:=true) (lp':=ar) de R hl;simp only[wg]at D C;simp[c,f,fN,aA];generalize fQ O a _=ec at*
 have ao:=o.step D;have a8:=z.trans D;refine jy c6 Y ⟨j,a,m,p,d,2⟩ ⟨⟨rfl,C,r,dZ,dZ,Y⟩,dZ⟩ ?_;rintro v ae ⟨l,sv,B,K,N,E⟩;simp only at sv B K N E;have ap:=ao.step E;have bT:=a8.trans E;have Q:=sv.gc;have⟨yJ,aN,b6,bZ,b9⟩:=oO N bT (eg 11 0 [.agg [M 0,M 0,.str [],.str [],ed,M 0,M 0,.str [],ed,ed,ed]]) (eg 11 1 [.agg [M 8,M 0,.str [],.str [],ed,M 0,M 0,.str [],ed,v,ed]]);have a7:=bZ _ _ ap;have b7:=b9 _ _ _ _ _ sv (ay _);simp[c,Q.1,Q.2];generalize fQ (ae.cons _) ae.size _=di at*
 have⟨ca,Z,left,set,H,W,ar,bX,u,f,R,hl⟩:=yJ.ex;have⟨I,c7⟩:=yJ.set (th':=Z) (left':=left) (se':=set) (tx':=H) (at2:=false) (lp':=ar) f R hl;have eL:=aN.lt;have eM:=I.ok.sz;have fin:=uZ (cnt:=cnt) (args:=[ez a,M (d+1:Nat)]) (op:=8) (nm:=[]) (e:=⟨0,0,[],[]⟩) (le:=[]) (a7.step I) c7 (b6.trans I) ((b7.step I J).cell ao.lt J) (kj _ _ _ false) (kj _ _ _ false) J (λA=>by omega) (by simp[fJ.nN,fJ.jW]) (λs u=>(B s u).1) Y (by
  have c1:=BX B;have:=bG (wd d) K;rw[fk.jW];omega)
 have gT:=(aN.step I).get;have gR:=(a7.step I).get;simp only[wg,fJ.AV,fJ.LE,fJ.tN]at f gT gR fin;simp[f,gT,gR,fN,fin.1];exact fin.2;simp[c];refine Od ⟨j,a,m,p,d,cnt⟩ Y b r o z λe hE g fin=>?_;simp[xR,g,λnm=>(fin [] nm).1];exact(fin _ _).2;by_cases F:(decide (0<d)&&decide (0<left)&& !H&& !W)=true;simp at F;obtain⟨⟨⟨aE,bi⟩,bn⟩,eH⟩:=F;subst bn;subst eH;obtain⟨d,rfl⟩:∃e,d=e+1:=⟨d-1,J⟩;have bW:=λ{b8:iq} (ht:b8.h 236=G Ds) s=>dd ht [ez a,.str s] O ⟨j,p,a,m,s,rfl,b,J⟩;simp[c,f,bi,bW];refine fO (λL=>?_) (λL=>?_);simp[Yp,xR];have ee:(A.size=O.size)=False:=uC o.lt;have sv:=SV.lit (d:=2*d+2) (l:=[EO 9,HH [97] [] ⟨2,0,[120],[]⟩]) (es:=[.agg [M 9,M 0,.str [99],.str [],ed,M 0,M 0,.str [],ed,ed,ed],(HH [97] [] ⟨2,0,[120],[]⟩).t]) b (λ_ _=> .cons (Vb _ _) (.cons (fk.ft _ _) .nil));have c9:=Step.cons b.ok b.lt (eg 11 0 [.agg [M 9,M 0,.str [99],.str [],ed,M 0,M 0,.str [],ed,ed,ed],(HH [97] [] ⟨2,0,[120],[]⟩).t]);have ej:=o.step c9;have fin:=uZ (cnt:=cnt) (args:=[ez a,M (d+1:Nat)]) (op:=4) (nm:=[109]) (e:=⟨0,0,[],[]⟩) (le:=[]) ej (b.cons _) (z.trans c9) (sv.cell o.lt Y) (kj _ _ _ false) (kj _ _ _ false) J (λA=>by omega) (by simp[fJ.nN,fJ.jW]) (λs u=>by
  rcases List.mem_cons.1 u with rfl|u;exact Va J;rw[List.mem_singleton.1 u];exact Hx Y (.nm _) (λA=>absurd rfl A)) Y (by
  have:=Fk d;simp[fk.ly,fk.jW,ZY,HH,fk.nN (fk.mk 1 0 [97] [] [] (fJ.mk 2 0 [120] []) [] []),fJ.nN,fJ.jW];omega)
 simp only[fJ.AV,fJ.LE,fJ.tN,HH]at fin;simp at fin;simp[ee,o.get,fin.1];exact fin.2;simp[c];refine Od ⟨j,a,m,p,d+1,cnt⟩ Y b r o z λe hE g fin=>?_;simp[xR,g,λnm=>(fin [] nm).1];exact(fin _ _).2;have F:(decide (0<d)&&decide (0<left)&& !H&& !W)=false:=iC F;simp[c,f,F];refine Od ⟨j,a,m,p,d,cnt⟩ Y b r o z λe hE g fin=>?_;simp[xR,g,λnm=>(fin [] nm).1];exact(fin _ _).2
 .by_cases F:(decide (0<d)&&decide (0<left)&& !H)=true
  .simp at F;obtain⟨⟨aE,bi⟩,bn⟩:=F;subst bn
   skip
   obtain⟨d,rfl⟩:∃e,d=e+1:=⟨d-1,J⟩;have bW:=λ{b8:iq} (ht:b8.h 236=G Ds) s=>dd ht [ez a,.str s] O ⟨j,p,a,m,s,rfl,b,J⟩;simp[c,bi,bW];refine fO (λL=>?_) (λL=>?_);simp[c,f];refine vZ Y b.tp b.ok J J r λU bA cb t4 av=>?_;have⟨X,ax⟩:=b.tape av t4;have l4:=o.step ax;have ea:binop .add (M 10) (M U)=G (M (10+U)):=MJ Y J J;simp[ea];have ee:(A.size=bA.size)=False:=uC l4.lt;have sv:=SV.lit (d:=2*d+2) (l:=[EO (10+U)]) (es:=[.agg [M (10+U),M 0,.str [99],.str [],ed,M 0,M 0,.str [],ed,ed,ed]]) X (λ_ _=> .cons (Vb _ _) .nil);have c9:=Step.cons X.ok X.lt (eg 11 0 [.agg [M (10+U),M 0,.str [99],.str [],ed,M 0,M 0,.str [],ed,ed,ed]]);have ej:=l4.step c9;have fin:=uZ (cnt:=cnt) (args:=[ez a,M (d+1:Nat)]) (op:=4) (nm:=[109]) (e:=⟨0,0,[],[]⟩) (le:=[]) ej (X.cons _) ((z.trans ax).trans c9) (sv.cell l4.lt Y) (kj _ _ _ false) (kj _ _ _ false) J (λA=>by omega) (by simp[fJ.nN,fJ.jW]) (λs u=>List.mem_singleton.1 u▸Va J) Y (by
    have:=Fk d;simp[fk.ly,fk.jW,ZY];omega)
   simp only[fJ.AV,fJ.LE,fJ.tN]at fin;simp at fin;simp[ee,l4.get,fin.1];exact fin.2;simp[c];refine Od ⟨j,a,m,p,d+1,cnt⟩ Y b r o z λe hE g fin=>?_;simp[xR,g,λnm=>(fin [] nm).1];exact(fin _ _).2
  have F:(decide (0<d)&&decide (0<left)&& !H)=false:=iC F;simp[c,F];refine Od ⟨j,a,m,p,d,cnt⟩ Y b r o z λe hE g fin=>?_;simp[xR,g,λnm=>(fin [] nm).1];exact(fin _ _).2
 simp[c,f];refine fO (λL=>?_) (λL=>?_);have⟨D,C⟩:=b.set (th':=Z) (left':=left) (se':=true) (tx':=H) (at2:=W) (lp':=ar) de R hl;simp only[wg]at D C;simp[c,f,fN];generalize fQ O a _=ec at*
 have ao:=o.step D;have a8:=z.trans D;refine jy cL Y ⟨j,a,m,p,1⟩ ⟨⟨rfl,C,r,Y⟩,Y⟩ ?_;rintro _ hE ⟨e,rfl,aX,br,an,S⟩;simp only at br an S;have⟨al,V⟩:=C.tape S an;have g:=ao.step V;have fin:=LF (i:=⟨j,a,m,p,d,cnt⟩) (args:=[ez a,M d]) (cs:=[M 14,M 0,.str [102],.str [],ed,M e.op,M e.n,.str e.name,sl (e.l.map fJ.t),ed,ed]) (s:=⟨14,0,[102],[],[],e,[],[]⟩) g al (a8.trans V) rfl
  (.cons (jh ..) (.cons (jh ..) (.cons (lL ..) (.cons (lL ..) (.cons (kj ..) (.cons (jh ..) (.cons (jh ..) (.cons (lL ..) (.cons (uq _ _ _ λx bs=>by obtain⟨y,_,rfl⟩:=List.mem_map.1 bs;simp) (.cons (kj ..) (.cons (kj ..) .nil)))))))))))
  (.mk Y Y Y (λ_=>aX) Y Y) (by
    have:=Fk d;rw[fk.nN];simp only[fk.vP,fk.Oh,fk.yr,fk.BJ,fk.jW,fJ.jW];omega)
 simp[g.get,fin.1];exact fin.2;simp[c];refine Od ⟨j,a,m,p,d,cnt⟩ Y b r o z λe hE g fin=>?_;simp[xR,g,λnm=>(fin [] nm).1];exact(fin _ _).2;cases H;simp[c,f];refine vZ Y b.tp b.ok J J r λU bA cb t4 av=>?_;have⟨X,ax⟩:=b.tape av t4;have l4:=o.step ax;have bu:=z.trans ax;simp;refine fO (λL=>?_) (λL=>?_);have fin:=LF (i:=⟨j,a,m,p,d,cnt⟩) (args:=[ez a,M d]) (cs:=[M 15,M 0,.str [97],.str [102],ed,M 0,M 0,.str [],ed,ed,ed]) (s:=⟨15,0,[97],[102],[],⟨0,0,[],[]⟩,[],[]⟩) l4 X bu rfl
  (.cons (jh ..) (.cons (jh ..) (.cons (lL ..) (.cons (lL ..) (.cons (kj ..) (.cons (jh ..) (.cons (jh ..) (.cons (lL ..) (.cons (kj ..) (.cons (kj ..) (.cons (kj ..) .nil)))))))))))
  (.mk Y Y Y Y Y Y) (by
    have:=Fk d;rw[fk.nN,fJ.nN];simp only[fk.vP,fk.Oh,fk.yr,fk.BJ,fk.jW,fJ.jW,fJ.JC];omega)
 simp[l4.get,fin.1];exact fin.2;simp[c];refine Od ⟨j,a,m,p,d,cnt⟩ Y X r l4 bu λe hE g fin=>?_;simp[xR,g,λnm=>(fin [] nm).1];exact(fin _ _).2;simp[c,f];refine Od ⟨j,a,m,p,d,cnt⟩ Y b r o z λe hE g fin=>?_;simp[xR,g,λnm=>(fin [] nm).1];exact(fin _ _).2
def aiD(a:Nat):(rMs a).Ok prog cx 140:=
 AH (λc:Wr=>c.d) (λa b=>afl (a+1) (afk a b (agt a b))) a
def Ak:iF:=⟨Bool,λa=>[.bool a],λ_=>True,λa=> M (if a then 1 else 0),λc a b=>by simp at b;rw[b]⟩
def TE:Ak.Ok prog cx 280:=by refine iD [] (jz 13 [] func280) (λ_=>5) (by simp[Ak]) ?_;rintro b _ c a;cases b<;>(simp[Ak]at a|-;simp[f280,a])
def Qc{b:iq}(ht:b.p 280=G Ak)(a:Bool):rl prog cx b 280 [.bool a]=G (M (if a then 1 else 0)):=iL ht TE a trivial
def abo(c:T):Prop:=∃(a:Int) (b:Bool),c= .tuple [M a,.bool b]/\mH a
def JH(b:Int)(c:Bool):abo (.tuple [M b,.bool c])↔mH b:=⟨λ⟨_,_,d,a⟩=>by simp at d;rw[d.1];exact a,λa=>⟨b,c,rfl,a⟩⟩
def UM(a:Int):mH (IntKind.i64.wrap a):=by unfold mH IntKind.wrap;simp[IntKind.bits,IntKind.signed];omega
def afK{a:Int}(c:mH a)(b:Int):mH (a.tmod b):=by
 have d:(a.tmod b).natAbs<=a.natAbs:=by rw[Int.natAbs_tmod];exact Nat.mod_le _ _
 have e:=Int.tmod_nonneg b (a:=a);have f:a<0->a.tmod b<=0:=λg=>by
  have:=Int.tmod_nonneg b (a:=-a) J;rw[Int.neg_tmod]at this;omega
 unfold mH at*
 omega
def PF:mH 0/\mH 1:=by simp[mH]
def ZR{a:Prop} [Decidable a]{b c:Int}(d:mH b)(e:mH c):mH (if a then b else c):=by split<;>assumption
def aaG{b:ak}{c a:Int}(e:¬a=0):binop .quo (.int b c) (.int b a)=G (.int b (b.wrap (c.tdiv a))):=by
 have d:Wn a 0=false:=by rw[BH];simp[e]
 unfold binop;simp[AK,d]
def afi{a:ak}{b:Int}:unop .neg (.int a b)=G (.int a (a.wrap (0-b))):=by show rN a (0-b)=_;simp
def Lf:p8 prog cx 261 (λa:Int×Int=>[M a.1,M a.2]) (λ_=>True) (λ_=>abo):=by
 refine jX [(280,Ak)] (jz 2291 [] func261) (λ_=>5) (λa e b=>by simp at b;exact aD b.1 b.2) ?_;rintro⟨f,a⟩ _ g c;simp at c;simp[f261,c]
 repeat' (refine fO (λd=>?_) (λd=>?_)<;>simp[d,c,Qc,JH,afi,UM,ZR,PF])
def II:p8 prog cx 263 (λa:Int×Int×Int=>[M a.1,M a.2.1,M a.2.2]) (λa=>mH a.2.1) (λ_=>abo):=by
 refine jX [(280,Ak)] (jz 9690595855641090246329287 [] func263) (λ_=>5) (λa f b=>by simp at b;exact aD b.1 (aD b.2.1 b.2.2)) ?_;rintro⟨h,a,f⟩ g i c;simp at c;simp[f263,c]
 repeat' (refine fO (λd=>?_) (λd=>?_)<;>simp[d,c,Qc,JH,tz,we,afj,UM,ZR,PF])
 all_goals (have e:=iC d)
 all_goals simp [aaG e,Jl e,JH,UM,afK g]
def Bp:p8 prog cx 262 (λa:Int=>[M a]) (λ_=>True) (λ_=>IU):=by
 refine jX [] (jz 261 [] func262) (λ_=>5) (λa e d=>iC d) ?_;rintro a _ f b;simp at b;simp[f262,b]
 repeat' (refine fO (λc=>?_) (λc=>?_)<;>simp[c,b])
section
attribute [-simp] size_cons
def qq{b:fh}{c:fi}{d:Int}(a:iO b c d):jB (jn b c d) b.eZ.length=true:=by refine qV λe=>?_;unfold iO at a;rw[au e]at a;simp at a
def Ii{b:fh}{a:fi}{c:Int}(d:sH b a)(e:iO b a c):(kG b a c).length<=5:=by have:=(d.l (py (qq e))).2.2;unfold kG;split;have:=Aa (mL b.eZ (jn b a c)).obj a.ig.eY 0;omega;simp
def vX(c:fh)(b:fi)(a:Nat):mY c b (a+1)=mY c b a++(if iO c b a=true then(kG c b a).map λd=>(⟨a,d⟩:fG)else []):=by unfold mY;rw[List.range_succ,cH];simp
def AC{c:fh}{b:fi}(d:sH c b):∀a,(mY c b a).length<=5*a:=by
 intro a;induction a with
 |zero=>simp[mY]
 |succ a f=>
  rw[vX,aT];split;rename_i e;have:=Ii d e;rw[aL];omega;simp;omega
def AB{d:fh}{b:fi}{f:Nat}{c:fG}(a:c∈mY d b f):iO d b c.fa=true:=by unfold mY at a;rw[cT]at a;obtain⟨h,_,a⟩:=a;split at a;rename_i e;obtain⟨g,_,rfl⟩:=List.mem_map.1 a;exact e;simp at a
def Q5:ww.Ok prog cx 164:=by refine iD [] (jz 19 [] func164) (λc=>1) (by simp[ww]) ?_;rintro⟨b,e⟩ _ f a;simp[ww]at a|-;by_cases d:0<=b<;>simp[*,f164,jB]
def CX{c:iq}(ht:c.p 164=G ww)(a:Int)(b:Nat):rl prog cx c 164 [M a,M b]=G (.bool (jB a b)):=iL ht Q5 (a,b) trivial
def FO:iF:=⟨fU×iu,λa=>[a.1.t,a.2.t],λa=>ou a.1 a.2=true/\a.1.jl.length<=1000000,λa=> .bool true,λa b c=>rfl⟩
def Xh:FO.Ok prog cx 163:=by
 refine iD [(164,ww)] (jz 35315368591455 [] func163) (λm=>1000005) (by simp[FO]) ?_;rintro⟨e,q⟩ ⟨f,k⟩ a j
 dsimp at f k
 simp[FO]at j|-;have⟨l1,l2,l3⟩:=o8 f;simp[*,f163];refine io e.jl.length J (λh a d=>jk 2 d/\d.get 0=G (eg 6 0 [e.t])/\jg a 2 0/\ka a 33 (sl (e.jl.map ke.t))/\iS a 34 e.jl.length/\iS a 35 h) ?_ ?_ J ⟨by exact⟨Y,Y,Y⟩,Y⟩;rintro h a d l n ⟨c,i,g⟩;have o:=vS f (aF l);have p:=c.ne (b:=0) J;simp[*,c.low,CX];exact c.cons _;rintro a d ⟨c,i,g⟩;simp[g,c.hp]
def zi:iF:=⟨fU×Int×Int,λa=>[a.1.t,M a.2.1,M a.2.2],λa=>ko a.1 a.2.1 a.2.2=true,λa=> .bool true,λa b c=>rfl⟩
def Rv:zi.Ok prog cx 165:=by
 refine iD [(164,ww)] (jz 606826398900554784047567 [] func165) (λh=>1) (by simp[zi]) ?_;rintro⟨g,a,f⟩ b j c;replace b:ko g a f=true:=b;simp[zi]at c|-;have hr:=xv b;have d:a=1\/a=2\/a=3\/a=4\/a=5\/a=6\/a=7\/a=8\/a=9\/a=10\/a=11\/a=12\/a=13\/a=14\/a=15\/a=16\/a=17\/a=18\/a=19\/a=20\/a=21\/a=22\/a=23:=J;rcases d with rfl|rfl|rfl|rfl|rfl|rfl|rfl|rfl|rfl|rfl|rfl|rfl|rfl|rfl|rfl|rfl|rfl|rfl|rfl|rfl|rfl|rfl|rfl
 case inr.inr.inr.inr.inr.inl|inr.inr.inr.inr.inr.inr.inl|inr.inr.inr.inr.inr.inr.inr.inl|inr.inr.inr.inr.inr.inr.inr.inr.inl|inr.inr.inr.inr.inr.inr.inr.inr.inr.inl|inr.inr.inr.inr.inr.inr.inr.inr.inr.inr.inl=>
  have hl:=mW b J;obtain⟨k,i,e⟩:=jt hl;simp[ko,e]at b;simp[*,f165,CX,fZ (gG.1 hl).1]
 all_goals
  simp[ko]at b;simp[*,f165,CX]
def wv:iF:=⟨List Int×Int,λa=>[sl (a.1.map (T.int .i64)),M a.2],λa=>a.1.length<=1000000,λa=> M (kV a.1 a.2 0),λa c b=>by simp at b;rw[jD (λ_ _ b=>iC b) b.1,b.2]⟩
def T3:wv.Ok prog cx 55:=by refine AO (tb:=⟨pt [],ht []⟩) ml kl (jz 66483 [] func55) (λ_=>1000005) (by simp[wv]) nl9 ?_;rintro⟨c,h⟩ hl b f;replace hl:c.length<=1000000:=hl;simp[wv]at f|-;simp[f55,f];refine io c.length J (λd b e=>e=hE/\kV (c.drop d) h d=kV c h 0/\ka b 0 (sl (c.map (T.int .i64)))/\iS b 1 h/\iS b 7 c.length/\iS b 8 d) ?_ ?_ J (by simp[f]);rintro d b e j k ⟨rfl,a,i⟩;rw[aJ j]at a;simp[kV]at a;simp[*];refine fO (λg=>?_) (λg=>?_);rw[au (by simpa[eq_comm]using g)]at a;simp[<-a];rw[aq (by simpa[eq_comm]using g)]at a;simp[*];rintro b e ⟨rfl,a,i⟩;rw[cr]at a;simp[kV]at a;simp[i,<-a]
def Kj{c:iq}(ht:c.p 55=G wv)(a:List Int)(b:Int)(hl:a.length<=1000000):rl prog cx c 55 [sl (a.map (T.int .i64)),M b]=G (M (kV a b 0)):=iL ht T3 (a,b) hl
def oc:iF:=⟨List Int×Int,λa=>[sl (a.1.map (T.int .i64)),M a.2],λa=>a.1.length<=1000000,λa=> .bool (decide (a.2∈a.1)),λa c b=>by simp at b;rw[jD (λ_ _ b=>iC b) b.1,b.2]⟩
def NG:oc.Ok prog cx 58:=by refine AO (tb:=⟨pt [(55,wv)],ht []⟩) ml kl (jz 19 [] func58) (λc=>1) (by simp[oc]) nl9 ?_;rintro⟨b,e⟩ hl d a;replace hl:b.length<=1000000:=hl;simp[oc]at a|-;simp[f58,a,Kj,hl,oM]
def ph{c:iq}(ht:c.p 58=G oc)(a:List Int)(b:Int)(hl:a.length<=1000000):rl prog cx c 58 [sl (a.map (T.int .i64)),M b]=G (.bool (decide (b∈a))):=iL ht NG (a,b) hl
structure EnG(w:fU)(s:iu)(t k o:Int):Prop where
 f:ou w s
 th:jB t w.eY.length
 n:ko w k o
 c:w.jl.length<=1000000
 r:∀l∈s.fT,l.gh.length<=1000000
structure EnF(w:fU)(s:iu)(t k o:Int):Prop where
 f:ou w s
 th:jB t w.eY.length
 n:ko w k o
 e:BW w s t k o
 c:w.jl.length<=1000000
 r:∀l∈s.fT,l.gh.length<=1000000
def PT(a b:fU×iu×Int×Int×Int)(c:([a.1.t,a.2.1.t,M a.2.2.1,M a.2.2.2.1,M a.2.2.2.2]:List T)=[b.1.t,b.2.1.t,M b.2.2.1,M b.2.2.2.1,M b.2.2.2.2]):a=b:=by simp at c;exact aD (fU.inj c.1) (aD (iu.inj c.2.1) (aD c.2.2.1 (aD c.2.2.2.1 c.2.2.2.2)))
def Cb:iF:=⟨fU×iu×Int×Int×Int,λa=>[a.1.t,a.2.1.t,M a.2.2.1,M a.2.2.2.1,M a.2.2.2.2],λa=>EnG a.1 a.2.1 a.2.2.1 a.2.2.2.1 a.2.2.2.2/\a.2.2.2.1≠1/\a.2.2.2.1≠17/\(qu a.2.1 a.2.2.1).jq=2,λa=> .bool (BW a.1 a.2.1 a.2.2.1 a.2.2.2.1 a.2.2.2.2),λa b c=>by rw[PT a b c]⟩
def TM:Cb.Ok prog cx 166:=by
 refine iD [(58,oc)] (jz 5868843906288553182383292937158044313155908148351 [] func166) (λn=>1) (by simp[Cb]) ?_;rintro⟨A,y,m,a,k⟩ ⟨⟨b,ht,c,h,hr⟩,i,j,f⟩ z g
 dsimp at b ht c h hr i j f
 simp[Cb]at g|-;have x:=xv c;obtain⟨l1,l2,l3⟩:=o8 b;have hc:a=2\/a=3\/a=4\/a=5\/a=12\/a=13\/(a=6\/a=7\/a=8\/a=9\/a=10\/a=11)\/(a=14\/a=15)\/(a=16\/a=18\/a=19)\/(a=20\/a=21)\/(a=22\/a=23):=J;rcases hc with rfl|rfl|rfl|rfl|rfl|rfl|hc|hc|hc|hc|hc
 case inr.inr.inr.inr.inr.inr.inl=>
  obtain⟨d,a1,a2,a3⟩:=wI b (mW c J);have hl:=hr d (aB a2);rcases hc with rfl|rfl|rfl|rfl|rfl|rfl<;>cases l:decide (d.jF=-1)<;>simp[*,f166,ph,BW]
 case inr.inr.inr.inr.inr.inr.inr.inl=>
  obtain⟨d,a1,a2,a3⟩:=xV b ht;rw[a3]at f;rcases hc with rfl|rfl<;>simp[*,f166,BW]
 case inr.inr.inr.inr.inr.inr.inr.inr.inl=>
  obtain⟨o,d,p,q,r,s,t⟩:=Fa b (qO c J);rcases hc with rfl|rfl|rfl<;>simp[*,f166,BW]
 case inr.inr.inr.inr.inr.inr.inr.inr.inr.inl=>
  obtain⟨d,a1,a2,a3⟩:=xV b (Au c J);rcases hc with rfl|rfl<;>cases l:decide (k=m)<;>simp[*,f166,BW]
 case inr.inr.inr.inr.inr.inr.inr.inr.inr.inr=>
  have e:=vh c J;rw[<-l2]at e;obtain⟨u,v,w⟩:=jt e;rcases hc with rfl|rfl<;>simp[*,f166,fZ (gG.1 e).1,BW,Hc]
 all_goals
  simp[*,f166,BW]
def qj:iF:=⟨fU×iu×Int×Int×Int,λa=>[a.1.t,a.2.1.t,M a.2.2.1,M a.2.2.2.1,M a.2.2.2.2],λa=>EnG a.1 a.2.1 a.2.2.1 a.2.2.2.1 a.2.2.2.2,λa=> .bool (BW a.1 a.2.1 a.2.2.1 a.2.2.2.1 a.2.2.2.2),λa b c=>by rw[PT a b c]⟩
def NE:qj.Ok prog cx 107:=by
 refine iD [(163,FO),(164,ww),(165,zi),(166,Cb)] (jz 4605278686335 [] func107) (λq=>1) (by simp[qj]) ?_;rintro⟨b,e,f,a,c⟩ g E n;replace g:EnG b e f a c:=g;have⟨h,ht,l,o,hr⟩:=id g;simp[qj]at n|-;have y:∀{d:iq},d.p 163=G FO->rl prog cx d 163 [b.t,e.t]=G (.bool true):=λht=>iL ht Xh (b,e) ⟨h,o⟩;have z:∀{d:iq},d.p 165=G zi->rl prog cx d 165 [b.t,M a,M c]=G (.bool true):=λht=>iL ht Rv (b,a,c) l;have⟨k,a1,a2,a3⟩:=xV h ht;simp[*,f107,CX];by_cases i:a=1;subst i;simp[BW,a3];by_cases j:a=17;subst j;have⟨r,B,s,u,v,w,x⟩:=Fa h (qO l J);cases C:decide (k.jq=4)<;>cases D:decide (k.cond=c)<;>simp[*,BW];by_cases m:k.jq=2;have A:∀{d:iq},d.p 166=G Cb->rl prog cx d 166 [b.t,e.t,M f,M a,M c]=G (.bool (BW b e f a c)):=λht=>iL ht TM (b,e,f,a,c) ⟨g,i,j,a3▸m⟩;simp[*];have:BW b e f a c=false:=by unfold BW;rw[aq i,aq j,a3,au m]
 simp[*]
def I9{a:iq}(ht:a.p 107=G qj){w:fU}{s:iu}{t k o:Int}(b:EnG w s t k o):rl prog cx a 107 [w.t,s.t,M t,M k,M o]=G (.bool (BW w s t k o)):=iL ht NE (w,s,t,k,o) b
def RX{b:iq}(ht:b.p 107=G qj){w:fU}{s:iu}{t k o:Int}(a:EnF w s t k o):rl prog cx b 107 [w.t,s.t,M t,M k,M o]=G (.bool true):=by rw[I9 ht ⟨a.f,a.th,a.n,a.c,a.r⟩,a.e]
