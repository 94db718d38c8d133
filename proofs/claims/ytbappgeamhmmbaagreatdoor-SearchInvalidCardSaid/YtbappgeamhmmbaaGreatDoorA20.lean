/- W16e -/
import Derived.Test.YtbappgeamhmmbaaGreatDoorA19
import Derived.Test.YtbappgeamhmmbaaGreatDoorA18
set_option linter.all false
set_option maxRecDepth 100000
set_option maxHeartbeats 0
namespace Go.Proofs.YtbappgeamhmmbaaGreatDoor
noncomputable section
open Go Go.TI Tryz
attribute [-simp] List.map_take List.map_drop List.map_append fj ez TI.d8 Bool.not_or Bool.not_and
attribute [simp] fh eG
def IY(b:List dY):Prop:=∀a∈b,a.mo.length<=1000000/\a.uA.length<=1000000
def Of(b:Prop)(c:T):Prop:=∃d a:Int,c= .tuple [D d,D a]/\(a=0↔b)
def qN(c:Prop)(e b:Int):Of c (.tuple [D e,D b])=(b=0↔c):=by
 unfold Of;apply propext;constructor
 ·rintro⟨f,g,d,a⟩;simp at d;rw[d.2];exact a
 ·exact λa=>⟨e,b,rfl,a⟩
def qF{a:dR}(b:jE a=true):a.cells.length<=12/\a.dW.length<=4/\a.fV.length<=2/\a.dU.length<=2/\a.io.length<=60/\a.dC.length<=4:=by
 unfold jE rG at b;simp only[az,aL]at b;omega
def DY:mW prog cx 35 (λs:j1=>[s.t]) (λs=>IY s.dI/\s.dI.length<=1000000) (λs=>Of (o9 s.ew s.dI=true)):=by
 refine iS [(68,xd),(31,pk),(67,lK),(79,sS)] (iP 9223372036871623167 [] func35) (λ_=>1000) (λk b g=>by simp at g;exact j1.inj g) ?_;rintro⟨a,c⟩ ⟨P,hl⟩ w O;simp only at P hl;simp at O;simp[f35,O];refine dV (λL=>?_) (λL=>?_)
 ·simp[qN];simp at L;unfold o9;rw[aK B];simp
 simp at L;simp[yO];refine dV (λF=>?_) (λF=>?_)
 ·simp[qN];simp at F;unfold o9;rw[show jE a=false by simpa using F];simp
 have Q:jE a=true:=by simpa using F
 have⟨ae,al,an,ap,av,aA⟩:=qF Q;simp[CP,show a.dW.length<=1000000 by omega,show a.dU.length<=1000000 by omega,show a.dC.length<=1000000 by omega,show a.cells.length<=1000000 by omega];have V:o9 a c=Fi (oK a) Qc (jO a) [] (js a) c:=by unfold o9;rw[Q,aR B];simp
 rw[V];refine fc c.length B (λf w g=>∃I i,qp f i/\Fi (oK a) Qc (jO a) [] (js a) c=Fi (oK a) Qc (jO a) (c.take f) i (c.drop f)/\gH 2 g/\g.get 0=some (Z 7 0 [j1.t ⟨a,c⟩])/\g.get 1=some (Z 7 I [i.t])/\dy w 1 (.ptr 0 0 0 0)/\dy w 4 (.ptr 1 0 0 0)/\dy w 5 (D f)) ?_ ?_ B ?_
 ·rintro f w g E U ⟨I,i,M,h,d,l,n,o,q,r⟩;have v:=d.ne (b:=0) B;have y:=d.ne (b:=1) B;have j:=P c[f] (aD E);rw[aH E,Fi]at h;have X:c.take (f+1)=c.take f++[c[f]]:=aT E;simp[l,n,o,q,r,E,v,y,d.low];generalize c[f]=e at*
  have u:=λ{N:fw} (ht:N.p 67=some lK)=>yQ ht a i e B (M.up B) j.1 j.2;have C:=λ{N:fw} (ht:N.p 79=some sS) (R:List Int) (W:R.length<=1000000)=>Pj ht c f e.dQ R B B W;have K:(g.size=0)=False:=by have:=d.sz;simp;omega
  have G:∀k b m,dT ((g.cons k).cons b) (g.size+1) m=(g.cons k).cons m:=λk b m=>F3 _ _ _ _ rfl (by have:=d.low;simp;omega);cases z:oK a i e with
  |false=>
   rw[kV z]at u;rw[z]at h;simp[l,n,o,q,r,v,y,d.low,d.hp,G,K,u,C,j.1,j.2,qN,h]
  |true=>
   rw[show jx a i e=(jO a i e,true)by unfold jx;rw[aq z]]at u;cases A:uO (c.take f) e.dQ e.mo with
   |false=>
    have:Qc (c.take f) e=false:=by unfold Qc;rw[A];rfl
    rw[this]at h;simp[l,n,o,q,r,v,y,d.low,d.hp,G,K,u,C,j.1,j.2,qN,h,A]
    |true=>
    cases H:uO (c.take f) e.dQ e.uA with
    |false=>
     have:Qc (c.take f) e=false:=by unfold Qc;rw[H];simp
     rw[this]at h;simp[l,n,o,q,r,v,y,d.low,d.hp,G,K,u,C,j.1,j.2,qN,h,A,H]
      |true=>
     have:Qc (c.take f) e=true:=by unfold Qc;rw[A,H];rfl
     rw[this,z]at h;have S:=M.step a e;rw[show jx a i e=(jO a i e,true)by unfold jx;rw[aq z]]at S;simp[l,n,o,q,r,v,y,d.low,d.hp,G,K,u,C,j.1,j.2,qN,A,H,U];have T:∀k b m x,(dT ((g.cons k).cons b) 1 m).get x=if x=1 then some m else((g.cons k).cons b).get x:=λk b m x=>mn (by simp[d.hp]) J m x;refine⟨I+1,jO a i e,S,by rw[X];simpa using h,((d.cons _).cons _).put _ _,?_,?_⟩<;>rw[T]
     ·have Y:(0=g.size+1)=False:=J;simp[l,v]
     ·simp
 ·rintro w g ⟨I,i,M,h,d,l,n,o,q,r⟩;simp[Fi]at h;simp[l,n,o,q,r,h,qN,d.hp]
 ·exact⟨1,js a,tR a B,J,⟨J,J,J⟩,J⟩
end
noncomputable section
open Go Go.TI
def HE(c:Nat)(d:fa):Prop:=∀b∈d.dW,∀a∈b.ed,0<=a/\a<c
def HE.ot{b:Nat}{c:fa}(f:HE b c){i:Int}{d:dP->dP}(g:∀a∈c.dW,∀e∈(d a).ed,0<=e/\e<b):HE b (c.ot i d):=by
 intro a hl;unfold fa.ot at hl;rcases mem_modify hl with j|⟨k,h,rfl⟩
 ·exact f a j
 ·exact g k h
def CX{f:Nat}{k:fa}(b:HE f k)(q:dR){g:Int}(ht:0<=g/\g<f)(n o r:Int):HE f (ei q k g n o r).1:=by
 have m:∀(d:Int) (c:dP->dP),(∀a,(c a).ed=a.ed\/(c a).ed=lH a.ed g\/(c a).ed=a.ed.filter λj=> !decide (j=g))->HE f (k.ot d c):=λd c h=>b.ot λa hl l i=>by
  rcases h a with e|e|e<;>rw[e]at i
  ·exact b a hl l i
  ·rcases Ch i with p|rfl
   ·exact b a hl l p
   ·exact ht
  ·exact b a hl l (List.mem_filter.1 i).1
 exact uo (P:=λj=>HE f j.1) b b (λ_ _ _=>b) (λd c h=>⟨m d c h,λ_ _=>m d c h⟩) (λ_=>b) (λ_ _=>b) (λ_=>b)
def KB{b:dR}{e:Nat}(j:b.dC.length<=e):∀(c:List dY) (a:dZ),runs b a c=true->HE e a.fk->HE e (nP b a c).fk:=by
 intro c;induction c with
 |nil=>intro a _ f;exact f
 |cons d c h=>
  intro a hr f;have hr:(oK b a d&&runs b (jO b a d) c)=true:=hr;rw[az]at hr;have g:=qr a d hr.1;show HE e (nP b (jx b a d).1 c).fk;rw[g];have⟨_,i,_⟩:=qu hr.1;have:=ff.1 i;exact h _ hr.2 (CX f b B _ _ _)
def HE.len{b:Nat}{c:fa}(d:HE b c)(e:c.El):∀a∈c.dW,a.ed.length<=b:=λa hl=>by
 have:=Kz a.ed 0 b (e a hl) (d a hl);omega
def uH(a:Nat)(b:dR):HE a (js b).fk:=by
 intro c hl;unfold js kK at hl;simp only[List.mem_map]at hl;obtain⟨_,_,rfl⟩:=hl;simp
def vJ(e:dR)(d:fa):Prop:=∀(b:Nat) (a:dP) (c:ig),d.dW[b]? =some a->e.dW[b]? =some c->a.ed≠ []->a.iy=-1/\c.rW=true
def vJ.ot{f:dR}{e:fa}(j:vJ f e){c:Int}{d:dP->dP}(k:∀a b,e.dW[c.toNat]? =some a->f.dW[c.toNat]? =some b->(d a).ed≠ []->(d a).iy=-1/\b.rW=true):vJ f (e.ot c d):=by
 intro h a b hl g hr;simp only[fa.ot,List.getElem?_modify]at hl;by_cases i:c.toNat=h
 ·subst i;simp at hl;obtain⟨m,l,rfl⟩:=hl;exact k m b l g hr
 ·exact j h a b (by simpa[i]using hl) g hr
def vJ.step{d:dR}{e:fa}{k p f x:Int}(u:∀h∈d.fV,pB d h.j2 false=true)(a:vJ d e)(c:jw d e k p f=true):vJ d (ei d e k p f x).1:=by
 unfold jw at c;simp only[az]at c;obtain⟨⟨⟨y,ht⟩,j⟩,c⟩:=c;have lk:∀{b:dP},0<=f->e.dW[f.toNat]? =some b->ls e f=b:=λi hl=>by simp[ls,vC,i,hl]
 rcases qv j with rfl|rfl|rfl|rfl|rfl|rfl|rfl|rfl|rfl|hk|hk|hk|hk
 iterate 9 exact a
 ·have i:=(ff.1 (kr j hk)).1;rcases hk with rfl|rfl|rfl|rfl|rfl|rfl
  all_goals
   simp only[xL,ei]at c|-;simp at c|-;refine a.ot λb l hl o hr=>?_;have n:=a _ b l hl o;rw[lk i hl]at c;simp[ju,vC,i,o]at j
   grind
 ·obtain⟨h,t,m⟩:=im (mG j hk);have hl:=u h (ax t);have r:∀s:Int,vJ d (e.ot h.j2 λb=>{b with iy:=s}):=λs=>a.ot λb l v q w=>by
   have n:=a _ b l v q w;unfold pB vC at hl;split at hl
   ·rename_i z g;split at g
    ·rw[q]at g;simp only[ar]at g;subst g;simp at hl;rw[n.2]at hl;simp at hl
    ·simp at g
   ·simp at hl
  rcases hk with rfl|rfl|rfl|rfl
  ·simp[ei,m];exact r (-1)
  ·simp[ei,m];exact r k
  ·simp[ei];split<;>exact a
  ·exact a
 ·rcases hk with rfl|rfl<;>exact a
 ·rcases hk with rfl|rfl<;>exact a
def Xc{a:dR}(h:∀f∈a.fV,pB a f.j2 false=true):∀(c:List dY) (b:dZ),runs a b c=true->vJ a b.fk->vJ a (nP a b c).fk:=by
 intro c;induction c with
 |nil=>intro b _ e;exact e
 |cons d c i=>
  intro b hr e;have hr:(oK a b d&&runs a (jO a b d) c)=true:=hr;rw[az]at hr;have g:=qr b d hr.1;show vJ a (nP a (jx a b d).1 c).fk;rw[g];exact i _ hr.2 (e.step h (qu hr.1).2.2)
def KL{b:dR}(a:jE b=true):∀c∈b.fV,pB b c.j2 false=true:=by
 unfold jE at a;simp only[az]at a;exact List.all_eq_true.1 a.1.2
def Bu(b a:dR):vJ a (js b).fk:=by
 intro c d e hl _ hr;have:=ax hl;simp[js,kK]at this;rw[<-this.2]at hr;simp at hr
end
noncomputable section
open Go Go.TI Tryz
attribute [-simp] List.map_take List.map_drop List.map_append fj ez TI.d8 Bool.not_or Bool.not_and
attribute [simp] fh eG
section
attribute [-simp] size_cons
def HA{c:dR}{d:dZ}{b:List dY}{a:Nat}(e:a<b.length):nP c d (b.drop a)=nP c (jx c d b[a]).1 (b.drop (a+1)):=by
 rw[aH e];rfl
def sZ:ge:=⟨j1×Nat,λa=>[a.1.t,D a.2],λa=>jE a.1.ew=true/\IY a.1.dI/\a.2<=a.1.dI.length/\a.1.dI.length<=1000,λa=>(nP a.1.ew (js a.1.ew) (a.1.dI.take a.2)).t,λa c b=>by
 simp at b;rw[j1.inj b.1,show a.2=c.2 by omega]⟩
structure kM(w:eJ):Prop where
 ok:wY w
 wb:jE w.ew=true
 sm:qp 1000 w.jA
 ev:IY w.dI
 rdt:HE 4 w.jA.fk
 rwo:vJ w.ew w.jA.fk
def lm:ge:=⟨eJ×Int,λa=>[a.1.t,D a.2],λa=>kM a.1,λa=>(nP a.1.ew a.1.jA (a.1.dI.take a.2.toNat)).t,λa c b=>by
 simp at b;rw[eJ.inj b.1,b.2]⟩
def Ae{c:fw}(ht:c.p 39=some lm)(e:lm.Ok prog cx 39)(a:eJ)(b:Int)(d:kM a):rl prog cx c 39 [a.t,D b]=some (nP a.ew a.jA (a.dI.take b.toNat)).t:=gG ht e (a,b) d
def LC:sZ.Ok prog cx 36:=by
 refine fR [(31,pk),(67,lK)] (iP 4215 [] func36) (λ_=>2000) (by simp[sZ]) ?_;rintro⟨⟨a,i⟩,k⟩ ⟨C,y,K,hl⟩ g x;simp only at C y K hl;simp[sZ]at x|-;obtain⟨G,j⟩:=x;have⟨R,S,T,U,V,W⟩:=qF C;simp[f36,G,j,CP,show a.dW.length<=1000000 by omega,show a.dU.length<=1000000 by omega,show a.dC.length<=1000000 by omega,show a.cells.length<=1000000 by omega];refine fc k B (λe g d=>∃l f,qp e f/\nP a f ((i.take k).drop e)=nP a (js a) (i.take k)/\gH 3 d/\d.get 0=some (Z 7 0 [j1.t ⟨a,i⟩])/\d.get 1=some (Z 7 0 [.agg [dw,D 0,dw,dw,dw,dw,dw]])/\d.get 2=some (Z 7 l [f.t])/\dy g 1 (D k)/\dy g 2 (.ptr 0 0 0 0)/\dy g 4 (.ptr 1 0 0 0)/\dy g 5 (.ptr 2 0 0 0)/\dy g 6 (D e)) ?_ ?_ B ?_
 ·rintro e g d I H ⟨l,f,v,h,c,m,n,o,j,q,r,s,u⟩;have L:=c.ne (b:=0) B;have M:=c.ne (b:=1) B;have N:=c.ne (b:=2) B;have A:e<i.length:=B;have z:=y i[e] (aD A);rw[HA dp,List.getElem_take]at h;have E:=λ{O:fw} (ht:O.p 67=some lK)=>yQ ht a f i[e] B (v.up B) z.1 z.2;simp[m,o,j,q,r,s,u,L,M,N,c.low,A,E,I,H];have Q:2<d.size:=by have:=c.sz;omega
  refine⟨l+1,(jx a f i[e]).1,v.step a _,h,c.put _ _,?_,?_,?_⟩<;>rw[mn c.hp Q]<;>simp[m,n]
 ·rintro g d ⟨l,f,v,h,c,m,n,o,j,q,r,s,u⟩;rw[List.drop_eq_nil_of_le dp]at h;have P:1<d.size:=by have:=c.sz;omega
  have F:∀w,(dT d 1 w).get 1=some w:=λw=>by rw[mn c.hp P];simp
  have h:f=_:=h;rw[<-h];simp[j,q,r,s,u,o,n,F,c.hp]
 ·exact⟨1,js a,tR a B,J,by exact⟨J,J,J⟩,by simp[j]⟩
def xj:lm.Ok prog cx 39:=by
 refine fR [(67,lK)] (iP 262263 [] func39) (λ_=>2000) (by simp[lm]) ?_;rintro⟨f,l⟩ k h E;replace k:kM f:=k;simp[lm]at E|-;obtain⟨L,i⟩:=E;have⟨T,U,V,W,X,ae⟩:=qF k.wb;have hl:=k.ok.len;have I:=k.sm;have G:=k.ev;obtain⟨f,R,y,e⟩:=f;simp[f39,L,i];simp only at T U V W X ae hl I G;generalize av:min l.toNat e.length=x;refine fc x B (λd h c=>∃w g,qp (1000+d) g/\nP f g ((e.take l.toNat).drop d)=nP f y (e.take l.toNat)/\gH 3 c/\c.get 0=some (Z 15 0 [eJ.t ⟨f,R,y,e⟩])/\c.get 1=some (Z 7 0 [.agg [dw,D 0,dw,dw,dw,dw,dw]])/\c.get 2=some (Z 7 w [g.t])/\dy h 1 (D l)/\dy h 2 (.ptr 0 0 0 0)/\dy h 4 (.ptr 1 0 0 0)/\dy h 5 (.ptr 2 0 0 0)/\dy h 6 (D d)) ?_ ?_ B ?_
 ·rintro d h c ap M ⟨w,g,z,j,a,m,n,o,i,q,r,s,u⟩;have O:=a.ne (b:=0) B;have P:=a.ne (b:=1) B;have Q:=a.ne (b:=2) B;have H:d<e.length:=B;have v:(d:Int)<l:=B;have F:=G e[d] (aD H);rw[HA dp,List.getElem_take]at j;have K:=λ{S:fw} (ht:S.p 67=some lK)=>yQ ht f g e[d] B (z.up B) F.1 F.2;simp[m,o,i,q,r,s,u,O,P,Q,a.low,H,K,v,M];have an:2<c.size:=by have:=a.sz;omega
  refine⟨w+1,(jx f g e[d]).1,(z.step f _).up B,j,a.put _ _,?_,?_,?_⟩<;>rw[mn a.hp an]<;>simp[m,n]
 ·rintro h c ⟨w,g,z,j,a,m,n,o,i,q,r,s,u⟩;rw[List.drop_eq_nil_of_le dp]at j;have al:1<c.size:=by have:=a.sz;omega
  have C:∀A,(dT c 1 A).get 1=some A:=λA=>by rw[mn a.hp al];simp
  have j:g=_:=j;rw[<-j];by_cases v:(x:Int)<l
  ·have N:¬x<e.length:=B;simp[i,q,r,s,u,m,o,n,v,N,C,a.hp]
  ·simp[i,q,r,s,u,o,n,v,C,a.hp]
 ·exact⟨1,y,I,J,by exact⟨J,J,J⟩,by simp[i]⟩
structure IBg where
 (L:List Int) (b:Nat)
def T0(a:IBg)(d:List T)(c:H):Prop:=d=[.ptr a.b 0 0 0,je.t]/\uD 0 a.L a.b c/\gH 0 c/\okB a.L
structure FC(s:dZ):Prop where
 n:s.fk.dW.length=3/\s.fk.done.length=1/\s.fk.dC.length=4/\s.cells.length=5/\s.dU.length=1/\s.count.length=4
 c:∀c∈s.count,0<=c/\c<=4
 r:∀l∈s.fk.dW,l.ed.length<=1/\∀x∈l.ed,0<=x/\x<4
def Ij(a:IBg)(g:List T)(e:H)(f:T)(c:H):Prop:=∃d:dZ,f=d.t/\FC d/\uD 0 a.L a.b c/\Sm a.b e c
def PI{e:Type}{f:e->T}{R:T->T->Prop}{P:e->Prop}:∀{c:List T},(∀b∈c,∃a,R b (f a)/\P a)->∃d:List e,ir R c (d.map f)/\∀a∈d,P a:=by
 intro c;induction c with
 |nil=>intro _;exact⟨[],.nil,J⟩
 |cons b c k=>
  intro g;have⟨a,hr,j⟩:=g b J;have⟨d,hl,h⟩:=k λb i=>g b (by simp[i]);exact⟨a::d,.cons hr hl,by simpa[j]using h⟩
def y8.fin{w:List Int}{p:Nat}{g n:H}{bC:Nat}{d:AM}(b:y8 w p g bC d n)(bs:gH 0 g)(L:p<g.size)(k:iI)(av:List T):xK g (.agg [d.c 0,D d.tx,d.c 2,d.c 3,d.c 4,d.c 5,d.c 6]) (dT n (g.size+1) k) (Ij ⟨w,p⟩ av g):=by
 have I:=λe=>dF b.rb k e;have l:∀(f u:Nat),d.F[f]? =some (d.c f,some (u,d.E f))->Gr (dT n (g.size+1) k) (d.c f) u (d.E f)/\∀e,dM (d.c f)=some e->g.size<=e:=λf u M=>by
  have G:=λe (o:dM (d.c f)=some e)=>b.fp e (b.s.A9 (ax M) o);exact⟨(b.s.gr f M).mono λe o=>by rw[I,ao (by have:=G e o;omega)],λe o=>by have:=G e o;omega⟩
 obtain⟨an,a0,p0⟩:=PI (f:=dP.t) (R:=FT (dT n (g.size+1) k) (λe=>g.size<=e) 3) (P:=λm=>m.ed.length<=1/\∀a∈m.ed,0<=a/\a<4) λi j=>by
  obtain⟨X,b6,rfl,bk⟩:=b.pr 0 i j;rcases bk with rfl|⟨a,v,rfl,r,bH,bN,bS,bT⟩
  ·exact⟨⟨X,[]⟩,.inr (.inr ⟨_,_,rfl,.cons (fZ ..) (.cons (jb ..) .nil),rfl⟩),J⟩
  ·have bl:a≠g.size+1:=λh=>by rw[h,b.rb]at r;simp[mD]at r
   have bi:Gr (dT n (g.size+1) k) (.arr a 0 0 1 false) 1 ([v].map (T.int .i64)):= .inr ⟨a,0,0,true,[D v],rfl,by rw[I,ao bl];exact r,rfl⟩;exact⟨⟨X,[v]⟩,.inr (.inr ⟨_,_,rfl,.cons (fZ ..) (.cons (bi.ft (d:=1) (λe h=>by simp at h;omega) (.cons (fZ ..) .nil)) .nil),rfl⟩),dp⟩
 obtain⟨ae,x,_⟩:=uc (f:=T.bool) (P:=λ_=>True) λi j=>by
  have⟨a,h⟩:=b.pr 2 i j;exact⟨a,h,trivial⟩
 obtain⟨ap,y,_⟩:=uc (f:=dE.t) (P:=λ_=>True) λi j=>by
  have⟨a,h⟩:=b.pr 3 i j;exact⟨a,h,trivial⟩
 obtain⟨Y,z,_⟩:=uc (f:=T.int .i64) (P:=λ_=>True) λi j=>by
  have⟨a,h,_⟩:=b.pr 4 i j;exact⟨a,h,trivial⟩
 obtain⟨al,A,_⟩:=uc (f:=T.int .i64) (P:=λ_=>True) λi j=>by
  have⟨a,h,_⟩:=b.pr 5 i j;exact⟨a,h,trivial⟩
 obtain⟨K,C,p6⟩:=uc (f:=T.int .i64) (P:=λW=>0<=W/\W<=4) λi j=>by
  have⟨a,h,bu⟩:=b.pr 6 i j;exact⟨a,h,bu rfl⟩
 have l0:=b.ln 0;have l2:=b.ln 2;have l3:=b.ln 3;have l4:=b.ln 4;have l5:=b.ln 5;have l6:=b.ln 6;have lk:=a0.length;rw[x]at l2;rw[y]at l3;rw[z]at l4;rw[A]at l5;rw[C]at l6;simp[YM]at l0 l2 l3 l4 l5 l6 lk;have⟨bn,aA⟩:=l 0 2 rfl;have⟨N,aE⟩:=l 2 1 rfl;have⟨O,aN⟩:=l 3 3 rfl;have⟨Q,aX⟩:=l 4 1 rfl;have⟨S,a7⟩:=l 5 1 rfl;have⟨U,a8⟩:=l 6 1 rfl;rw[x]at N;rw[y]at O;rw[z]at Q;rw[A]at S;rw[C]at U;have q:∀m:List Int,ir (FT (dT n (g.size+1) k) (λe=>g.size<=e) 3) (m.map (T.int .i64)) (m.map (T.int .i64)):=λm=>wx λa=>fZ ..;exact(b.tw.put b.rb J (by simpa using L) k).cut bs L (FT.top (V:=λe=>g.size<=e) (d:=4) B (λ_ h=>h) (.cons (bn.ft aA a0) (.cons (fZ ..) (.cons (N.ft aE (wx λa=>KH ..)) (.cons (O.ft aN (wx λa=> .inr (.inr ⟨a.cs,a.cs,rfl,.cons (fZ ..) (.cons (fZ ..) (.cons (KH ..) .nil)),rfl⟩))) (.cons (Q.ft aX (q _)) (.cons (S.ft a7 (q _)) (.cons (U.ft a8 (q _)) .nil)))))))) λbz bB=>
  ⟨⟨⟨an,d.tx,ae,ap⟩,Y,al,K⟩,rfl,⟨⟨dq,l2,l3,l4,l5,l6⟩,p6,p0⟩,bB,bz⟩
def ae0:(jr IBg T0 Ij).Ok prog cx 28:=by
 refine p9 (tb:=⟨pt [],ht [(64,ko),(31,jr dR Im Ic),(65,jr Sb pw nH)]⟩) iB gW (iP 39027670543808336620727472465805308762228731 [(10,[(1,4)]),(11,[(2,5)]),(27,[(1,3)]),(31,[(1,4)])] func28) (λ_ _=>10) (λy a A eO=>by obtain⟨rfl,_⟩:=eO;simp[f28]) ?_;rintro⟨L,r⟩ _ A ⟨rfl,e2,fC,bz⟩ n fs;simp only at e2 bz;simp at fs;obtain⟨h,eF⟩:=fs;have I:=e2.tp.lt;have hj:(r=A.size)=False:=dp;have hn:(r=A.size+1)=False:=dp;have bH:=((r7.refl fC.hr (e2.eq (gu A r))).cons (Z 6 0 [je.t])).cons mD;simp[f28,h,eF,hj,hn];generalize dm:((TI.hr A).cons _).cons _=X;replace bH:r7 0 L r (TI.hr A) X:=by rw[<-dm];exact bH
 have hW:X.size=A.size+2:=by rw[<-dm];simp[size_cons]
 have gd:X.get (A.size+1)=some mD:=by rw[<-dm];simp[mD,size_cons]
 clear dm;refine iD aaf J je ⟨rfl,bH.w.ok,dt,dt,dt,dt⟩ ?_;rintro _ bi ⟨e4,e5,e6,e7,e8,e9,rfl,p,hQ,aA,eC,dv,c1⟩;have hV:=dv.sz;have eS:=dv.low;simp[eS,(aA.gr 0 rfl).fg,(aA.gr 2 rfl).fg,(aA.gr 3 rfl).fg,(aA.gr 4 rfl).fg,(aA.gr 5 rfl).fg,(aA.gr 6 rfl).fg,(aA.gr 6 rfl).len (cx:=cx)];have ho:∀G,Fp bi p G->G≠r:=λG ae U=>by have:=eC G ae;omega
 generalize b9:bi.cons _=c7;have eU:gH 0 c7:=by rw[<-b9];exact gH.cons ⟨dv.hp,eS,aw _⟩ _
 have bl:∀G,c7.get G=if G=bi.size then some (Z 7 1 [.agg [e4,D (-1),e5,e6,e7,e8,e9]])else bi.get G:=λG=>by rw[<-b9,dO]
 have gg:c7.size=bi.size+1:=by rw[<-b9,size_cons]
 clear b9;have e0:=λG (ae:Fp bi p G)=>aA.fp G ae;obtain⟨er,ef⟩:∃er,y8 L r A bi.size er c7:=by
  refine⟨⟨1,-1,λq=>if q=0 then e4 else if q=2 then e5 else if q=3 then e6 else if q=4 then e7 else if q=5 then e8 else e9,λq=>if q=0 then(List.replicate 3 ()).map xW else if q=2 then [false].map T.bool else if q=3 then(zg 4).map dE.t else if q=4 then [0,1,0,0,0].map (T.int .i64)else if q=6 then(List.replicate 4 0).map (T.int .i64)else(List.replicate 1 0).map (T.int .i64)⟩,?_,⟨⟨eU,dp,λG ae dn=>?_,?_⟩,?_⟩,?_,?_,λq=>?_,λq e Q=>?_⟩
  ·exact aA.copy eU (by rw[bl,aq rfl];rfl) λG ae=>by rw[bl,ao (by have:=e0 G ae;omega)]
  ·have ae:G<A.size:=by simpa using ae
   exact(bl G).trans ((ao B).trans ((c1 G B).trans (bH.w.get G (by simpa using ae) dn)))
  ·exact bH.w.tp.eq ((bl r).trans ((ao B).trans (c1 r B)))
  ·exact bH.g.eq ((bl r).trans ((ao B).trans (c1 r B)))
  ·intro G ae;rcases(aA.copy eU (by rw[bl,aq rfl];rfl) λG ae=>by rw[bl,ao (by have:=e0 G ae;omega)]:m9 c7 bi.size 7 1 _)with⟨_,gM,_,_⟩;rcases ae with rfl|⟨x,eR,v,hd,U⟩
   ·omega
   ·rw[gM]at eR;simp only[ar]at eR;subst eR;have:=eC G (.inr ⟨_,aA.get,v,hd,U⟩);omega
  ·exact(bl _).trans ((ao B).trans ((c1 _ B).trans gd))
  ·unfold YM;by_cases c4:q=0
   ·subst c4;rfl
   by_cases bs:q=2
   ·subst bs;rfl
   by_cases c6:q=3
   ·subst c6;rfl
   by_cases fE:q=4
   ·subst fE;rfl
   by_cases fL:q=6
   ·subst fL;rfl
   simp[c4,bs,c6,fE,fL]
  ·unfold RX;by_cases c4:q=0
   ·subst c4;simp at Q;subst Q;exact⟨_,_,rfl,.inl rfl⟩
   by_cases bs:q=2
   ·subst bs;simp at Q;subst Q;exact⟨_,rfl⟩
   by_cases c6:q=3
   ·subst c6;simp only[ao (show¬(3:Nat)=0 by decide),ao (show¬(3:Nat)=2 by decide),aq]at Q|-;obtain⟨ca,_,rfl⟩:=List.mem_map.1 Q;exact⟨ca,rfl⟩
   simp only[ao c4,ao bs,ao c6]at Q|-;have:∃l:List Int,e∈l.map (T.int .i64)/\(q=6->l=List.replicate 4 0):=by
    split at Q
    ·exact⟨_,Q,λU=>by omega⟩
    split at Q
    ·exact⟨_,Q,λ_=>rfl⟩
    ·exact⟨_,Q,λU=>by omega⟩
   obtain⟨l,hl,cp⟩:=this;obtain⟨V,dn,rfl⟩:=List.mem_map.1 hl;refine⟨V,rfl,λU=>?_⟩;rw[cp U]at dn;simp at dn;omega
 clear aA eC dv c1 eS ho bl gg e0 bH gd;have gg:A.size+2<=bi.size:=B;generalize bi.size=M at*
 refine fc 4 B (λy n C=>(∃d,y8 L r A M d C)/\dy n 0 (.ptr r 0 0 0)/\dy n 4 (.ptr (A.size+1) 0 0 0)/\dy n 5 (.ptr M 0 0 0)/\dy n 15 (D 4)/\dy n 16 (D y)) ?_ ?_ B ⟨⟨er,ef⟩,by simp[h,show(je.dC.length:Int)=4 from rfl]⟩
 ·clear ef h eF;rintro y n C bS bn ⟨⟨d,b⟩,h,i,k,al,an⟩;have gV:(y:Int)<4:=B;obtain⟨q,cb,N,fB,bu,W⟩:=(b.cons (Z 1 0 [D 2,D 2,D 2,D 2,D 0,D 1,D 3,D 4,D 5])).tw.next (tb:=⟨pt [],ht [(64,ko),(31,jr dR Im Ic),(65,jr Sb pw nH)]⟩) J bz 9 B B;have hX:=b.Mo;have dd:=(b.cons _).tape W (bu.g.le (aw _)) I;have fi:=(W.get C.size B).trans (by rw[dO,aq rfl]);obtain⟨fS,fe⟩:∃fS:Int,∀fB,([D 2,D 2,D 2,D 2,D 0,D 1,D 3,D 4,D 5]:List T)[q]'fB= D fS:=by
   rcases(by omega:q=0\/q=1\/q=2\/q=3\/q=4\/q=5\/q=6\/q=7\/q=8)with rfl|rfl|rfl|rfl|rfl|rfl|rfl|rfl|rfl<;>exact⟨_,λ_=>rfl⟩
  have hb:q<9:=B;simp[h,i,k,al,an,gV,N,fi,fe,hb];refine lf (λn hG=>cb=hG/\(∃e1,dy n 7 (D e1))/\dy n 0 (.ptr r 0 0 0)/\dy n 4 (.ptr (A.size+1) 0 0 0)/\dy n 5 (.ptr M 0 0 0)/\dy n 6 (D y)/\dy n 15 (D 4)/\dy n 16 (D y)) (λS=>by simp[h,i,k,al,an]) (λS=>by simp[h,i,k,al,an]) ?_;clear N fi fe bu W h i k al an;rintro n _ ⟨rfl,⟨e1,eL⟩,h,i,k,cp,al,an⟩;have p:=dd.s.get;simp[AM.F]at p;obtain⟨b6,de,ea,di,eb,_,bk,aN,O,aX,ca,rfl⟩:=dd.ld 3 rfl (te:=Al) rfl (j:=y) bS;have bC:=dd.st I 3 rfl bk O y (dE.t ⟨e1,0,false⟩) rfl ⟨_,rfl⟩;simp[h,i,k,cp,eL,al,an,p,aN,O,aX];clear dd p aN O aX bk;generalize d.MQ 3 _=et at bC;generalize dT cb _ _=ec at*
  refine dV (λS=>?_) (λS=>?_)
  ·obtain⟨bB,Y,N,eN,bN,bT⟩:=bC.tw.next (tb:=⟨pt [],ht [(64,ko),(31,jr dR Im Ic),(65,jr Sb pw nH)]⟩) J bz 3 B B;have aE:=bC.tape bT (bN.g.le (aw _)) I;have a7:=bC.s.get;have a8:=aE.s.get;simp[AM.F]at a7 a8;obtain⟨b6,de,ea,di,eb,_,bk,aN,O,aX,V,rfl,_⟩:=aE.ld 6 rfl (te:=Eu) rfl (j:=y) bS;have gm:binop .add (D 1) (D (bB:Int))=some (D (1+bB)):=yT rfl B B;have sv:em ec Y M=true:=eQ (a8.trans a7.symm);have R:=aE.st I 6 rfl bk O y (D (1+bB)) rfl ⟨_,rfl,λ_=>by omega⟩;generalize gP:dT Y b6 _=hH at R;generalize et.MQ 6 _=hK at R;obtain⟨hg,hI,gw,hN,gk,hy⟩:=R.tw.next (tb:=⟨pt [],ht [(64,ko),(31,jr dR Im Ic),(65,jr Sb pw nH)]⟩) J bz 4 B B;have eh:=R.tape hy (gk.g.le (aw _)) I;have eD:=R.s.get;have eE:=eh.s.get;simp[AM.F]at eD eE;obtain⟨hJ,hL,hR,hM,hS,_,gQ,gv,fl,gy,ca,rfl⟩:=eh.ld 3 rfl (te:=Al) rfl (j:=y) bS;have hA:em hH hI M=true:=eQ (eE.trans eD.symm);have gj:=eh.st I 3 rfl gQ fl y (dE.t ⟨ca.iv,ca.cond,decide ((hg:Int)=3)⟩) rfl ⟨_,rfl⟩;simp[h,i,k,cp,eL,al,an,a7,a8,N,gm,aN,O,aX,sv,gP,eD,gw,eE,gv,fl,gy,hA,bn];exact⟨_,gj⟩
  ·simp[h,i,k,cp,eL,al,an,bn];exact⟨et,bC⟩
 clear ef h eF;rintro n C ⟨⟨d,b⟩,h,i,k,al,an⟩;have p:=b.s.get;simp[AM.F]at p;have l0:=b.ln 0;simp[h,i,k,al,an,p,(b.s.gr 0 rfl).len (cx:=cx),l0,YM];refine fc 3 B (λy n C=>(∃d,y8 L r A M d C)/\dy n 0 (.ptr r 0 0 0)/\dy n 4 (.ptr (A.size+1) 0 0 0)/\dy n 5 (.ptr M 0 0 0)/\dy n 63 (D 3)/\dy n 64 (D y)) ?_ ?_ B ⟨⟨d,b⟩,by simp[h,i,k]⟩
 ·clear b p l0 h i k al an;rintro y n C bS bn ⟨⟨d,b⟩,h,i,k,ap,av⟩;have gS:(y:Int)<3:=B;have p:=b.s.get;simp[AM.F]at p;simp[h,i,k,ap,av,gS,p];obtain⟨K,b8,fo⟩:=uc (f:=T.int .i64) (P:=λV=>0<=V/\V<=4) λe Q=>by
   obtain⟨V,eV,bs⟩:=b.pr 6 e Q;exact⟨V,eV,bs rfl⟩
  have cL:K.length=4:=by rw[<-aG (f:=T.int .i64),<-b8];exact b.ln 6
  have b7:=b.s.gr 6 rfl;rw[b8]at b7;have ds:dM (d.c 6)≠some r:=λU=>by have:=b.fp r (b.s.A9 (f:=(d.c 6,some (1,d.E 6))) (by simp[AM.F]) U);omega
  refine iD JV J ⟨L,r,0,d.c 0,D d.tx,d.c 2,d.c 3,d.c 4,d.c 5,d.c 6,K⟩ ⟨rfl,b.tw.g,b.tw.w.ok,bz,dq,b7,ds,by simp[(b.s.gr 0 rfl).fg,(b.s.gr 2 rfl).fg,(b.s.gr 3 rfl).fg,(b.s.gr 4 rfl).fg,(b.s.gr 5 rfl).fg,(b.s.gr 6 rfl).fg]⟩ ?_;rintro _ cb ⟨u,rfl,fY,e3,t1,W⟩;replace b:=b.tape W t1 I;simp only[cL]at e3;clear b7 ds b8 cL fo p t1 W;simp[h,i,k,ap,av];refine dV (λS=>?_) (λS=>?_)
  ·simp[h,i,k,ap,av,bn];exact⟨d,b⟩
  obtain⟨m,rfl⟩:∃m:Nat,u=m:=⟨u.toNat,by simp at S;omega⟩;have hc:m<4:=B;clear S fY e3;by_cases fA:y=2
  ·subst fA;have fb:binop .add (D 2) (D 1)=some (D 3):=by simpa using bn
   obtain⟨bB,Y,N,eN,bN,bT⟩:=b.tw.next (tb:=⟨pt [],ht [(64,ko),(31,jr dR Im Ic),(65,jr Sb pw nH)]⟩) J bz 2 B B;replace b:=b.tape bT (bN.g.le (aw _)) I;simp[h,i,k,ap,av,N];have eo:=b.cons (Z 1 0 [D m]);obtain⟨b6,de,ea,di,eb,_,bk,aN,O,aX,o,eX,rfl,eP⟩:=b.ld 0 rfl (te:=FK) rfl (j:=2) dt;obtain⟨gn,gz,hB,gE,hD,_,fv,eu,dk,eA,hs,hP,rfl,hO⟩:=eo.ld 0 rfl (te:=FK) rfl (j:=2) dt;have p:=b.s.get;have fm:=eo.s.get;simp[AM.F]at p fm;refine dV (λS=>?_) (λS=>?_)
   ·have hq:¬Fp (Y.cons (Z 1 0 [D m])) M Y.size:=λU=>by
     have e:(Y.cons (Z 1 0 [D m])).get M=Y.get M:=by rw[dO,ao (by have:=b.s.lt;omega)]
     rw[iL e]at U;have:=b.s.fp _ U;omega
    have R:=eo.st I 0 rfl fv dk 2 (.agg [D hs,.arr Y.size 0 0 1 false]) rfl ⟨_,_,rfl,.inr ⟨Y.size,m,rfl,by rw[dO,aq rfl],B,B,hq,by have:=b.Mo;omega⟩⟩;have hh:(M=Y.size)=False:=by have:=b.s.lt;simp;omega
    simp[h,i,k,ap,av,p,fm,aN,O,aX,eu,dk,eA,hh,fb];exact⟨_,R⟩
   ·have R:=b.st I 0 rfl bk O 2 (.agg [D m,eX]) rfl ⟨_,_,rfl,eP⟩;simp[h,i,k,ap,av,p,aN,O,aX,fb];exact⟨_,R⟩
  ·obtain⟨b6,de,ea,di,eb,_,bk,aN,O,aX,o,eX,rfl,eP⟩:=b.ld 0 rfl (te:=FK) rfl (j:=y) bS;obtain⟨gn,gz,hB,gE,hD,_,fv,eu,dk,eA,ca,rfl⟩:=b.ld 3 rfl (te:=Al) rfl (j:=m) hc;have p:=b.s.get;simp[AM.F]at p;have R:=b.st I 0 rfl bk O y (.agg [D m,eX]) rfl ⟨_,_,rfl,eP⟩;simp[h,i,k,ap,av,fA,show¬(y:Int)=2 by omega,p,eu,dk,eA];refine dV (λS=>?_) (λS=>?_)
   ·simp[h,i,k,ap,av,bn];exact⟨d,b⟩
   ·simp[h,i,k,ap,av,p,aN,O,aX,bn];exact⟨_,R⟩
 clear b p l0 h i k al an;rintro n C ⟨⟨d,b⟩,h,i,k,ap,av⟩;have c9:=λ{C:H} {d:AM} (b:y8 L r A M d C)=>b.tw.next (tb:=⟨pt [],ht [(64,ko),(31,jr dR Im Ic),(65,jr Sb pw nH)]⟩) J bz;have gi:∀{C:H} {d:AM},y8 L r A M d C->∃K:List Int,pw ⟨L,r,0,d.c 0,D d.tx,d.c 2,d.c 3,d.c 4,d.c 5,d.c 6,K⟩ [.ptr r 0 0 0,.agg [d.c 0,D d.tx,d.c 2,d.c 3,d.c 4,d.c 5,d.c 6]] C/\K.length=4:=λ{C d} b=>by
  obtain⟨K,b8,fo⟩:=uc (f:=T.int .i64) (P:=λV=>0<=V/\V<=4) λe Q=>by
   obtain⟨V,eV,bs⟩:=b.pr 6 e Q;exact⟨V,eV,bs rfl⟩
  have cL:K.length=4:=by rw[<-aG (f:=T.int .i64),<-b8];exact b.ln 6
  have b7:=b.s.gr 6 rfl;rw[b8]at b7;have ds:dM (d.c 6)≠some r:=λU=>by have:=b.fp r (b.s.A9 (f:=(d.c 6,some (1,d.E 6))) (by simp[AM.F]) U);omega
  exact⟨K,⟨rfl,b.tw.g,b.tw.w.ok,bz,dq,b7,ds,by simp[(b.s.gr 0 rfl).fg,(b.s.gr 2 rfl).fg,(b.s.gr 3 rfl).fg,(b.s.gr 4 rfl).fg,(b.s.gr 5 rfl).fg,(b.s.gr 6 rfl).fg]⟩,cL⟩
 obtain⟨hf,cb,N,ha,bu,W⟩:=c9 b 3 B B;replace b:=b.tape W (bu.g.le (aw _)) I;simp[h,i,k,ap,av,N];clear N bu W;refine lf (λn C=>(∃d,y8 L r A M d C)/\dy n 0 (.ptr r 0 0 0)/\dy n 4 (.ptr (A.size+1) 0 0 0)/\dy n 5 (.ptr M 0 0 0)) (λS=>?_) (λS=>?_) ?_
 ·have p:=b.s.get;simp[AM.F]at p;obtain⟨K,eO,cL⟩:=gi b;simp[h,i,k,p];refine iD JV J _ eO ?_;rintro _ ec ⟨u,rfl,fY,e3,t1,W⟩;replace b:=b.tape W t1 I;have p:=b.s.get;simp[AM.F]at p;have bC:=b.tx I u;simp[h,i,k,p];exact⟨_,bC⟩
 ·simp[h,i,k];exact⟨d,b⟩
 clear b h i k ap av;rintro n C ⟨⟨d,b⟩,h,i,k⟩;obtain⟨hf,cb,N,ha,bu,W⟩:=c9 b 3 B B;replace b:=b.tape W (bu.g.le (aw _)) I;simp[h,i,k,N];clear N bu W;refine lf (λn C=>(∃d,y8 L r A M d C)/\dy n 0 (.ptr r 0 0 0)/\dy n 4 (.ptr (A.size+1) 0 0 0)/\dy n 5 (.ptr M 0 0 0)) (λS=>?_) (λS=>?_) ?_
 ·have p:=b.s.get;simp[AM.F]at p;obtain⟨b6,de,ea,di,eb,_,bk,aN,O,aX,o,rfl⟩:=b.ld 2 rfl (te:=Zl) rfl (j:=0) dt;replace b:=b.st I 2 rfl bk O 0 (.bool true) rfl ⟨_,rfl⟩;generalize b9:dT cb b6 _=ec at b;generalize d.MQ 2 _=et at b;obtain⟨bB,Y,N,eN,bN,bT⟩:=c9 b 3 B B;have aE:=b.tape bT (bN.g.le (aw _)) I;have a7:=b.s.get;have a8:=aE.s.get;simp[AM.F]at a7 a8;obtain⟨gp,gB,hC,gI,hF,_,eM,ey,ce,eB,V,rfl,_⟩:=aE.ld 5 rfl (te:=FD) rfl (j:=0) dt;have sv:em ec Y M=true:=eQ (a8.trans a7.symm);have R:=aE.st I 5 rfl eM ce 0 (D bB) rfl ⟨_,rfl,λU=>by omega⟩;simp[h,i,k,p,aN,O,aX,b9,a7,N,a8,ey,ce,eB,sv];exact⟨_,R⟩
 ·simp[h,i,k];exact⟨d,b⟩
 clear b h i k;rintro n C ⟨⟨d,b⟩,h,i,k⟩;have p:=b.s.get;simp[AM.F]at p;have l4:=b.ln 4;simp[h,i,k,p,(b.s.gr 4 rfl).len (cx:=cx),l4,YM];refine fc 5 B (λy n C=>(∃d,y8 L r A M d C)/\dy n 0 (.ptr r 0 0 0)/\dy n 4 (.ptr (A.size+1) 0 0 0)/\dy n 5 (.ptr M 0 0 0)/\dy n 142 (D 5)/\dy n 143 (D y)) ?_ ?_ B ⟨⟨d,b⟩,by simp[h,i,k]⟩
 ·clear b p l4 h i k;rintro y n C bS bn ⟨⟨d,b⟩,h,i,k,eH,eI⟩;have gZ:(y:Int)<5:=B;obtain⟨bB,Y,N,eN,bN,bT⟩:=c9 b 3 B B;have aE:=b.tape bT (bN.g.le (aw _)) I;have a7:=b.s.get;have a8:=aE.s.get;simp[AM.F]at a7 a8;obtain⟨gp,gB,hC,gI,hF,_,eM,ey,ce,eB,V,rfl,_⟩:=aE.ld 4 rfl (te:=FD) rfl (j:=y) bS;have sv:em C Y M=true:=eQ (a8.trans a7.symm);have R:=aE.st I 4 rfl eM ce y (D bB) rfl ⟨_,rfl,λU=>by omega⟩;simp[h,i,k,eH,eI,gZ,a7,N,a8,ey,ce,eB,sv,bn];exact⟨_,R⟩
 clear b p l4 h i k;rintro n C ⟨⟨d,b⟩,h,i,k,eH,eI⟩;have p:=b.s.get;have eW:=b.rb;unfold mD at eW;simp[AM.F]at p;have hv:=λz=>(dF eW z (A.size+1)).trans (aq rfl);simp[h,i,k,eH,eI,p,eW,hv];exact b.fin fC I _ _
end
def Ux(a:Nat)(d:H)(e:T)(g:List (List Int)):Prop:=∃c,Gr d e 1 c/\dM e≠some a/\ir (λb f=>Gr d b 1 (f.map (T.int .i64))/\dM b≠some a) c g
structure IEv where
 (L:List Int) (b p:Nat) (s:dZ) (w:dR) (rv:T) (rs:List (List Int))
def Nc(a:IEv)(d:List T)(c:H):Prop:=d=[.ptr a.b 0 0 0,a.s.t,a.w.t,a.rv]/\uD a.p a.L a.b c/\gH 0 c/\okB a.L/\Ux a.b c a.rv a.rs/\a.rs.length=4/\(∀e∈a.rs,e.length<=1000)/\a.s.cells.length=5/\1<=a.s.dU.length/\a.s.fk.dC.length<=98/\a.w.cells.length=5
def EH(a:IEv)(g:List T)(e:H)(f:T)(d:H):Prop:=∃c:dY,f=c.t/\c.mo.length<=1000/\c.uA.length<=1000/\uD (a.p+1) a.L a.b d/\Sm a.b e d
def WJ{a:fw}(ht:a.p 112=some tT):rl prog cx a 112 []=some (sl (vh.map (T.int .i64))):=gG ht QT () trivial
def LI{i:Nat}(c:i<43):∃a:Int,vh[i]? =some a/\1<=a/\a<=23:=by
 have b:∀a∈vh,1<=a/\a<=23:=dt;exact⟨vh[i]'c,ay _,b _ (aD _)⟩
abbrev LU(f c d g e:Int)(a b:T):T:= .agg [D f,D c,D d,D g,D e,a,b]
structure P5(p:Nat)(L:List Int)(b:Nat)(h:H)(s:dZ)(w:dR)(h':H)(x:T):Prop where
 tw:r7 p L b (TI.hr h) h'
 g0:h'.get h.size=some (Z 7 0 [s.t])
 g1:h'.get (h.size+1)=some (Z 6 0 [w.t])
 g2:h'.get (h.size+2)=some (Z 7 0 [LU 0 0 0 0 0 dw dw])
 g3:∃ver,h'.get (h.size+3)=some (Z 7 ver [x])
def P5.call{m h:Nat}{d:List Int}{a:Nat}{e:H}{i:dZ}{j:dR}{g f:H}{k:T}(b:P5 m d a e i j g k)(c:Sm a g f)(n:uD h d a f)(p:a<e.size):P5 h d a e i j f k:=by
 have⟨o,l⟩:=b.g3;exact⟨b.tw.call c n,(c.get _ B).trans b.g0,(c.get _ B).trans b.g1,(c.get _ B).trans b.g2,o,(c.get _ B).trans l⟩
theorem P5.put{k:Nat}{h:List Int}{e:Nat}{d:H}{l:dZ}{m:dR}{j:H}{x:T}(a:P5 k h e d l m j x)(o:e<d.size)(f:Nat)(g:T):P5 k h e d l m (dT j (d.size+3) (Z 7 f [g])) g:=by
 have⟨p,i⟩:=a.g3;have b:=λc=>dF i (Z 7 f [g]) c;exact⟨a.tw.put i J (by simpa using o) _,by rw[b,ao B];exact a.g0,by rw[b,ao B];exact a.g1,by rw[b,ao B];exact a.g2,f,by rw[b,aq rfl]⟩
def P5.rd{g:Nat}{d:List Int}{e:Nat}{a:H}{h:dZ}{i:dR}{c:H}{j:T}(f:P5 g d e a h i c j)(b:iI):(dT c (a.size+2) b).get (a.size+2)=some b:=(dF f.g2 b (a.size+2)).trans (aq rfl)
def Ds(a:T):Prop:=a.fg=true/\a.cells=[a]/\∃b:List Int,b.length<=1000/\∀d c,FT d c 1 a (sl (b.map (T.int .i64)))
theorem Ds.nil:Ds dw:=⟨rfl,rfl,[],J,λb a=>jb ..⟩
def Ds.sl{a:List Int}(b:a.length<=1000):Ds (TI.sl (a.map (T.int .i64))):=⟨J,J,a,b,λb d=>oy _ _ _ λe c=>by obtain⟨f,_,rfl⟩:=List.mem_map.1 c;simp⟩
def aeZ:(jr IEv Nc EH).Ok prog cx 66:=by
 refine p9 (tb:=⟨pt [(112,tT)],ht [(64,ko),(113,jr HI zr rQ),(114,jr HG zq rO),(115,jr AL tU ta)]⟩) iB gW (iP 618988909108621684749897583 [(3,[(6,11),(7,11),(5,14),(11,14)])] func66) (λ_ _=>5) (λi a b bu=>by obtain⟨rfl,_⟩:=bu;simp[f66]) ?_;rintro⟨Q,h,M,s,S,bk,eI⟩ _ b ⟨rfl,cp,eF,aA,et,e4,bS,e5,eu,ey,e8⟩ ae ef;simp only at cp aA et e4 bS e5 eu ey e8;simp at ef;obtain⟨o,bn,bs,p⟩:=ef;have v:=cp.tp.lt;have fl:(h=b.size)=False:=dp;have fm:(h=b.size+1)=False:=dp;have fo:(h=b.size+2)=False:=dp;have eN:=(((r7.refl eF.hr (cp.eq (gu b h))).cons (Z 7 0 [s.t])).cons (Z 6 0 [S.t])).cons (Z 7 0 [.agg [D 0,D 0,D 0,D 0,D 0,dw,dw]]);obtain⟨c,eR,di,gm,eO,N⟩:=eN.next (tb:=⟨pt [(112,tT)],ht [(64,ko),(113,jr HI zr rQ),(114,jr HG zq rO),(115,jr AL tU ta)]⟩) J aA 4 B B;have c7:=λ{bH:H} {M:Nat} (S:r7 M Q h (TI.hr b) bH)=>S.next (tb:=⟨pt [(112,tT)],ht [(64,ko),(113,jr HI zr rQ),(114,jr HG zq rO),(115,jr AL tU ta)]⟩) J aA;obtain⟨k,eS,dk,gk,eP,aE⟩:=c7 eO vh.length dt dt;obtain⟨j,dn,e9,fb⟩:=LI (i:=k) (by have:vh.length=43:=rfl;omega);obtain⟨m,bl,dm,eo,c4,ca⟩:=c7 eP 6 B B;obtain⟨ce,e7⟩:∃x:Int,(c:Int)*6=x:=⟨_,rfl⟩;obtain⟨cb,e6⟩:∃x:Int,ce+m=x:=⟨_,rfl⟩;have eE:binop .mul (D (c:Int)) (D 6)=some (D ce):=by rw[dA,<-jv,jD B B,e7]
 have dd:binop .add (D ce) (D (m:Int))=some (D cb):=yT e6 B B;have gj:eR.size=b.size+3:=by rw[N.size];rfl
 have c6:bl.size=b.size+3:=by rw[ca.size,aE.size,gj]
 have eL:em eR eS (b.size+3)=true:=iV (kZ _ B);have eM:em eS bl (b.size+3)=true:=iV (kZ _ (by rw[aE.size];omega));have eD:=c4.w.ok.low;rw[c6]at eD;have G:∀A,A<b.size+3->A≠h->bl.get A=((((TI.hr b).cons (Z 7 0 [s.t])).cons (Z 6 0 [S.t])).cons (Z 7 0 [LU 0 0 0 0 0 dw dw])).get A:=λA bN bi=>(ca.get A bi).trans ((aE.get A bi).trans (N.get A bi));have R:P5 (M+1) Q h b s S (bl.cons (Z 7 1 [LU c j 0 0 cb dw dw])) (LU c j 0 0 cb dw dw):=
  ⟨(c4.le B).cons _,by rw[dO,ao B,G _ B B];simp,by rw[dO,ao B,G _ B B];simp,by rw[dO,ao B,G _ B B];simp,1,by rw[dO,aq c6.symm]⟩
 simp[f66,o,bn,bs,p,fl,fm,fo,di,WJ,dk,dm,dn,eE,dd,c6,eL,eM,eD];clear di dk dm N aE ca eN eO eP c4 eE dd G dn eL eM;generalize bl.cons _=gp at*
 refine lf (λae bH=>(∃O,P5 (M+1) Q h b s S bH (LU c j 0 0 O dw dw))/\dy ae 0 (.ptr h 0 0 0)/\dy ae 3 bk/\dy ae 5 (.ptr b.size 0 0 0)/\dy ae 6 (.ptr (b.size+1) 0 0 0)/\dy ae 8 (.ptr (b.size+2) 0 0 0)/\dy ae 9 (D c)/\dy ae 11 (.ptr (b.size+3) 0 0 0)) (λe3=>?_) (λe3=>?_) ?_
 ·obtain⟨P,n⟩:=R.g3;simp[o,bn,bs,p,n];exact⟨_,R.put v _ _⟩
 ·simp[o,bn,bs,p];exact⟨_,R⟩
 clear R o bn bs p;rintro ae u ⟨⟨O,R⟩,o,p,E,F,I,K,C⟩;obtain⟨P,n⟩:=R.g3;simp[o,p,E,F,I,K,C,n];refine iD aaj J ⟨Q,h,M+1,j,c⟩ ⟨rfl,R.tw.g,R.tw.w.ok,aA,dq,dq,e9,fb⟩ ?_;rintro _ fY ⟨y,rfl,gn,b9,t1,N⟩;have l:=R.call N t1 v;clear R n;obtain⟨P,n⟩:=l.g3;simp[o,p,E,F,I,K,C,n];replace l:=l.put v (P+1) (LU c j y 0 O dw dw);generalize dT fY _ _=aN at*
 clear N t1 n;obtain⟨P,n⟩:=l.g3;have eb:=l.g0;simp[o,p,E,F,I,K,C,n,eb];refine iD aae J ⟨Q,h,M+1,s,j,y⟩ ⟨rfl,l.tw.g,l.tw.w.ok,aA,λq=>by have:=b9 (.inl q);simp only;omega,eu,ey⟩ ?_;rintro _ gd ⟨r,rfl,t1,N⟩;replace l:=l.call N t1 v;clear n eb;obtain⟨P,n⟩:=l.g3;simp[o,p,E,F,I,K,C,n];replace l:=l.put v (P+1) (LU c j y r O dw dw);generalize dT gd _ _=gg at*
 clear N t1 n;obtain⟨P,n⟩:=l.g3;have bB:=l.g1;obtain⟨al,e1,fs,de⟩:=et;have eh:c<al.length:=by rw[de.length];omega
 obtain⟨b8,er,ds,dv⟩:∃b8∈eI,Gr b al[c] 1 (b8.map (T.int .i64))/\dM al[c]≠some h:=de.GE (aD eh);have c9:∀u,r7 (M+1) Q h (TI.hr b) u->∃ap av P aX U,∃(L:List Int) (aN:H),kw u qd bk c=some (.val (.ptr ap av c 0) u)/\u.get ap=some ⟨1,av,P,aX,false,U⟩/\U[c]? =some al[c]/\hl prog cx ⟨pt [(112,tT)],ht [(64,ko),(113,jr HI zr rQ),(114,jr HG zq rO),(115,jr AL tU ta)]⟩ 115 [.ptr h 0 0 0,al[c]] u=some (sl (L.map (T.int .i64)),aN)/\L.length<=1000/\uD (M+1) Q h aN/\Sm h u aN:=λu cL=>by
  have eH:∀(r:T) U,Gr b r 1 U->dM r≠some h->Gr u r 1 U:=λr U ea bi=>ea.mono λA bN=>by
   obtain⟨_,_,_,_,q,_⟩:=ea.box bN;exact(cL.w.get A (H.ej q) λe=>bi (by rw[<-e];exact bN)).trans (gu b A)
  obtain⟨ap,av,P,aX,U,_,eV,e0,eW⟩:=(eH bk al e1 fs).IG (te:=qd) rfl eh;have bu:tU ⟨Q,h,M+1,al[c],b8⟩ [.ptr h 0 0 0,al[c]] u:=⟨rfl,eH _ _ ds dv,dv,cL.g,cL.w.ok,aA,bS _ er⟩;obtain⟨_,aN,e,q⟩:=D9 (tb:=⟨pt [(112,tT)],ht [(64,ko),(113,jr HI zr rQ),(114,jr HG zq rO),(115,jr AL tU ta)]⟩) J Vh ⟨_,bu⟩;obtain⟨L,rfl,fv,fA,fB⟩:=q _ bu;exact⟨ap,av,P,aX,U,L,aN,eV,e0,eW,e,aO fv (bS _ er),fA,fB⟩
 have eU:(decide (j=5)=false/\(decide (j=3)||decide (j=4))=true/\∃m:Nat,jM y=some m/\m<S.cells.length)\/(decide (j=5)=false/\(decide (j=3)||decide (j=4))=false)\/(decide (j=5)=true):=by
  by_cases X:j=5
  ·exact .inr (.inr (aR X))
  ·by_cases an:j=3\/j=4
   ·exact .inl ⟨aK X,by simpa using an,y.toNat,ee (b9 an).1,by have:=b9 an;omega⟩
   ·exact .inr (.inl ⟨aK X,dp⟩)
 have fin:∀{u:H} {d f:T} (z:iI),P5 (M+1) Q h b s S u (LU c j y r O d f)->Ds d->Ds f->xK b (LU c j y r O d f) (dT u (b.size+2) z) (EH ⟨Q,h,M,s,S,bk,eI⟩ [.ptr h 0 0 0,s.t,S.t,bk] b):=λz i ⟨_,_,L,l1,l2⟩ ⟨_,_,b7,fe,fi⟩=>
  (i.tw.put i.g2 J (by simpa using v) z).cut eF v (FT.top (V:=λh=>b.size<=h) (d:=1) B (λ_ q=>q) (.cons (fZ ..) (.cons (fZ ..) (.cons (fZ ..) (.cons (fZ ..) (.cons (fZ ..) (.cons (l2 ..) (.cons (fi ..) .nil)))))))) λfC fE=>⟨⟨c,j,y,r,O,L,b7⟩,rfl,l1,fe,fE,fC⟩
 obtain⟨ap,av,fS,aX,U,L,gi,a1,a2,a3,a4,l1,t1,N⟩:=c9 gg l.tw;have bT:=l.call N t1 v;obtain⟨c1,bC⟩:=bT.g3;have a7:=λz=>(dF bC z (b.size+3)).trans (aq rfl);have bz:=ds.cells;rcases eU with⟨X,an,m,e2,eo⟩|⟨X,an⟩|X;simp[o,p,E,F,I,K,C,n,bB,X,an,e2,eo];refine dV (λa8=>?_) (λa8=>?_);rotate_left
 iterate 2
  ·have W:=bT.put v (c1+1) (LU c j y r O dw (sl (L.map (T.int .i64))));simp[o,p,E,F,I,K,C,n,bB,X,an];refine dV (λa8=>?_) (λa8=>?_)
   ·simp[o,p,E,F,I,K,C,a1,a2,a3,a4,bC,bz,a7,W.g2,W.rd];exact fin _ W Ds.nil (Ds.sl l1)
   ·simp[o,p,E,F,I,K,C,n,l.g2,l.rd];exact fin _ l Ds.nil Ds.nil
 iterate 2
  ·have W:=bT.put v (c1+1) (LU c j y r O (sl (L.map (T.int .i64))) dw);simp[o,p,E,F,I,K,C,n,bB,X,a1,a2,a3,a4,bC,bz,a7];obtain⟨ap,av,fS,aX,U,b7,gw,a1,a2,a3,a4,l2,t2,aE⟩:=c9 _ W.tw;have eA:=W.call aE t2 v;obtain⟨fL,ec⟩:=eA.g3;have eX:=λz=>(dF ec z (b.size+3)).trans (aq rfl);have b6:=eA.put v (fL+1) (LU c j y r O (sl (L.map (T.int .i64))) (sl (b7.map (T.int .i64))));replace a7:=a7 (Z 7 (c1+1) [LU c j y r O (sl (L.map (T.int .i64))) dw]);generalize dT gi _ _=gv at*
   refine dV (λa8=>?_) (λa8=>?_)
   ·have eB:=b6.g2;have eC:=b6.rd;simp at eB eC;simp[o,p,E,F,I,K,C,a1,a2,a3,a4,ec,bz,eX,eB,eC];exact fin _ b6 (Ds.sl l1) (Ds.sl l2)
   ·simp[o,p,E,F,I,K,C,a7,W.g2,W.rd];exact fin _ W (Ds.sl l1) Ds.nil
section
def PL{j k:Type}{f:j->k->Prop}:∀{b:List j} {a:List k},b.length=a.length->(∀(e:Nat) c d,b[e]? =some c->a[e]? =some d->f c d)->ir f b a:=by
 intro b;induction b with
 |nil=>intro a h _;cases a with|nil=>exact .nil|cons i a=>simp at h
 |cons p b n=>
  intro a h g;cases a with
  |nil=>simp at h
  |cons i a=>exact .cons (g 0 p i rfl rfl) (n (by simpa using h) λe c d l m=>g (e+1) c d (by simpa using l) (by simpa using m))
structure Eo(lo bv:Nat)(h:H)(rs:List (List Int))(o:T)(xs:List T)(es:List T)(ver:Nat):Prop where
 gb:h.get bv=some ⟨1,0,ver,true,false,es⟩
 Mp:lo<=bv
 len:es.length=rs.length
 gr:∀(i:Nat) (e:T) (ns:List Int),es[i]? =some e->rs[i]? =some ns->Gr h e 1 (ns.map (T.int .i64))
 sep:∀(i:Nat) (e:T) (c:Nat),es[i]? =some e->dM e=some c->lo<=c/\c≠bv/\dM o≠some c/\∀(j:Nat) (e':T),es[j]? =some e'->dM e'=some c->i=j
 go:Gr h o 7 xs
 ob:∀c,dM o=some c->lo<=c/\c≠bv
variable {lo bv:Nat}{h h':H}{rs:List (List Int)}{o:T}{xs es:List T}{ver:Nat}
def Eo.lt(e:Eo lo bv h rs o xs es ver){a:Nat}{b:T}{c:Nat}(d:es[a]? =some b)(f:dM b=some c):c<h.size:=by
 have g:a<rs.length:=by rw[<-e.len];exact(List.getElem?_eq_some_iff.1 d).1
 have⟨_,_,_,_,i,_⟩:=(e.gr a b rs[a] d (ay g)).box f;exact H.ej i
def Eo.olt(c:Eo lo bv h rs o xs es ver){a:Nat}(b:dM o=some a):a<h.size:=by
 have⟨_,_,_,_,d,_⟩:=c.go.box b;exact H.ej d
def Eo.jV(a:Eo lo bv h rs o xs es ver)(e:∀b,lo<=b->b<h.size->h'.get b=h.get b):Eo lo bv h' rs o xs es ver:=
 ⟨(e _ a.Mp (H.ej a.gb)).trans a.gb,a.Mp,a.len,λg f j d i=>(a.gr g f j d i).mono λb c=>e b (a.sep g f b d c).1 (a.lt d c),a.sep,a.go.mono λb c=>e b (a.ob b c).1 (a.olt c),a.ob⟩
def Eo.rda(a:Eo lo bv h rs o xs es ver){b:Nat}(j:b<lo):Ux b h (.arr bv 0 0 rs.length false) rs:=
 ⟨es,by rw[<-a.len];exact .inr ⟨bv,0,ver,true,es,rfl,a.gb,aJ⟩,by have:=a.Mp;simp;omega,PL a.len λe c g d f=>⟨a.gr e c g d f,λi=>by have:=(a.sep e c b d i).1;omega⟩⟩
def _root_.Go.TI.Gr.lj{h:H}{a:T}{e:Nat}{es:List T}(c:Gr h a e es)(b:T):TI.lj a 0 [b]=some b:=by
 rcases c with⟨rfl,_⟩|⟨f,i,ver,j,xs,rfl,_⟩<;>exact H6 λg d=>by cases d
def Eo.app(a:Eo lo bv h rs o xs es ver){b:Nat}{f:T}{v:List Int}(g:es[b]? =some f)(M:rs[b]? =some v){n:Int}{u:T}{s:H}(x:Xt h f 1 ((v++[n]).map (T.int .i64)) u s)(L:lo<=h.size)(E:Nat):
 Eo lo bv (dT s bv ⟨1,0,E,true,false,es.set b u⟩) (rs.set b (v++[n])) o xs (es.set b u) E/\s.get bv=some ⟨1,0,ver,true,false,es⟩:=by
 obtain⟨K,w,q,N⟩:=x;have G:=H.ej a.gb;have t:b<es.length:=(List.getElem?_eq_some_iff.1 g).1;have r:s.get bv=some ⟨1,0,ver,true,false,es⟩:=(w bv G λe=>(a.sep b f bv g e).2.1 rfl).trans a.gb;refine⟨⟨(dF r _ bv).trans (aq rfl),a.Mp,by simp[a.len],λl p I c j=>?_,λl p i c d=>?_,a.go.mono λi d=>?_,a.ob⟩,r⟩
 ·by_cases e:b=l
  ·subst e;rw[cQ t]at c;rw[cQ (by rw[<-a.len];exact t)]at j;cases c;cases j;refine K.mono λi d=>?_;rw[dF r,ao];rintro rfl;rcases q _ d with k|k
   ·exact(a.sep b f _ g k).2.1 rfl
   ·omega
  ·rw[cR e]at c;rw[cR e]at j;refine(a.gr l p I c j).mono λi d=>?_;have m:=a.sep l p i c d;rw[dF r,ao m.2.1];exact w i (a.lt c d) λk=>e (m.2.2.2 b f g k).symm
 ·by_cases e:b=l
  ·subst e;rw[cQ t]at c;cases c;refine⟨?_,?_,?_,λl p c y=>?_⟩
   ·rcases q _ d with k|k
    ·exact(a.sep b f _ g k).1
    ·omega
   ·rcases q _ d with k|k
    ·exact(a.sep b f _ g k).2.1
    ·omega
   ·rcases q _ d with k|k
    ·exact(a.sep b f _ g k).2.2.1
    ·intro z;have:=a.olt z;omega
   ·by_cases e:b=l
    ·exact e
    ·rw[cR e]at c;rcases q _ d with k|k
     ·exact(a.sep b f _ g k).2.2.2 l p c y
     ·have:=a.lt c y;omega
  ·rw[cR e]at c;have m:=a.sep l p i c d;refine⟨m.1,m.2.1,m.2.2.1,λk F j A=>?_⟩;by_cases C:b=k
   ·subst C;rw[cQ t]at j;cases j;rcases q _ A with z|z
    ·exact m.2.2.2 b f g z
    ·have:=a.lt c d;omega
   ·rw[cR C]at j;exact m.2.2.2 k F j A
 ·rw[dF r,ao (a.ob i d).2];exact w i (a.olt d) λk=>(a.sep b f i g k).2.2.1 d
def Eo.out(a:Eo lo bv h rs o xs es ver){j:T}{n:List T}{f:H}(t:Xt h o 7 n j f)(v:lo<=h.size):Eo lo bv f rs j n es ver:=by
 obtain⟨u,k,l,w⟩:=t;have p:=H.ej a.gb;refine⟨(k bv p λs=>(a.ob bv s).2 rfl).trans a.gb,a.Mp,a.len,λg e r d f=>(a.gr g e r d f).mono λc b=>k c (a.lt d b) (a.sep g e c d b).2.2.1,λg e c d b=>?_,u,λc b=>?_⟩
 ·have i:=a.sep g e c d b;refine⟨i.1,i.2.1,λq=>?_,i.2.2.2⟩;rcases l _ q with z|z
  ·exact i.2.2.1 z
  ·have:=a.lt d b;omega
 ·rcases l _ b with z|z
  ·exact a.ob c z
  ·exact⟨B,B⟩
end
section
attribute [-simp] size_cons
structure IPl where
 (L:List Int) (b:Nat) (s:dZ) (w:dR) (n:Nat) (early:Bool)
def TS(a:IPl)(d:List T)(c:H):Prop:=d=[.ptr a.b 0 0 0,a.s.t,a.w.t,D a.n,.bool a.early]/\uD 0 a.L a.b c/\gH 0 c/\okB a.L/\a.L.length<=400/\a.n<=16/\a.w.dC.length=4/\a.w.cells.length=5/\a.w.fV.length<=1000/\mT a.w a.s=true/\qp 1000 a.s/\1<=a.s.dU.length
def Nj(a:IPl)(g:List T)(e:H)(f:T)(d:H):Prop:=∃c:List dY,f=sl (c.map dY.t)/\c.length<=a.n/\IY c/\runs a.w a.s c=true/\uD 0 a.L a.b d/\Sm a.b e d
def afQ(a:dY)(d:H)(c:Nat->Prop):FT d c 2 a.t a.t:=by
 have e:∀b:List Int,FT d c 1 (sl (b.map (T.int .i64))) (sl (b.map (T.int .i64))):=λb=>oy _ _ _ λg f=>by obtain⟨h,_,rfl⟩:=List.mem_map.1 f;simp
 exact .inr (.inr ⟨a.cs,a.cs,rfl,.cons (fZ ..) (.cons (fZ ..) (.cons (fZ ..) (.cons (fZ ..) (.cons (fZ ..) (.cons (e _) (.cons (e _) .nil)))))),rfl⟩)
def Qu{a:H}(g:gH 0 a)(b c d:iI):(∀e,e<a.size->(dT ((a.cons b).cons c) (a.size+1) d).get e=a.get e)/\(dT ((a.cons b).cons c) (a.size+1) d).get a.size=some b/\(dT ((a.cons b).cons c) (a.size+1) d).get (a.size+1)=some d/\(dT ((a.cons b).cons c) (a.size+1) d).size=a.size+2:=by
 have f:=mn ((g.cons b).cons c).hp (show a.size+1<_ by simp[size_cons]);refine⟨λe h=>?_,?_,?_,by simp[size_cons]⟩
 ·rw[f,ao B,dO,ao (by rw[size_cons];omega),dO,ao B]
 ·rw[f,ao B,dO,ao (by rw[size_cons];omega),dO,aq rfl]
 ·rw[f,aq rfl]
def r7.two{h:Nat}{f:List Int}{b:Nat}{e a:H}(i:r7 h f b e a)(k:b<e.size)(g d j:iI):r7 h f b e (dT ((a.cons g).cons d) (a.size+1) j):=
 ((i.cons g).cons d).put (c:=a.size+1) (x:=d) (by rw[dO,aq (by rw[size_cons])]) (by have:=i.w.size;omega) k j
def PlC(a:dZ):Prop:=a.cells.length=5/\1<=a.dU.length/\a.fk.dC.length<=98/\a.count.length=4
def YQ(h:Nat)(d:List Int)(e:Nat)(a:H)(n:dR)(k:dZ)(i:Nat)(g:T)(o:List T)(b:H):Prop:=∃c f m l,r7 h d e (TI.hr a) b/\b.get a.size=some (Z 7 l [k.t])/\b.get (a.size+1)=some (Z 6 0 [n.t])/\Eo (a.size+2) (a.size+2) b c g o f m/\a.size+3<=b.size/\c.length=4/\∀j∈c,j.length<=i
def aeX:(jr IPl TS Nj).Ok prog cx 29:=by
 refine p9 (tb:=⟨pt [(67,lK)],ht [(64,ko),(66,jr IEv Nc EH)]⟩) iB gW (iP 155347004713968546154151135 [(14,[(2,15)])] func29) (λ_ _=>1000) (λi a e fm=>by obtain⟨rfl,_⟩:=fm;simp[f29]) ?_;rintro⟨L,b,q,h,n,early⟩ _ e ⟨rfl,eD,eW,ef,e9,fl,eu,eP,fv,c4,eO,fe⟩ r b6;simp only at eD ef e9 fl eu eP fv c4 eO fe;simp at b6;obtain⟨v,aE,bz,z,W⟩:=b6;have aN:=eD.tp.lt;have fE:(b=e.size)=False:=dp;have fL:(b=e.size+1)=False:=dp;simp[f29,v,aE,bz,z,W,fE,fL,eu];have de:q.count.length=4:=by
  unfold mT at c4;simp only[az,aL]at c4;rw[c4.2,eu]
 generalize bT:(((TI.hr e).cons _).cons _).cons _=bS;have gz:bS.size=e.size+3:=by rw[<-bT];rfl
 have eI:r7 0 L b (TI.hr e) bS:=by rw[<-bT];exact(((r7.refl eW.hr (eD.eq (gu e b))).cons _).cons _).cons _
 have V:bS.get e.size=some (Z 7 0 [q.t]):=by rw[<-bT];simp
 have aA:bS.get (e.size+1)=some (Z 6 0 [h.t]):=by rw[<-bT];simp
 have eH:Eo (e.size+2) (e.size+2) bS [[],[],[],[]] dw [] [dw,dw,dw,dw] 0:=by
  rw[<-bT];refine⟨J,au _,rfl,λi u gv aE bz=>?_,λi u c aE bz=>?_,Gr.nil _ _,J⟩
  ·rcases i with _|_|_|_|i<;>simp at aE bz<;>subst aE bz<;>exact Gr.nil _ _
  ·rcases i with _|_|_|_|i<;>simp at aE<;>subst aE<;>simp at bz
 clear bT;have dd:YQ 0 L b e h q 0 dw [] bS:=⟨_,_,_,_,eI,V,aA,eH,B,rfl,J⟩;refine fc 4 B (λj r y=>YQ 0 L b e h q j dw [] y/\dy r 0 (.ptr b 0 0 0)/\dy r 3 (D n)/\dy r 4 (.bool early)/\dy r 6 (.ptr e.size 0 0 0)/\dy r 7 (.ptr (e.size+1) 0 0 0)/\dy r 11 dw/\dy r 12 (.arr (e.size+2) 0 0 4 false)/\dy r 22 (D 4)/\dy r 23 (D j)) ?_ ?_ B ⟨dd,by simp[v,z,W]⟩
 ·rintro j r y fi c1 ⟨⟨A,s,K,ae,ap,V,aA,an,bi,T,O⟩,v,z,W,H,I,E,G,bB,bC⟩;have di:j<q.count.length:=B;have c6:(j:Int)<4:=B;have gi:(b=e.size+2)=False:=dp;have eF:YQ 0 L b e h q (j+1) dw [] y:=⟨A,s,K,ae,ap,V,aA,an,bi,T,λR hr=>Nat.le_succ_of_le (O R hr)⟩;cases early with
  |false=>
   simp[V,v,z,W,H,I,E,G,bB,bC,c6,c1,eF]
  |true=>
  by_cases eL:1<q.count[j]
  ·obtain⟨m,eX,eb,gm,bk,dk⟩:=ap.next (tb:=⟨pt [(67,lK)],ht [(64,ko),(66,jr IEv Nc EH)]⟩) J ef 3 B B;simp[V,v,z,W,H,I,E,G,bB,bC,c6,di,c1,eL,eb];have Q:Eo (e.size+2) (e.size+2) eX A dw [] s K:=an.jV λc o _=>dk.get c B;have bl:=(dk.get e.size B).trans V;have bn:=(dk.get (e.size+1) B).trans aA;have bH:=dk.size;refine dV (λb7=>?_) (λb7=>?_)
   ·have S:j<s.length:=by rw[Q.len];omega
    have X:j<A.length:=B;obtain⟨c9,a8,cp,eB,eC,M⟩:=(Xt.refl (Q.gr j s[j] A[j] (ay S) (ay X)) bk.w.ok).R0 1 (by have:=O A[j] (aD X);omega);obtain⟨P,bu⟩:=Q.app (ay S) (ay X) M B (K+1);have de:=(Q.gr j s[j] A[j] (ay S) (ay X)).cells;have b9:∀c,dM s[j]=some c->e.size+2<=c:=λc o=>(Q.sep j s[j] c (ay S) o).1;have dv:=((bk.le (aw _)).xt M (λc aX=>by have:=b9 c aX;simp;omega) (by simpa using aN)).put bu J (by simpa using aN) ⟨1,0,K+1,true,false,s.set j c9⟩;have F:∀c,c<e.size+2->(dT a8 (e.size+2) ⟨1,0,K+1,true,false,s.set j c9⟩).get c=eX.get c:=λc aX=>by
     rw[dF bu,ao B];exact M.2.1 c B λo=>by have:=b9 c o;omega
    have ds:=M.2.2.2.sz;simp[Q.gb,v,z,W,H,I,E,G,bB,bC,c6,fi,S,c1,de,cp,eB,eC,bu,(Q.gr j s[j] A[j] (ay S) (ay X)).lj];exact⟨_,_,_,ae,dv,(F _ B).trans bl,(F _ B).trans bn,P,dp,by simp[T],λR hr=>by
     rcases bZ hr with k|rfl
     ·exact Nat.le_succ_of_le (O R k)
     ·have:=O A[j] (aD X);simp;omega⟩
   ·simp[v,z,W,H,I,E,G,bB,bC,c6,c1];exact⟨A,s,K,ae,bk.le (aw _),bl,bn,Q,B,T,λR hr=>Nat.le_succ_of_le (O R hr)⟩
  ·simp[V,v,z,W,H,I,E,G,bB,bC,c6,di,c1,eL,eF]
 clear dd eH V aA eI v aE bz z W;have eM:=c4;unfold mT lY at eM;simp only[az,aL]at eM;rintro r y ⟨dd,v,z,W,H,I,E,G,bB,bC⟩;simp[v,z,W,H,I,E,G,bB,bC];refine PR 401 (λj r y=>(∃U l,YQ j L b e h (nP h q l) (j+4) U (l.map dY.t) y/\runs h q l=true/\l.length<=n/\IY l/\qp (1000+j) (nP h q l)/\PlC (nP h q l)/\dy r 11 U)/\dy r 0 (.ptr b 0 0 0)/\dy r 3 (D n)/\dy r 6 (.ptr e.size 0 0 0)/\dy r 7 (.ptr (e.size+1) 0 0 0)/\dy r 12 (.arr (e.size+2) 0 0 4 false)) ?_ B (aw _) ⟨⟨dw,[],dd,rfl,aw _,λu fb=>by simp at fb,eO,?_,by simp[E]⟩,by simp[v,z,H,I,G]⟩
 ·rintro j r y gj ⟨⟨U,l,⟨A,s,K,ae,ap,V,aA,an,bi,T,O⟩,eo,eN,eh,er,b8,E⟩,v,z,H,I,G⟩;obtain⟨gy,gw,e6,gn⟩:=ap.g;simp[v,z,H,I,E,G,an.go.len,e6];refine dV (λb7=>?_) (λb7=>?_)
  ·simp at b7;have gk:j<L.length:=B;simp[v,z,H,I,E,G,V,aA];refine iD aeZ J ⟨L,b,j,nP h q l,h,.arr (e.size+2) 0 0 4 false,A⟩ ⟨rfl,ap.g,ap.w.ok,ef,by have:=an.rda (b:=b) B;rw[T]at this;exact this,T,λR hr=>by have:=O R hr;omega,b8.1,b8.2.1,b8.2.2.1,eP⟩ ?_;rintro _ al ⟨u,rfl,e5,eb,t1,ca⟩;simp only at e5 eb t1 ca;have bk:=ap.call ca t1;have Q:Eo (e.size+2) (e.size+2) al A U (l.map dY.t) s K:=an.jV λc o _=>ca.get c B;have bl:=(ca.get e.size B).trans V;have bn:=(ca.get (e.size+1) B).trans aA;have bH:=ca.size;have cL:=λ{tb:fw} (ht:tb.p 67=some lK)=>yQ ht h (nP h q l) u B (er.up B) B B;have eS:(e.size=al.size)=False:=dp;have eU:(e.size+1=al.size)=False:=dp;have eR:=bk.w.ok.low;have ea:=λc7=>bk.two (by simpa using aN) (Z 7 1 [u.t]) (Z 7 0 [.agg [dw,D 0,dw,dw,dw,dw,dw]]) (Z 7 1 [c7]);have N:=λc7=>Qu bk.w.ok (Z 7 1 [u.t]) (Z 7 0 [.agg [dw,D 0,dw,dw,dw,dw,dw]]) (Z 7 1 [c7]);cases o:oK h (nP h q l) u with
   |false=>
    rw[kV o]at cL;simp[v,z,H,I,E,G,bl,bn,eS,eU,eR,cL];obtain⟨F,a7,cb,ds⟩:=N sa.t;exact⟨B,U,l,⟨A,s,K,ae,ea _,(F _ B).trans bl,(F _ B).trans bn,Q.jV λc _ o=>F c o,by rw[ds];omega,T,λR hr=>by have:=O R hr;omega⟩,eo,eN,eh,er.up B,b8,rfl⟩
   |true=>
    have et:jx h (nP h q l) u=(jO h (nP h q l) u,true):=by unfold jx;rw[aq o]
    rw[et]at cL;simp[v,z,H,I,E,G,bl,bn,eS,eU,eR,cL];have av:=ea (jO h (nP h q l) u).t;obtain⟨F,a7,cb,dn⟩:=N (jO h (nP h q l) u).t;have bs:=(F e.size B).trans bl;have bN:=(F (e.size+1) B).trans bn;have P:Eo (e.size+2) (e.size+2) _ A U (l.map dY.t) s K:=Q.jV λc _ o=>F c o;clear cL ea N F;generalize dT _ _ _=a8 at*
    simp[v,z,H,I,E,G,a7];have e1:YQ (j+1) L b e h (nP h q l) (j+4) U (l.map dY.t) a8:=⟨A,s,K,ae,av,bs,bN,P,B,T,O⟩;refine lf (λr dm=>(YQ (j+1) L b e h (nP h q l) (j+1+4) U (l.map dY.t) dm/\al.size+2<=dm.size/\dm.get al.size=some (Z 7 1 [u.t])/\dm.get (al.size+1)=some (Z 7 1 [(jO h (nP h q l) u).t]))/\dy r 0 (.ptr b 0 0 0)/\dy r 3 (D n)/\dy r 6 (.ptr e.size 0 0 0)/\dy r 7 (.ptr (e.size+1) 0 0 0)/\dy r 11 U/\dy r 12 (.arr (e.size+2) 0 0 4 false)/\dy r 14 (.ptr al.size 0 0 0)/\dy r 15 (.ptr (al.size+1) 0 0 0)) (λb7=>?_) (λb7=>?_) ?_
    ·obtain⟨C,fs,fo⟩:∃C:Nat,C<4/\jM u.dQ=some C:=by
      have:=ff.1 (qu o).2.1;exact⟨u.dQ.toNat,B,ee this.1⟩
     have S:C<s.length:=by rw[P.len];omega
     have X:C<A.length:=B;have di:C<(nP h q l).count.length:=by have:=b8.2.2.2;omega
     have ec:=P.gr C s[C] A[C] (ay S) (ay X);obtain⟨c9,eE,cp,eB,eC,M⟩:=(Xt.refl ec av.w.ok).R0 (nP h q l).count[C] (by have:=O A[C] (aD X);omega);obtain⟨e2,bu⟩:=P.app (ay S) (ay X) M B (K+1);have de:=ec.cells;have b9:∀c,dM s[C]=some c->e.size+2<=c:=λc o=>(P.sep C s[C] c (ay S) o).1;have dv:=(av.xt M (λc aX=>by have:=b9 c aX;simp;omega) (by simpa using aN)).put bu J (by simpa using aN) ⟨1,0,K+1,true,false,s.set C c9⟩;have ds:=M.2.2.2.sz;have ey:=λc (k:dM s[C]=some c)=>Q.lt (ay S) k;have eV:∀c,c<a8.size->(∀k,dM s[C]=some k->k≠c)->eE.get c=a8.get c:=λc bi bH=>M.2.1 c bi λk=>bH c k rfl;have F:∀c,c<a8.size->c≠e.size+2->(∀k,dM s[C]=some k->k≠c)->(dT eE (e.size+2) ⟨1,0,K+1,true,false,s.set C c9⟩).get c=a8.get c:=λc bi dn bH=>by
      rw[dF bu,ao dn];exact eV c bi bH
     have sv:em (a8.cons (Z 1 0 [D (nP h q l).count[C]])) eE al.size=true:=eQ ((eV _ B λk o=>by have:=ey k o;omega).trans (by rw[dO,ao B]));simp[P.gb,v,z,H,I,E,G,a7,bs,fo,fs,S,di,de,cp,eB,eC,bu,ec.lj,sv];refine⟨⟨_,_,_,ae,dv,(F _ B B λk o=>by have:=b9 k o;omega).trans bs,(F _ B B λk o=>by have:=b9 k o;omega).trans bN,e2,dp,by simp[T],λR hr=>?_⟩,B,(F _ B B λk o=>by have:=ey k o;omega).trans a7,(F _ B B λk o=>by have:=ey k o;omega).trans cb⟩;rcases bZ hr with k|rfl
     ·have:=O R k;omega
     ·have:=O A[C] (aD X);simp;omega
    ·simp[v,z,H,I,E,G];exact⟨⟨A,s,K,ae,av,bs,bN,P,B,T,λR hr=>by have:=O R hr;omega⟩,B,a7,cb⟩
    ·have fY:∀c,dM U=some c->c<al.size:=λc=>Q.olt;clear e1 av bs bN P a7 cb dn v z H I E G;rintro r e0 ⟨⟨⟨A,s,K,ae,av,bs,bN,P,dn,T,O⟩,gB,a7,cb⟩,v,z,H,I,E,G,e7,e8⟩;obtain⟨fS,gg,cp,M⟩:=P.go.mQ (cx:=cx) (f:=dY.t) av.w.ok OU rfl Ki rfl J (λ_=>rfl) u dp;have eA:∀c,dM U=some c->e.size+2<=c:=λc k=>(P.ob c k).1;have F:∀c,c<e0.size->(∀k,dM U=some k->k≠c)->gg.get c=e0.get c:=λc bi bH=>M.2.1 c bi λk=>bH c k rfl;have t6:=(F _ B λk o=>by have:=fY k o;omega).trans cb;have ce:=(F e.size B λk o=>by have:=eA k o;omega).trans bs;have e3:=P.out M B;have e4:=(av.xt M (λc aX=>by have:=eA c aX;simp;omega) (by simpa using aN)).put ce J (by simpa using aN) (Z 7 (ae+1) [(jO h (nP h q l) u).t]);have b6:nP h q (l++[u])=jO h (nP h q l) u:=by
      show vH _ _ _=_;rw[HB];show(jx h (nP h q l) u).1=_;rw[et]
     have ds:=M.2.2.2.sz;simp[v,z,H,I,E,G,e7,e8,a7,cp,M.1.fg,M.1.cells,t6,ce];refine⟨B,fS,l++[u],⟨A,s,K,ae+1,e4,?_,?_,e3.jV λc o _=>?_,dp,T,O⟩,?_,?_,?_,?_,?_,rfl⟩
     ·rw[b6,dF ce,aq rfl]
     ·rw[dF ce,ao B];exact(F (e.size+1) B λk o=>by have:=eA k o;omega).trans bN
     ·rw[dF ce,ao B]
     ·rw[BC,eo];simp[runs,rI,o]
     ·simp;omega
     ·intro x hx;rcases List.mem_append.1 hx with hx|hx
      ·exact eh x hx
      ·simp at hx;subst hx;omega
     ·have:=er.step h u;rw[et]at this;rw[b6];exact this
     ·have:=xH h (nP h q l).fk u.dQ u.kind u.obj (kT u);obtain⟨fA,fB,gp,fC⟩:=b8;rw[b6];exact⟨by unfold jO;simp only;split<;>simp[fA],by unfold jO;simp only;split<;>simp[fB],by show(ei ..).1.dC.length<=_;omega,by unfold jO;simp[fC]⟩
  ·simp[E,an.go.fg];exact(ap.le (aw _)).cut eW aN (an.go.Zx (d:=2) B (λc aX=>by have:=(an.ob c aX).1;omega) afQ) λc7 gd=>⟨l,rfl,eN,eh,eo,gd,c7⟩
 ·exact(⟨B,B,B,B⟩:PlC q)
end
end
noncomputable section
open Go Go.TI Tryz
section
attribute [-simp] List.map_take List.map_drop List.map_append
def DI:ge:=⟨Int×Nat,λa=>[D a.1,D a.2],λa=>True,λa=> .bool (iR a.1 a.2),λa c b=>by simp at b;rw[b.1,show a.2=c.2 by omega]⟩
def Vm:DI.Ok prog cx 125:=by
 refine fR [] (iP 19 [] func125) (λf=>1) (by simp[DI]) ?_;rintro⟨e,g⟩ _ h a;simp[DI]at a|-;obtain⟨b,c⟩:=a;by_cases d:0<=e<;>simp[f125,b,c,d,iR]
def Kw{c:fw}(ht:c.p 125=some DI)(a:Int)(b:Nat):rl prog cx c 125 [D a,D b]=some (.bool (iR a b)):=gG ht Vm (a,b) trivial
def Fo(c:eJ)(b:Int):Bool:=match vC c.jA.count b with|some a=>decide (1<=a)|none=>false
def uW:ge:=⟨eJ×Int,λa=>[a.1.t,D a.2],λa=>True,λa=> .bool (Fo a.1 a.2),λa c b=>by simp at b;rw[eJ.inj b.1,b.2]⟩
def Ly:uW.Ok prog cx 126:=by
 refine fR [(125,DI)] (iP 23 [] func126) (λi=>1) (by simp[uW]) ?_;rintro⟨h,g⟩ _ k d;simp[uW]at d|-;obtain⟨b,c⟩:=d;cases a:iR g h.jA.count.length with
 |false=>simp[f126,b,c,Kw,a,Fo,qn a]
 |true=>
  have⟨j,e,f⟩:=im a;simp[f126,b,c,Kw,a,Fo,e,f,ee (ff.1 a).1]
def vy{c:fw}(ht:c.p 126=some uW)(b:eJ)(a:Int):rl prog cx c 126 [b.t,D a]=some (.bool (Fo b a)):=gG ht Ly (b,a) trivial
end
end
noncomputable section
open Go Go.TI Tryz
attribute [-simp] List.map_take List.map_drop List.map_append fj ez TI.d8 Bool.not_or Bool.not_and
attribute [simp] fh eG
def JQ:mW prog cx 127 (λa:eJ×Int×Int=>[a.1.t,D a.2.1,D a.2.2]) (λa=>a.1.dI.length<=1000000) (λa v=>∃p:Int,v= D p/\p<a.1.dI.length):=by
 refine iS [] (iP 20975823 [] func127) (λa=>a.1.dI.length+5) (λa b e=>by simp at e;exact aI (eJ.inj e.1) (aI e.2.1 e.2.2)) ?_;rintro⟨q,w,u⟩ hl i m;simp at hl m;obtain⟨r,c,d⟩:=m;simp[f127,r,c,d];refine fc q.dI.length B (λo i e=>∃l,gH 1 e/\e.get 0=some (Z 15 0 [q.t])/\dy i 1 (D w)/\dy i 2 (D l)/\dy i 3 (.ptr 0 0 0 0)/\dy i 7 (D o)) ?_ ?_ B ⟨u,⟨J,J,J⟩,by simp[c,d]⟩
 ·rintro o i e s n ⟨l,j,f,c,d,g,h⟩;have x:=j.ne (b:=0) B;simp[f,c,d,g,h,s];refine dV (λk=>?_) (λk=>?_)
  ·simp[f,c,d,g,h];refine dV (λk=>?_) (λk=>?_)
   ·simp[f,c,d,g,h,j.hp];omega
   ·simp[f,c,d,g,h,n,tQ,j]
  ·simp[f,c,d,g,h,n,j]
 ·rintro i e ⟨l,j,f,c,d,g,h⟩;simp[f,c,d,g,h,j.hp];omega
def B2:mW prog cx 70 (λa:eJ=>[a.t]) (λa=>a.jA.count.length<=1000000/\a.dI.length<=1000000) (λ_=>FE):=by
 refine iS [] (iP 268436511 [] func70) (λa=>a.jA.count.length+5) (λo p b=>by simp at b;exact eJ.inj b) ?_;rintro a ⟨hl,q⟩ c j;simp at j;simp[f70,j];refine fc a.jA.count.length B (λl c b=>∃i,gH 1 b/\b.get 0=some (Z 15 0 [a.t])/\dy c 1 (.ptr 0 0 0 0)/\dy c 3 (D i)/\dy c 4 (D l)) ?_ ?_ B ⟨0,⟨J,J,J⟩,J⟩
 ·rintro l c b k m ⟨i,h,e,d,f,g⟩;simp[e,d,f,g,k];refine dV (λn=>?_) (λn=>?_)
  ·simp[h.hp,d]
  ·simp[e,d,f,g,k,m,nG,h]
 ·rintro c b ⟨i,h,e,d,f,g⟩;simp[e,d,f,g,nG,h.hp]
def HQ(b:eJ)(a:dE):Prop:=za a=true->iR a.cond b.ew.fV.length=true
def yp:mW prog cx 71 (λa:eJ=>[a.t]) (λa=>a.jA.fk.dC.length<=1000000/\a.jA.fk.dC.length=a.jA.count.length) (λa=>GQ (∀m∈a.jA.fk.dC,HQ a m)):=by
 refine iS [(125,DI)] (iP 162259279247065002620836359716991 [] func71) (λa=>a.jA.fk.dC.length+5) (λv b e=>by simp at e;exact eJ.inj e) ?_;rintro a ⟨hl,w⟩ j o;simp at o;simp[f71,o];refine fc a.jA.fk.dC.length B (λd j e=>gH 1 e/\e.get 0=some (Z 15 0 [a.t])/\dy j 1 (.ptr 0 0 0 0)/\dy j 3 (sl (a.jA.fk.dC.map dE.t))/\dy j 4 (D d)/\∀m∈a.jA.fk.dC.take d,HQ a m) ?_ ?_ B ⟨⟨J,J,J⟩,J⟩
 ·rintro d j e n r ⟨c,k,f,g,h,l⟩;have s:a.jA.fk.dC.take (d+1)=a.jA.fk.dC.take d++[a.jA.fk.dC[d]]:=aT n;have q:=c.ne (b:=0) B;simp[k,f,g,h,n,show d<a.jA.count.length by omega,q,c.low,Kw];refine dV (λi=>?_) (λi=>?_)
  ·simp[f,g,h,c.hp]
  clear i;simp[k,f,g,h,n,q,c.low,Kw,c.hp];refine dV (λi=>?_) (λi=>?_)
  ·simp[f,g,h,c.hp]
  simp[k,f,g,h,r,c];generalize a.jA.fk.dC[d]=m at*
  rw[s];intro u hu;rcases List.mem_append.1 hu with hu|hu
  ·exact l u hu
  rw[List.mem_singleton.1 hu];intro p;unfold za at p;rw[p]at i;simpa using i
 ·rintro j e ⟨c,k,f,g,h,l⟩;rw[aJ]at l;simp[k,f,g,h,c.hp];exact l
def zx:mW prog cx 73 (λa:eJ×Int×List Int=>[a.1.t,D a.2.1,sl (a.2.2.map (T.int .i64))]) (λa=>a.1.dI.length<=1000000/\iR a.2.1 a.1.jA.count.length=true/\a.2.2.length<=1000000) (λ_=>FE):=by
 refine iS [(127,JQ.ji)] (iP 576460752336982479 [] func73) (λa=>a.2.2.length+5) (λa b c=>by simp at c;exact aI (eJ.inj c.1) (aI c.2.1 (jt (λ_ _ c=>by simpa using c) c.2.2))) ?_;rintro⟨v,z,s⟩ ⟨hl,p,E⟩ j x;simp only at hl p E;simp at x;obtain⟨C,d,e⟩:=x;have⟨A,n,_⟩:=im p;have ht:=ee (ff.1 p).1;simp[f73,C,d,e];refine fc s.length B (λr j c=>gH 1 c/\c.get 0=some (Z 15 0 [v.t])/\dy j 1 (D z)/\dy j 2 (sl (s.map (T.int .i64)))/\dy j 3 (.ptr 0 0 0 0)/\dy j 7 (D r)) ?_ ?_ B ⟨⟨J,J,J⟩,by simp[d,e]⟩
 ·rintro r j c q y ⟨f,g,d,e,h,i⟩;have u:=f.ne (b:=0) B;obtain⟨_,⟨k,rfl,F⟩,m⟩:=JQ.use (v,z,IntKind.i64.wrap (s[r]-A)) hl;simp only at m F;simp[g,d,e,h,i,q,ht,n,u,f.low];refine dV (λo=>?_) (λo=>?_)
  ·simp[g,d,e,h,i,y,f]
  have G:decide (k<0)=true\/decide (k<0)=false/\jM k=some k.toNat/\∃w,v.dI[k.toNat]? =some w:=by
   by_cases l:k<0
   ·exact .inl (aR l)
   ·exact .inr ⟨aK l,ee B,_,ay B⟩
  rcases G with l|⟨l,H,w,I⟩
  ·simp[g,d,e,h,i,q,ht,n,u,f.low,tQ,m,f.hp,l]
  ·simp[g,d,e,h,i,q,ht,n,u,f.low,tQ,m,f.hp,l,H,I];refine dV (λo=>?_) (λo=>?_)
   ·simp[g,d,e,h,i,f.hp]
   ·simp[g,d,e,h,i,y,f]
 ·rintro j c ⟨f,g,d,e,h,i⟩;simp[g,d,e,h,i,f.hp]
structure agf(w:eJ):Prop where
 l1:w.jA.fk.dW.length<=1000000
 l2:w.jA.fk.dC.length<=1000000
 l3:∀l∈w.jA.fk.dW,l.ed.length<=1000000
 e:w.jA.fk.dW.length=w.ew.dW.length
 t:∀t∈w.jA.fk.dC,HQ w t
 m:∀c∈w.ew.fV,iR c.j2 w.jA.fk.dW.length=true
def ab4(c:eJ)(e:Nat):Prop:=∀(a:Nat) (b:dP) (d:ig),a<e->c.jA.fk.dW[a]? =some b->c.ew.dW[a]? =some d->b.ed≠ []->b.iy=-1/\d.rW=true
def Az:mW prog cx 72 (λc:eJ=>[c.t]) agf (λc=>GQ (vJ c.ew c.jA.fk)):=by
 refine iS [(126,uW)] (iP 5575186465791384471966860632566831987622399 [] func72) (λc=>1000005) (λa b j=>by simp at j;exact eJ.inj j) ?_;rintro c v i W;simp at W;simp[f72,W];refine fc c.jA.fk.dW.length (by have:=v.l1;omega) (λh i j=>ab4 c h/\gH 2 j/\j.get 0=some (Z 15 0 [c.t])/\j.get 1=some (Z 4 1 [c.jA.fk.t])/\dy i 1 (.ptr 0 0 0 0)/\dy i 3 (.ptr 1 0 0 0)/\dy i 4 (D h)) ?_ ?_ (by have:=v.l1;omega) ⟨λP _ _ al=>by omega,⟨J,J,J⟩,J⟩
 ·rintro h i j I K ⟨S,g,p,q,d,f,n⟩;have y:=g.ne (b:=0) B;have z:=g.ne (b:=1) B;have aN:=v.l3 _ (aD I);have U:h<c.ew.dW.length:=by have:=v.e;omega
  simp[p,q,d,f,n,I,y,z,g.low,vy,U,g.hp];have ap:gH 2 (j.cons (Z 2 1 [c.jA.fk.dW[h].t])):=g.cons _;have aX:2<=j.size:=g.sz;have T:((c.jA.fk.dW[h].ed≠ []->c.jA.fk.dW[h].iy=-1/\c.ew.dW[h].rW=true))->ab4 c (h+1):=λo P l u al hl L hr=>by
   by_cases s:P=h
   ·subst s;rw[ay I]at hl;rw[ay U]at L;simp only[ar]at hl L;subst hl;subst L;exact o hr
   ·exact S P l u B hl L hr
  generalize c.jA.fk.dW[h]=l at*
  refine dV (λk=>?_) (λk=>?_)
  ·simp[d,f,n,g.hp]
  replace T:=T λhr=>by
   have:=List.length_pos_iff.2 hr;simp at k;exact(k.2 this).symm
  clear k;simp[d,f,n];refine fc l.ed.length B (λo i x=>gH 2 x/\j.size<x.size/\x.get 0=some (Z 15 0 [c.t])/\x.get 1=some (Z 4 1 [c.jA.fk.t])/\x.get j.size=some (Z 2 1 [l.t])/\dy i 1 (.ptr 0 0 0 0)/\dy i 3 (.ptr 1 0 0 0)/\dy i 4 (D h)/\dy i 5 (.ptr j.size 0 0 0)/\dy i 6 (D o)) ?_ ?_ B ⟨ap,J,by simp[p,q,d,f,n,y,z]⟩
  ·rintro o i x ae X ⟨w,O,A,C,E,d,f,n,F,G⟩;have an:=kP (a:=o) (b:=1) B B;have M:decide (0<o)=false/\True/\(∃u:Int,u=u)\/decide (0<o)=true/\jM ((o:Int)-1)=some (o-1)/\∃u,l.ed[o-1]? =some u:=by
    by_cases s:0<o
    ·refine .inr ⟨aR s,?_,_,ay B⟩;rw[show(o:Int)-1=((o-1:Nat):Int)by omega];exact ee B
    ·exact .inl ⟨aK s,trivial,0,rfl⟩
   rcases M with⟨s,_,u,N⟩|⟨s,R,u,N⟩
   ·simp[A,C,E,d,f,n,F,G,ae,vy,s,w.hp];refine dV (λk=>?_) (λk=>?_)
    ·simp[d,f,n,w.hp]
    ·simp[A,C,E,d,f,n,F,G,X,w,O]
   ·simp[A,C,E,d,f,n,F,G,ae,vy,s,R,N,an,w.hp];refine dV (λk=>?_) (λk=>?_)
    ·simp[d,f,n,w.hp]
    ·simp[A,C,E,d,f,n,F,G,X,w,O]
  ·rintro i x ⟨w,O,A,C,E,d,f,n,F,G⟩;simp[A,C,E,d,f,n,F,G,K,w,T]
 ·rintro i j ⟨S,g,p,q,d,f,n⟩;have aE:vJ c.ew c.jA.fk:=λh l u hl=>S h l u (List.getElem?_eq_some_iff.1 hl).1 hl;simp[p,q,d,f,n,vy,g.hp];refine dV (λk=>?_) (λk=>?_)
  ·simp[d,f,g.hp]
  clear k;simp[d,f];refine fc c.jA.fk.dC.length (by have:=v.l2;omega) (λh i j=>gH 2 j/\j.get 0=some (Z 15 0 [c.t])/\j.get 1=some (Z 4 1 [c.jA.fk.t])/\dy i 1 (.ptr 0 0 0 0)/\dy i 3 (.ptr 1 0 0 0)/\dy i 7 (D h)) ?_ ?_ (by have:=v.l2;omega) ⟨g,by simp[p,q,d,f]⟩
  ·rintro h i j I K ⟨g,p,q,d,f,H⟩;have y:=g.ne (b:=0) B;have z:=g.ne (b:=1) B;have ht:=v.t _ (aD I);simp[p,q,d,f,H,I,y,z,g.low,vy,g.hp];refine dV (λk=>?_) (λk=>?_)
   ·simp[d,f,g.hp]
   clear k;have M:za c.jA.fk.dC[h]=false/\True/\True/\(∃r:iA,r=r/\∃l:dP,l=l)\/za c.jA.fk.dC[h]=true/\jM c.jA.fk.dC[h].cond=some c.jA.fk.dC[h].cond.toNat/\True/\(∃r,c.ew.fV[c.jA.fk.dC[h].cond.toNat]? =some r/\jM r.j2=some r.j2.toNat/\∃l,c.jA.fk.dW[r.j2.toNat]? =some l):=by
    cases s:za c.jA.fk.dC[h]
    ·exact .inl ⟨rfl,trivial,trivial,default,rfl,default,rfl⟩
    ·have d:=ht s;have⟨r,Y,_⟩:=im d;have V:=v.m r (ax Y);have⟨l,hl,_⟩:=im V;exact .inr ⟨rfl,ee (ff.1 d).1,trivial,r,Y,ee (ff.1 V).1,l,hl⟩
   unfold za at M;rcases M with⟨Q,_,_,r,_,l,_⟩|⟨Q,R,_,r,N,av,l,aA⟩
   ·simp[p,q,d,f,H,y,z,g.low,Q,g.hp,K,g.cons]
   ·simp[p,q,d,f,H,y,z,g.low,Q,R,N,av,aA,g.hp];refine dV (λk=>?_) (λk=>?_)
    ·simp[d,f,g.hp]
    ·simp[p,q,d,f,H,y,z,K,g.cons]
  ·rintro i j ⟨g,p,q,d,f,H⟩;simp[p,q,d,f,H,g.hp,aE]
structure acm(w:eJ):Prop where
 c:w.jA.count.length<=1000
 ev:w.dI.length<=1000000
 l:w.jA.fk.dW.length<=1000
 t:w.jA.fk.dC.length<=1000
 d:w.jA.fk.done.length<=1000
 f:w.jA.dU.length<=1000
 r:∀l∈w.jA.fk.dW,l.ed.length<=1000
 sm:qp 1000 w.jA
 wb:jE w.ew=true
 es:IY w.dI
def DP:mW prog cx 30 (λd:eJ=>[d.t]) (λd=>acm d/\mT d.ew d.jA=true/\d.dI.length<=16) (λd=>GQ (vJ d.ew d.jA.fk)):=by
 refine iS [(68,xd),(69,vU),(70,B2.ji),(71,yp.ji),(72,Az.ji),(67,lK),(73,zx.ji)] (iP 324518553667945246868126660821503 [] func30) (λd=>1000005) (λa b g=>by simp at g;exact eJ.inj g) ?_;rintro d ⟨j,V,c4⟩ k S;simp at S;have W:=V;unfold mT at W;simp only[az,aL]at W;obtain⟨⟨⟨bN,_⟩,c1⟩,bH⟩:=W;have L:=bN;unfold lY at L;simp only[az,aL]at L;have⟨c6,c7,c9,dd,de,di⟩:=qF j.wb;have bS:∀n∈d.ew.fV,iR n.j2 d.jA.fk.dW.length=true:=λn bB=>by
  rw[L.1.1.2];exact List.all_eq_true.1 L.1.1.1 n bB
 have av:d.ew.fV.length<=1099511627776:=B;have aN:jE d.ew=true:=j.wb;obtain⟨_,⟨cb,rfl⟩,al⟩:=B2.use d ⟨by have:=j.c;omega,j.ev⟩;obtain⟨_,⟨bk,rfl,bz⟩,an⟩:=yp.use d ⟨by have:=j.t;omega,B⟩;cases bk with
 |false=>simp[f30,S,yO,Fk,aN,V,al,an,av]
 |true=>
 obtain⟨_,⟨ce,rfl,bu⟩,bl⟩:=Az.use d ⟨by have:=j.l;omega,by have:=j.t;omega,λb6 u=>by have:=j.r b6 u;omega,B,bz rfl,bS⟩;simp[f30,S,yO,Fk,aN,V,al,an,bl,av];refine dV (λo=>?_) (λo=>?_)
 ·simp
 have b8:vJ d.ew d.jA.fk:=bu (by simp at o;exact o.2);clear o;simp;refine fc d.jA.dU.length (by have:=j.f;omega) (λe k g=>gH 1 g/\g.get 0=some (Z 15 0 [d.t])/\dy k 1 (.ptr 0 0 0 0)/\dy k 3 (D e)) ?_ ?_ (by have:=j.f;omega) ⟨⟨J,J,J⟩,J⟩
 ·rintro e k g F U ⟨q,v,i,I⟩;have bC:e<d.jA.fk.done.length:=B;simp[v,i,I,F,bC,q.hp];refine dV (λo=>?_) (λo=>?_)
  ·simp[i,q.hp]
  ·simp[v,i,I,U,q]
 rintro k g ⟨q,v,i,I⟩;have a8:=q.ne (b:=0) B;simp[v,i,I,a8,q.low];have⟨O,cp⟩:∃O,g.size=O:=⟨_,rfl⟩;have cL:1<=O:=by have:=q.sz;omega
 refine fc d.dI.length B (λe k h=>∃N m,qp (1000+e) m/\gH 1 h/\g.size<h.size/\h.get 0=some (Z 15 0 [d.t])/\h.get g.size=some (Z 7 N [m.t])/\dy k 1 (.ptr 0 0 0 0)/\dy k 4 (.ptr g.size 0 0 0)/\dy k 5 (D e)) ?_ ?_ B ⟨1,d.jA,j.sm,q.cons _,J,by simp[v,i,a8]⟩
 ·rintro e k h F U ⟨N,m,ae,s,bT,w,x,i,z,A⟩;have aX:=s.ne (b:=0) B;have a7:(g.size=h.size)=False:=dp;have K:=j.es d.dI[e] (aD F);have y:=λ{ca:fw} (ht:ca.p 67=some lK)=>yQ ht d.ew m d.dI[e] B (ae.up B) K.1 K.2;have M:gH 1 ((h.cons (Z 7 1 [d.dI[e].t])).cons (Z 7 0 [T.agg [T.Y [] false,T.int .i64 0,T.Y [] false,T.Y [] false,T.Y [] false,T.Y [] false,T.Y [] false]])):=(s.cons _).cons _;have H:=mn M.hp (show h.size+1<_ by simp);cases u:oK d.ew m d.dI[e]with
  |false=>
   rw[kV u]at y;simp[w,x,i,z,A,F,aX,a7,s.low,y,s.hp]
  |true=>
   have aA:jx d.ew m d.dI[e]=(jO d.ew m d.dI[e],true):=by unfold jx;rw[aq u]
   have b9:qp (1000+(e+1)) (jO d.ew m d.dI[e]):=by have:=ae.step d.ew d.dI[e];rw[aA]at this;exact this
   rw[aA]at y;have aE:iR d.dI[e].dQ d.jA.count.length=true:=by
    unfold oK at u;simp only[az]at u;rw[bH];exact u.1.1.1.1.1.1.1.1.2
   obtain⟨_,⟨r1,rfl⟩,Q⟩:=zx.use (d,d.dI[e].dQ,d.dI[e].mo) ⟨dq,aE,K.1⟩;obtain⟨_,⟨r2,rfl⟩,R⟩:=zx.use (d,d.dI[e].dQ,d.dI[e].uA) ⟨dq,aE,K.2⟩;simp only at Q R;simp[w,x,i,z,A,F,aX,a7,s.low,y,s.hp,Q,R,H,M.hp];generalize E:dT _ (h.size+1) _=C;have X:gH 1 C:=by rw[<-E];exact M.put _ _
   have dk:C.size=h.size+1+1:=by rw[<-E];simp
   have G:∀n,n≠h.size+1->n≠h.size->C.get n=h.get n:=λn bi b7=>by rw[<-E,H,ao bi];simp[bi,b7]
   have ap:=(G 0 B B).trans w;have bn:=(G g.size B B).trans x;have bs:C.get (h.size+1)=some (Z 7 1 [(jO d.ew m d.dI[e]).t]):=by rw[<-E,H,aq rfl]
   clear E H M y Q R;refine dV (λo=>?_) (λo=>?_)
   ·simp[i,X.hp]
   ·simp[ap,bn,bs,i,z,A,U];have P:=mn X.hp (show g.size<C.size by omega);exact⟨N+1,_,b9,X.put _ _,B,(P _ 0).trans ((ao B).trans ap),(P _ g.size).trans (aq rfl)⟩
 ·rintro k h ⟨N,m,ae,s,bT,w,x,i,z,A⟩;simp[w,x,i,z,A,s.hp,b8]
section
attribute [-simp] size_cons
def FC.fits{a:dZ}(h:FC a):mT je a=true:=by
 have⟨b,c,d,e,f,g⟩:=h.n;unfold mT lY;rw[b,c,d,e,f,g];decide
def FC.sm{d:dZ}(b:FC d):qp 1000 d:=by
 have⟨g,h,i,j,k,l⟩:=b.n;refine⟨B,λa hl=>by have:=(b.r a hl).1;omega,λa hl=>?_,λe f=>by have:=b.c e f;omega⟩;have:=(b.r a hl).1
 match hr:a.ed with
 | []=>exact List.Pairwise.nil
 | [x]=>exact List.pairwise_singleton _ _
 |x::o::m=>rw[hr]at this;simp at this
def FC.ask{c:dZ}(b:FC c){a:List dY}(hl:a.length<=16)(d:IY a)(e:Int):acm ⟨je,e,c,a⟩:=by
 have⟨f,g,h,i,j,k⟩:=b.n;exact⟨dq,dq,dq,dq,dq,dq,λa hl=>by have:=(b.r a hl).1;omega,b.sm,H7,d⟩
def FC.win{c:dZ}(d:FC c){b:List dY}(hl:b.length<=16)(f:IY b)(hr:runs je c b=true)(g:Int)(e:vJ je c.fk):kM ⟨je,g,c,b⟩:=
 ⟨⟨hl,(by decide:je.dC.length<=4),hr,d.sm.a⟩,H7,d.sm,f,λb hl=>(d.r b hl).2,e⟩
def UM(b:Int):kM ⟨je,b,js je,[]⟩:=
 ⟨⟨J,(by decide:je.dC.length<=4),rfl,rF _⟩,H7,(tR je dt).up B,λc a=>by simp at a,uH 4 je,Bu _ _⟩
abbrev wT(c:Int)(a:dZ)(b:T):T:= .agg [sl (je.cells.map fW.t),sl (je.dW.map ig.t),sl (je.fV.map iA.t),sl (je.dU.map T.str),sl (je.dC.map T.str),sl (je.io.map ik.t),D c,sl (a.fk.dW.map dP.t),D a.fk.tx,sl (a.fk.done.map T.bool),sl (a.fk.dC.map dE.t),sl (a.cells.map (T.int .i64)),sl (a.dU.map (T.int .i64)),sl (a.count.map (T.int .i64)),b]
structure Ut(L:List Int)(s:dZ)(n:Int)(e:T)(y:H):Prop where
 g0:y.get 0=some (Z 15 0 [.agg [dw,dw,dw,dw,dw,dw,D 0,dw,D 0,dw,dw,dw,dw,dw,dw]])
 g2:∃ver,y.get 2=some (Z 15 ver [wT n s e])
 tp:uD 0 L 1 y
 ok:gH 3 y
def Ut.tape{b:List Int}{g:dZ}{f:Int}{e:T}{h d:H}(c:Ut b g f e h)(j:uD 0 b 1 d)(a:Sm 1 h d):Ut b g f e d:=by
 have⟨k,i⟩:=c.g2;exact⟨(a.get 0 B).trans c.g0,⟨k,(a.get 2 B).trans i⟩,j,a.ok.hp,a.ok.low,by rw[a.size];exact c.ok.sz⟩
theorem Ut.put{i:List Int}{d:dZ}{n:Int}{k:T}{j:H}(a:Ut i d n k j)(h:Nat)(g:Int)(f:T):Ut i d g f (dT j 2 (Z 15 h [wT g d f])):=by
 have e:=mn (b:=2) a.ok.hp (by have:=a.ok.sz;omega) (Z 15 h [wT g d f]);exact⟨(e 0).trans ((ao B).trans a.g0),⟨h,(e 2).trans (aq rfl)⟩,a.tp.eq ((e 1).trans (ao B)),a.ok.put _ _⟩
def Sj(b:T):Prop:=∃a:eJ,b=a.t/\kM a
def EJ:mW prog cx 8 (λr:List Int×Nat=>[sl (r.1.map (T.int .u8)),D r.2]) (λr=>okB r.1/\r.2<=16) (λ_=>Sj):=by
 refine xN (tb:=⟨pt [(27,EA),(31,pk),(30,DP.ji)],ht [(28,jr IBg T0 Ij),(29,jr IPl TS Nj)]⟩) iB gW (iP 1125900913478003 [] func8) (λ_=>10) (λr b z=>by simp at z;exact aI (jt (λ_ _ z=>by simpa using z) z.1) (by have:=z.2;omega)) J nl9 ?_;rintro⟨K,C⟩ ⟨L,V⟩ e R;simp only at L V;simp at R;obtain⟨m,f⟩:=R;simp[f8,m,f];refine lf (λe l=>(∃j:List Int,okB j/\j.length<=400/\dy e 0 (sl (j.map (T.int .u8))))/\l=hE.cons (Z 15 0 [.agg [dw,dw,dw,dw,dw,dw,D 0,dw,D 0,dw,dw,dw,dw,dw,dw]])/\dy e 1 (D C)/\dy e 4 (.ptr 0 0 0 0)) (λv=>?_) (λv=>?_) ?_
 ·simp at v;simp[m,f,show 400<=K.length by omega];refine⟨K.take 400,⟨dp,λx bi=>L.2 x (br bi)⟩,dp,rfl⟩
 ·simp at v;simp[m,f];exact⟨K,L,B,rfl⟩
 rintro e _ ⟨⟨j,Q,aE,m⟩,rfl,f,g⟩;simp[m,f,g,Kr];generalize u:((hE.cons _).cons _).cons _=y;have bS:y.size=3:=by rw[<-u];rfl
 have bs:gH 0 y:=by rw[<-u];exact⟨J,by simp[size_cons],J⟩
 have bu:y.get 0=some (Z 15 0 [.agg [dw,dw,dw,dw,dw,dw,D 0,dw,D 0,dw,dw,dw,dw,dw,dw]]):=by rw[<-u];simp[size_cons]
 have bz:y.get 1=some (Z 2 0 [.agg [sl (j.map (T.int .u8)),D 0]]):=by rw[<-u];simp[size_cons]
 have bB:y.get 2=some (Z 15 1 [.agg [sl (je.cells.map fW.t),sl (je.dW.map ig.t),sl (je.fV.map iA.t),sl (je.dU.map T.str),sl (je.dC.map T.str),sl (je.io.map ik.t),D 0,dw,D 0,dw,dw,dw,dw,dw,dw]]):=by rw[<-u];simp[size_cons]
 clear u;refine iD ae0 J ⟨j,1⟩ ⟨rfl,⟨0,0,bz,J⟩,bs,Q⟩ ?_;rintro _ l ⟨i,rfl,k,t1,q⟩;simp only at t1 q;have bH:=(q.get 2 B).trans bB;have bC:=(q.get 0 B).trans bu;have c7:l.size=3:=by rw[q.size,bS]
 have aA:=λd=>(mn (b:=2) q.ok.hp B d 2).trans (aq rfl);simp[m,f,g,bH,aA];have I:Ut j i 0 dw (dT l 2 (Z 15 2 [wT 0 i dw])):=by
  have w:=mn (b:=2) q.ok.hp B (Z 15 2 [wT 0 i dw]);exact⟨(w 0).trans ((ao B).trans bC),⟨2,(w 2).trans (aq rfl)⟩,t1.eq ((w 1).trans (ao B)),gH.put ⟨q.ok.hp,q.ok.low,B⟩ _ _⟩
 generalize dT l 2 _=b6 at*
 refine fc 4 B (λo e l=>(∃h:Int,Ut j i h dw l/\0<=h/\h<=4*o)/\dy e 1 (D C)/\dy e 4 (.ptr 0 0 0 0)/\dy e 5 (.ptr 1 0 0 0)/\dy e 6 (.ptr 2 0 0 0)/\dy e 26 (sl (i.count.map (T.int .i64)))/\dy e 27 (D 4)/\dy e 28 (D o)) ?_ ?_ B ⟨⟨0,I,B,B⟩,by simp[f,g,k.n.2.2.2.2.2]⟩
 ·clear I m f g;rintro o e l b9 aX ⟨⟨h,a,bk,bl⟩,f,g,H,A,E,F,G⟩;have a7:(o:Int)<4:=B;have U:o<i.count.length:=by have:=k.n.2.2.2.2.2;omega
  have⟨N,s⟩:=a.g2;have b8:=k.c i.count[o] (aD U);have al:binop .add (D h) (D i.count[o])=some (D (h+i.count[o])):=yT rfl B B;simp[f,g,H,A,E,F,G,a7,U,s,al,aX];exact⟨_,a.put _ _ _,B,B⟩
 clear I m f g;rintro e l ⟨⟨h,a,bk,bl⟩,f,g,H,A,E,F,G⟩;have⟨N,s⟩:=a.g2;have bn:min (C:Int) 16=C:=B;simp[f,g,H,A,E,F,G,s,bn];have⟨cb,ce,cp,cL,c1,c4⟩:=k.n;refine iD aeX J ⟨j,1,i,je,C,true⟩ ⟨rfl,a.tp,⟨a.ok.hp,a.ok.low,aw _⟩,Q,aE,V,(by decide:je.dC.length=4),(by decide:je.cells.length=5),(by decide:je.fV.length<=1000),k.fits,k.sm,dq⟩ ?_;rintro _ c6 ⟨W,rfl,hl,S,hr,t2,ae⟩;simp only at hl hr t2 ae;replace a:=a.tape t2 ae;clear s;have⟨N,s⟩:=a.g2;have bT:=a.put (N+1) h (sl (W.map dY.t));have P:=λd=>(mn (b:=2) a.ok.hp (by have:=a.ok.sz;omega) d 2).trans (aq rfl);have a8:=k.win B S hr h;obtain⟨_,⟨b7,rfl,aN⟩,av⟩:=DP.use ⟨je,h,i,W⟩ ⟨k.ask B S h,k.fits,dq⟩;simp[f,g,H,A,E,F,G,s,P,av];have w:=λd an=>mn (b:=2) a.ok.hp (by have:=a.ok.sz;omega) d an;have O:=λd=>(w d 0).trans ((ao B).trans a.g0);have Iq:=λd=>a.ok.put 2 d;have bN:=λd=>(Iq d).sz;have X:=λd M=>(mn (b:=0) (Iq d).hp (by have:=bN d;omega) M 0).trans (aq rfl);have ca:=λd M=>((Iq d).put 0 M).hp;refine dV (λv=>?_) (λv=>?_)
 ·have ap:=λ{tb:fw} (ht:tb.p 31=some pk)=>CP ht je dt dt dt dt;simp[g,Kr,ap,O,X];exact⟨⟨⟨je,0,js je,[]⟩,rfl,UM 0⟩,a.ok.hp⟩
 ·simp[g,A,P,O,X];exact⟨⟨_,rfl,a8 (aN (by simpa using v))⟩,a.ok.hp⟩
end
def vO:ge:=⟨Bool,λa=>[.bool a],λ_=>True,λa=> D (if a then 1 else 0),λc a b=>by simp at b;rw[b]⟩
def NE:vO.Ok prog cx 274:=by
 refine fR [] (iP 13 [] func274) (λ_=>5) (by simp[vO]) ?_;rintro b _ c a;cases b<;>(simp[vO]at a|-;simp[f274,a])
def Kt{b:fw}(ht:b.p 274=some vO)(a:Bool):rl prog cx b 274 [.bool a]=some (D (if a then 1 else 0)):=gG ht NE a trivial
def VN(c:T):Prop:=∃(b:Int) (a:Bool),c= .tuple [D b,.bool a]
def ES(b:Int)(a:Bool):VN (.tuple [D b,.bool a]):=⟨b,a,rfl⟩
def ZW{b:ak}{c a:Int}(e:¬a=0):binop .quo (.int b c) (.int b a)=some (.int b (b.wrap (c.tdiv a))):=by
 have d:Qh a 0=false:=by rw[xx];simp[e]
 unfold binop;simp[wB,d]
def afi{a:ak}{b:Int}:unop .neg (.int a b)=some (.int a (a.wrap (0-b))):=by
 show pj a (0-b)=_;simp
def Gd:mW prog cx 255 (λa:Int×Int=>[D a.1,D a.2]) (λ_=>True) (λ_=>VN):=by
 refine iS [(274,vO)] (iP 2291 [] func255) (λ_=>5) (λa e b=>by simp at b;exact aI b.1 b.2) ?_;rintro⟨f,a⟩ _ g c;simp at c;simp[f255,c]
 repeat' (refine dV (λd=>?_) (λd=>?_)<;>simp[d,c,Kt,ES,afi])
def DZ:mW prog cx 257 (λa:Int×Int×Int=>[D a.1,D a.2.1,D a.2.2]) (λ_=>True) (λ_=>VN):=by
 refine iS [(274,vO)] (iP 9690595855641090246329287 [] func257) (λ_=>5) (λa e b=>by simp at b;exact aI b.1 (aI b.2.1 b.2.2)) ?_;rintro⟨g,a,e⟩ _ h c;simp at c;simp[f257,c]
 repeat' (refine dV (λd=>?_) (λd=>?_)<;>simp[d,c,Kt,ES,nG,tQ,dA])
 all_goals (have f:¬e=0:=by simpa using d)
 all_goals simp [c,ZW f,Dc f,ES]
def xi:mW prog cx 256 (λa:Int=>[D a]) (λ_=>True) (λ_=>D7):=by
 refine iS [] (iP 261 [] func256) (λ_=>5) (λa e d=>by simpa using d) ?_;rintro a _ f b;simp at b;simp[f256,b]
 repeat' (refine dV (λc=>?_) (λc=>?_)<;>simp[c,b])
