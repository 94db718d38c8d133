/- Texts W16e to W18b. -/
import Derived.Test.YtmaeadedikngoaaGreatDoorA21
import Derived.Test.YtmaeadedikngoaaGreatDoorA25
set_option linter.unusedVariables false
set_option linter.unusedSimpArgs false
set_option linter.defProp false
set_option maxRecDepth 100000
set_option maxHeartbeats 8000000
namespace Go.Proofs.YtmaeadedikngoaaGreatDoor
noncomputable section
open Go Go.TI
attribute [-simp] List.map_take List.map_drop List.map_append fj eG dY Bool.not_or Bool.not_and
attribute [simp] fh eJ
def IV(b:List dX):Prop:=∀a∈b,a.mf.length<=1000000/\a.uz.length<=1000000
def N2(b:Prop)(c:T):Prop:=∃d a:Int,c= .tuple [dw d,dw a]/\(a=0↔b)
def sZ(c:Prop)(e b:Int):N2 c (.tuple [dw e,dw b])=(b=0↔c):=by
 unfold N2;apply propext;constructor
 ·rintro⟨f,g,d,a⟩;simp at d;rw[d.2];exact a
 ·exact λa=>⟨e,b,rfl,a⟩
def qB{a:dR}(b:jK a=true):a.cells.length<=12/\a.dV.length<=4/\a.fV.length<=2/\a.dT.length<=2/\a.ik.length<=60/\a.dB.length<=4:=by
 unfold jK rG at b;simp only[aB,aO]at b;omega
def DQ:mU Tryz.prog cx 45 (λo:jQ=>[o.t]) (λo=>IV o.dH/\o.dH.length<=1000000) (λo=>N2 (oS o.ez o.dH=true)):=by
 refine iZ (tb:=⟨pt [(67,uN),(41,nT),(66,kY),(78,qH)],ht []⟩) ei eg (iL 9223372036871623167 [] Tryz.func45) (λ_=>1000) (λj b f=>by simp at f;exact jQ.inj f) dp (by simp[Tryz.f45]) ?_;rintro⟨a,c⟩ ⟨K,hl⟩ s J;simp only at K hl;simp at J;simp[Tryz.f45,J];refine dU (λG=> ?_) (λG=> ?_)
 ·simp[sZ];simp at G;unfold oS;rw[aM dj];simp
 simp at G;simp[ym];refine dU (λz=> ?_) (λz=> ?_)
 ·simp[sZ];simp at z;unfold oS;rw[show jK a=false by simpa using z];simp
 have L:jK a=true:=by simpa using z
 obtain⟨V,W,X,Y,Z,ae⟩:=qB L;simp[Ck,show a.dV.length<=1000000 by omega,show a.dT.length<=1000000 by omega,show a.dB.length<=1000000 by omega,show a.cells.length<=1000000 by omega];have R:oS a c=Fm (pj a) PV (jO a) [] (jA a) c:=by unfold oS;rw[L,aT dj];simp
 rw[R];refine fc c.length dj (λe s f=>∃C i,qn e i/\Fm (pj a) PV (jO a) [] (jA a) c=Fm (pj a) PV (jO a) (c.take e) i (c.drop e)/\gu 2 f/\f.get 0=some (dy 7 0 [jQ.t ⟨a,c⟩])/\f.get 1=some (dy 7 C [i.t])/\dz s 1 (.ptr 0 0 0 0)/\dz s 4 (.ptr 1 0 0 0)/\dz s 5 (dw e)) ?_ ?_ dj ?_
 ·rintro e s f y Q ⟨C,i,H,g,h,l,D,r,F,m⟩;have v:=h.ne (b:=0) dj;have M:=h.ne (b:=1) dj;have n:=K c[e] (aF y);rw[aI y,Fm]at g;have T:c.take (e+1)=c.take e++[c[e]]:=aU y;simp[l,D,r,F,m,y,v,M,h.low];generalize c[e]=d at*
  have q:=λ{tb:fq} (ht:tb.p 66=some kY)=>yo ht a i d dj (H.up dj) n.1 n.2;have E:=λ{tb:fq} (ht:tb.p 78=some qH) (N:List Int) (S:N.length<=1000000)=>O7 ht c e d.dN N dj dj S;have I:(f.size=0)=False:=by have:=h.sz;simp;omega
  have A:∀j b k,dQ ((f.cons j).cons b) (f.size+1) k=(f.cons j).cons k:=λj b k=>F5 _ _ _ _ rfl (by have:=h.low;simp;omega);cases w:pj a i d with
  |false=>
   rw[kR w]at q;rw[w]at g;simp[m,h.hp,A,q,sZ,g]
  |true=>
   rw[show jw a i d=(jO a i d,true)by unfold jw;rw[aq w]]at q;cases x:uM (c.take e) d.dN d.mf with
   |false=>
    have:PV (c.take e) d=false:=by unfold PV;rw[x];rfl
    rw[this]at g;simp[l,r,m,v,h.hp,A,I,q,E,n.1,sZ,g,x]
    |true=>
    cases B:uM (c.take e) d.dN d.uz with
    |false=>
     have:PV (c.take e) d=false:=by unfold PV;rw[B];simp
     rw[this]at g;simp[l,r,m,v,h.hp,A,I,q,E,n.1,n.2,sZ,g,x,B]
      |true=>
     have:PV (c.take e) d=true:=by unfold PV;rw[x,B];rfl
     rw[this,w]at g;have O:=H.step a d;rw[show jw a i d=(jO a i d,true)by unfold jw;rw[aq w]]at O;simp[l,D,r,F,m,v,M,A,I,q,E,n.1,n.2,x,B,Q];have P:∀j b k u,(dQ ((f.cons j).cons b) 1 k).get u=if u=1 then some k else((f.cons j).cons b).get u:=λj b k u=>md (by simp[h.hp]) dp k u;refine⟨C+1,jO a i d,O,by rw[T];simpa using g,((h.cons _).cons _).put _ _,?_,?_⟩<;>rw[P]
     ·have U:(0=f.size+1)=False:=dp;simp[l,v]
     ·simp
 ·rintro s f ⟨C,i,H,g,h,l,D,r,F,m⟩;simp[Fm]at g;simp[l,r,m,g,sZ,h.hp]
 ·exact⟨1,jA a,tO a dj,dp,⟨dp,dp,dp⟩,dp⟩
end
noncomputable section
open Go Go.TI
def HC(c:Nat)(d:fg):Prop:=∀b∈d.dV,∀a∈b.d8,0<=a/\a<c
def HC.pK{b:Nat}{c:fg}(f:HC b c){i:Int}{d:dS->dS}(g:∀a∈c.dV,∀e∈(d a).d8,0<=e/\e<b):HC b (c.pK i d):=by
 intro a hl;unfold fg.pK at hl;rcases mem_modify hl with j|⟨k,h,rfl⟩
 ·exact f a j
 ·exact g k h
def Cu{f:Nat}{k:fg}(b:HC f k)(q:dR){g:Int}(ht:0<=g/\g<f)(n o r:Int):HC f (em q k g n o r).1:=by
 have m:∀(d:Int) (c:dS->dS),(∀a,(c a).d8=a.d8\/(c a).d8=lx a.d8 g\/(c a).d8=a.d8.filter λj=> !decide (j=g))->HC f (k.pK d c):=λd c h=>b.pK λa hl l i=>by
  rcases h a with e|e|e<;>rw[e]at i
  ·exact b a hl l i
  ·rcases BN i with p|rfl
   ·exact b a hl l p
   ·exact ht
  ·exact b a hl l (List.mem_filter.1 i).1
 exact un (P:=λj=>HC f j.1) b b (λ_ _ _=>b) (λd c h=>⟨m d c h,λ_ _=>m d c h⟩) (λ_=>b) (λ_ _=>b) (λ_=>b)
def Kv{b:dR}{e:Nat}(j:b.dB.length<=e):∀(c:List dX) (a:dW),runs b a c=true->HC e a.fx->HC e (oo b a c).fx:=by
 intro c;induction c with
 |nil=>intro a _ f;exact f
 |cons d c h=>
  intro a hr f;have hr:(pj b a d&&runs b (jO b a d) c)=true:=hr;rw[aB]at hr;have g:=sw a d hr.1;show HC e (oo b (jw b a d).1 c).fx;rw[g];obtain⟨_,i,_⟩:=s7 hr.1;have:=ff.1 i;exact h _ hr.2 (Cu f b dj _ _ _)
def HC.len{b:Nat}{c:fg}(d:HC b c)(e:c.Ee):∀a∈c.dV,a.d8.length<=b:=λa hl=>by
 have:=Kt a.d8 0 b (e a hl) (d a hl);omega
def uH(a:Nat)(b:dR):HC a (jA b).fx:=by
 intro c hl;unfold jA kM at hl;simp only[List.mem_map]at hl;obtain⟨_,_,rfl⟩:=hl;simp
end
noncomputable section
open Go Go.TI
attribute [-simp] List.map_take List.map_drop List.map_append fj eG dY Bool.not_or Bool.not_and
attribute [simp] fh eJ
attribute [-simp] size_cons
def Hy{c:dR}{d:dW}{b:List dX}{a:Nat}(e:a<b.length):oo c d (b.drop a)=oo c (jw c d b[a]).1 (b.drop (a+1)):=by
 rw[aI e];rfl
def qM:f7:=⟨jQ×Nat,λa=>[a.1.t,dw a.2],λa=>jK a.1.ez=true/\IV a.1.dH/\a.2<=a.1.dH.length/\a.1.dH.length<=1000,λa=>(oo a.1.ez (jA a.1.ez) (a.1.dH.take a.2)).t,λa c b=>by
 simp at b;rw[jQ.inj b.1,show a.2=c.2 by omega]⟩
structure kH(w:eK):Prop where
 ok:wI w
 wb:jK w.ez=true
 sm:qn 1000 w.jG
 ev:IV w.dH
 rdt:HC 4 w.jG.fx
def kK:f7:=⟨eK×Int,λa=>[a.1.t,dw a.2],λa=>kH a.1,λa=>(oo a.1.ez a.1.jG (a.1.dH.take a.2.toNat)).t,λa c b=>by
 simp at b;rw[eK.inj b.1,b.2]⟩
def zq{c:fq}(ht:c.p 62=some kK)(e:kK.Ok Tryz.prog cx 62)(a:eK)(b:Int)(d:kH a):rl Tryz.prog cx c 62 [a.t,dw b]=some (oo a.ez a.jG (a.dH.take b.toNat)).t:=gF ht e (a,b) d
def Lq:qM.Ok Tryz.prog cx 46:=by
 refine gH (tb:=⟨pt [(41,nT),(66,kY)],ht []⟩) ei eg (iL 4215 [] Tryz.func46) (λ_=>2000) (by simp[qM]) (by simp[qM,Tryz.f46]) ?_;rintro⟨⟨a,i⟩,k⟩ ⟨B,y,H,hl⟩ g x;simp only at B y H hl;simp[qM]at x|-;obtain⟨E,j⟩:=x;obtain⟨N,O,P,Q,R,S⟩:=qB B;simp[Tryz.f46,E,Ck,show a.dV.length<=1000000 by omega,show a.dT.length<=1000000 by omega,show a.dB.length<=1000000 by omega,show a.cells.length<=1000000 by omega];refine fc k dj (λe g d=>∃l f,qn e f/\oo a f ((i.take k).drop e)=oo a (jA a) (i.take k)/\gu 3 d/\d.get 0=some (dy 7 0 [jQ.t ⟨a,i⟩])/\d.get 1=some (dy 7 0 [.agg [dx,dw 0,dx,dx,dx,dx,dx]])/\d.get 2=some (dy 7 l [f.t])/\dz g 1 (dw k)/\dz g 2 (.ptr 0 0 0 0)/\dz g 4 (.ptr 1 0 0 0)/\dz g 5 (.ptr 2 0 0 0)/\dz g 6 (dw e)) ?_ ?_ dj ?_
 ·rintro e g d G F ⟨l,f,u,h,c,m,n,o,j,w,q,r,s⟩;have K:=c.ne (b:=0) dj;have L:=c.ne (b:=1) dj;have M:=c.ne (b:=2) dj;have A:e<i.length:=dj;have z:=y i[e] (aF A);rw[Hy dq,List.getElem_take]at h;have C:=λ{tb:fq} (ht:tb.p 66=some kY)=>yo ht a f i[e] dj (u.up dj) z.1 z.2;simp[m,o,j,w,q,r,s,A,C,G,F];have J:2<d.size:=by have:=c.sz;omega
  refine⟨l+1,(jw a f i[e]).1,u.step a _,h,c.put _ _,?_,?_,?_⟩<;>rw[md c.hp J]<;>simp[m,n]
 ·rintro g d ⟨l,f,u,h,c,m,n,o,j,w,q,r,s⟩;rw[List.drop_eq_nil_of_le dq]at h;have I:1<d.size:=by have:=c.sz;omega
  have D:∀v,(dQ d 1 v).get 1=some v:=λv=>by rw[md c.hp I];simp
  have h:f=_:=h;rw[<-h];simp[j,q,r,s,o,n,D,c.hp]
 ·exact⟨1,jA a,tO a dj,dp,by exact⟨dp,dp,dp⟩,by simp[j]⟩
def wZ:kK.Ok Tryz.prog cx 62:=by
 refine gH (tb:=⟨pt [(66,kY)],ht []⟩) ei eg (iL 262263 [] Tryz.func62) (λ_=>2000) (by simp[kK]) (by simp[kK,Tryz.f62]) ?_;rintro⟨f,l⟩ k h C;replace k:kH f:=k;simp[kK]at C|-;obtain⟨I,j⟩:=C;obtain⟨M,N,O,P,Q,R⟩:=qB k.wb;have hl:=k.ok.len;have G:=k.sm;have E:=k.ev;obtain⟨f,L,y,e⟩:=f;simp[Tryz.f62,I];simp only at M N O P Q R hl G E;generalize V:min l.toNat e.length=x;refine fc x dj (λd h c=>∃v g,qn (1000+d) g/\oo f g ((e.take l.toNat).drop d)=oo f y (e.take l.toNat)/\gu 3 c/\c.get 0=some (dy 15 0 [eK.t ⟨f,L,y,e⟩])/\c.get 1=some (dy 7 0 [.agg [dx,dw 0,dx,dx,dx,dx,dx]])/\c.get 2=some (dy 7 v [g.t])/\dz h 1 (dw l)/\dz h 2 (.ptr 0 0 0 0)/\dz h 4 (.ptr 1 0 0 0)/\dz h 5 (.ptr 2 0 0 0)/\dz h 6 (dw d)) ?_ ?_ dj ?_
 ·rintro d h c U J ⟨v,g,z,i,a,m,n,o,j,w,q,r,s⟩;have W:=a.ne (b:=0) dj;have X:=a.ne (b:=1) dj;have Y:=a.ne (b:=2) dj;have F:d<e.length:=dj;have u:(d:Int)<l:=dj;have D:=E e[d] (aF F);rw[Hy dq,List.getElem_take]at i;have H:=λ{tb:fq} (ht:tb.p 66=some kY)=>yo ht f g e[d] dj (z.up dj) D.1 D.2;simp[m,o,j,w,q,r,s,F,H,u,J];have T:2<c.size:=by have:=a.sz;omega
  refine⟨v+1,(jw f g e[d]).1,(z.step f _).up dj,i,a.put _ _,?_,?_,?_⟩<;>rw[md a.hp T]<;>simp[m,n]
 ·rintro h c ⟨v,g,z,i,a,m,n,o,j,w,q,r,s⟩;rw[List.drop_eq_nil_of_le dq]at i;have S:1<c.size:=by have:=a.sz;omega
  have B:∀A,(dQ c 1 A).get 1=some A:=λA=>by rw[md a.hp S];simp
  have i:g=_:=i;rw[<-i];by_cases u:(x:Int)<l
  ·have K:¬x<e.length:=dj;simp[j,w,q,r,s,m,o,n,u,K,B,a.hp]
  ·simp[j,q,r,s,o,n,u,B,a.hp]
 ·exact⟨1,y,G,dp,by exact⟨dp,dp,dp⟩,by simp[j]⟩
end
end Go.Proofs.YtmaeadedikngoaaGreatDoor
