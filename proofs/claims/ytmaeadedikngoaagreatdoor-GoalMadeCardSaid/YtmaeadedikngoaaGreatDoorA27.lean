/- Texts W16e to W16e. -/
import Derived.Test.YtmaeadedikngoaaGreatDoorA26
set_option linter.unusedVariables false
set_option linter.unusedSimpArgs false
set_option maxRecDepth 100000
set_option maxHeartbeats 8000000
namespace Go.Proofs.YtmaeadedikngoaaGreatDoor
noncomputable section
open Go Go.TI
attribute [-simp] List.map_take List.map_drop List.map_append fi ei dT Bool.not_or Bool.not_and
attribute [simp] fh ew
def Pc(b:List dN):Prop:=∀a∈b,a.mt.length<=1000000/\a.uI.length<=1000000
def Ng(b:Prop)(c:T):Prop:=∃d a:Int,c= .tuple [.int .i64 d,.int .i64 a]/\(a=0↔b)
theorem su(c:Prop)(e b:Int):Ng c (.tuple [.int .i64 e,.int .i64 b])=(b=0↔c):=by
 unfold Ng;apply propext;constructor
 ·rintro⟨f,g,d,a⟩;simp at d;rw[d.2];exact a
 ·exact λa=>⟨e,b,rfl,a⟩
theorem rU{a:dJ}(b:jN a=true):a.cells.length<=12/\a.dP.length<=4/\a.fP.length<=2/\a.dR.length<=2/\a.gW.length<=60/\a.dp.length<=4:=by
 unfold jN rj at b
 simp only[ay,aL]at b
 omega
theorem CO:nZ Tryz.prog cx 45 (λo:jG=>[o.t]) (λo=>Pc o.dw/\o.dw.length<=1000000) (λo=>Ng (oL o.d8 o.dw=true)):=by
 refine jk (tb:=⟨pt [(67,wv),(41,qu),(66,nL),(78,qx)],ht []⟩) dX dU (iN 9223372036871623167 [] Tryz.func45) (λ_=>1000) (λj b f=>by simp at f;exact jG.inj f) (by simp) (by simp[Tryz.f45]) ?_
 rintro⟨a,c⟩ ⟨K,hl⟩ s J
 simp only at K hl
 simp at J
 simp[Tryz.f45,J]
 refine dM (λG=> ?_) (λG=> ?_)
 ·simp[su]
  simp at G
  unfold oL;rw[bg (by omega)];simp
 simp at G
 simp[GJ]
 refine dM (λz=> ?_) (λz=> ?_)
 ·simp[su]
  simp at z
  unfold oL;rw[show jN a=false by simpa using z];simp
 have L:jN a=true:=by simpa using z
 obtain⟨V,W,X,Y,Z,ae⟩:=rU L
 simp[GP,show a.dP.length<=1000000 by omega,show a.dR.length<=1000000 by omega,show a.dp.length<=1000000 by omega,show a.cells.length<=1000000 by omega]
 have R:oL a c=EF (qC a) O7 (mm a) [] (jE a) c:=by unfold oL;rw[L,bw (by omega)];simp
 rw[R]
 refine eQ c.length (by omega) (λe s f=>∃C i,ui e i/\EF (qC a) O7 (mm a) [] (jE a) c=EF (qC a) O7 (mm a) (c.take e) i (c.drop e)/\gh 2 f/\f.get 0=some ⟨7,0,0,true,false,[jG.t ⟨a,c⟩]⟩/\f.get 1=some ⟨7,0,C,true,false,[i.t]⟩/\TI.dt s 1=some (.ptr 0 0 0 0)/\TI.dt s 4=some (.ptr 1 0 0 0)/\TI.dt s 5=some (.int .i64 e)) ?_ ?_ (by omega) ?_
 ·rintro e s f y Q ⟨C,i,H,g,h,l,D,r,F,m⟩
  have v:=h.ne (b:=0) (by omega)
  have M:=h.ne (b:=1) (by omega)
  have n:=K c[e] (aF y)
  rw[aJ y,EF]at g
  have T:c.take (e+1)=c.take e++[c[e]]:=bj y
  simp[l,D,r,F,m,y,v,M,h.low]
  generalize c[e]=d at*
  have q:=λ{tb:eG} (ht:tb.p 66=some nL)=>EH ht a i d (by omega) (H.up (by omega)) n.1 n.2
  have E:=λ{tb:eG} (ht:tb.p 78=some qx) (N:List Int) (S:N.length<=1000000)=>Oc ht c e d.dA N (by omega) (by omega) S
  have I:(f.size=0)=False:=by have:=h.sz;simp;omega
  have A:∀j b k,dI ((f.cons j).cons b) (f.size+1) k=(f.cons j).cons k:=λj b k=>AM _ _ _ _ rfl (by have:=h.low;simp;omega)
  cases w:qC a i d with
  |false=>
   rw[md w]at q
   rw[w]at g
   simp[m,h.hp,A,q,su,g]
  |true=>
   rw[show jO a i d=(mm a i d,true)by unfold jO;rw[aq w]]at q
   cases x:ut (c.take e) d.dA d.mt with
   |false=>
    have:O7 (c.take e) d=false:=by unfold O7;rw[x];rfl
    rw[this]at g
    simp[l,r,m,v,h.hp,A,I,q,E,n.1,su,g,x]
    |true=>
    cases B:ut (c.take e) d.dA d.uI with
    |false=>
     have:O7 (c.take e) d=false:=by unfold O7;rw[B];simp
     rw[this]at g
     simp[l,r,m,v,h.hp,A,I,q,E,n.1,n.2,su,g,x,B]
      |true=>
     have:O7 (c.take e) d=true:=by unfold O7;rw[x,B];rfl
     rw[this,w]at g
     have O:=H.step a d
     rw[show jO a i d=(mm a i d,true)by unfold jO;rw[aq w]]at O
     simp[l,D,r,F,m,v,M,A,I,q,E,n.1,n.2,x,B,Q]
     have P:∀j b k u,(dI ((f.cons j).cons b) 1 k).get u=if u=1 then some k else((f.cons j).cons b).get u:=λj b k u=>ph (by simp[h.hp]) (by simp) k u
     refine⟨C+1,mm a i d,O,by rw[T];simpa using g,((h.cons _).cons _).put _ _,?_,?_⟩<;>rw[P]
     ·have U:(0=f.size+1)=False:=by simp
      simp[l,v]
     ·simp
 ·rintro s f ⟨C,i,H,g,h,l,D,r,F,m⟩
  simp[EF]at g
  simp[l,r,m,g,su,h.hp]
 ·exact⟨1,jE a,wu a (by omega),by simp,⟨by simp,by simp,by simp⟩,by simp⟩
end
end Go.Proofs.YtmaeadedikngoaaGreatDoor
