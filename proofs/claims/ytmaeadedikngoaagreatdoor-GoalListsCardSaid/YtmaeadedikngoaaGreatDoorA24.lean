/- Texts W16e to W18b. -/
import Derived.Test.YtmaeadedikngoaaGreatDoorA19
import Derived.Test.YtmaeadedikngoaaGreatDoorA23
set_option linter.all false
set_option maxRecDepth 100000
set_option maxHeartbeats 8000000
namespace Go.Proofs.YtmaeadedikngoaaGreatDoor
noncomputable section
open Go Go.TI
attribute [-simp] List.map_take List.map_drop List.map_append fH fh ej Bool.not_or Bool.not_and
attribute [simp] fG fj
def JU(b:List eK):Prop:=∀a∈b,a.mG.length<=1000000/\a.vh.length<=1000000
def Pk(b:Prop)(c:T):Prop:=∃d a:Int,c= .tuple [dG d,dG a]/\(a=0↔b)
def t9(c:Prop)(e b:Int):Pk c (.tuple [dG e,dG b])=(b=0↔c):=by
 unfold Pk;apply propext;constructor
 ·rintro⟨f,g,d,a⟩;simp at d;rw[d.2];exact a
 ·exact λa=>⟨e,b,rfl,a⟩
def tI{a:ee}(b:j4 a=true):a.cells.length<=12/\a.ew.length<=4/\a.gW.length<=2/\a.ei.length<=2/\a.iH.length<=60/\a.dM.length<=4:=by
 unfold j4 sH at b;simp only[ay,aJ]at b;omega
def Ey:nK Tryz.prog cx 45 (λo:kh=>[o.t]) (λo=>JU o.dS/\o.dS.length<=1000000) (λo=>Pk (pL o.fq o.dS=true)):=by
 refine ju (tb:=⟨pt [(67,vJ),(41,oG),(66,mI),(78,rI)],ht []⟩) fc fa (je 9223372036871623167 [] Tryz.func45) (λ_=>1000) (λj b f=>by simp at f;exact kh.inj f) dC (by simp[Tryz.f45]) ?_;rintro⟨a,c⟩ ⟨K,hl⟩ s J;simp only at K hl;simp at J;simp[Tryz.f45,J];refine em (λG=> ?_) (λG=> ?_)
 ·simp[t9];simp at G;unfold pL;rw[aR dB];simp
 simp at G;simp[yY];refine em (λz=> ?_) (λz=> ?_)
 ·simp[t9];simp at z;unfold pL;rw[show j4 a=false by simpa using z];simp
 have L:j4 a=true:=by simpa using z
 obtain⟨V,W,X,Y,Z,ae⟩:=tI L;simp[C2,show a.ew.length<=1000000 by omega,show a.ei.length<=1000000 by omega,show a.dM.length<=1000000 by omega,show a.cells.length<=1000000 by omega];have R:pL a c=Gm (p7 a) Rg (ke a) [] (jT a) c:=by unfold pL;rw[L,bI dB];simp
 rw[R];refine fI c.length dB (λe s f=>∃C i,sg e i/\Gm (p7 a) Rg (ke a) [] (jT a) c=Gm (p7 a) Rg (ke a) (c.take e) i (c.drop e)/\ij 2 f/\f.get 0=some (dI 7 0 [kh.t ⟨a,c⟩])/\f.get 1=some (dI 7 C [i.t])/\dJ s 1 (.ptr 0 0 0 0)/\dJ s 4 (.ptr 1 0 0 0)/\dJ s 5 (dG e)) ?_ ?_ dB ?_
 ·rintro e s f y Q ⟨C,i,H,g,h,l,D,r,F,m⟩;have v:=h.ne (b:=0) dB;have M:=h.ne (b:=1) dB;have n:=K c[e] (aC y);rw[aI y,Gm]at g;have T:c.take (e+1)=c.take e++[c[e]]:=aW y;simp[l,D,r,F,m,y,v,M,h.low];generalize c[e]=d at*
  have q:=λ{tb:fN} (ht:tb.p 66=some mI)=>Bt ht a i d dB (H.up dB) n.1 n.2;have E:=λ{tb:fN} (ht:tb.p 78=some rI) (N:List Int) (S:N.length<=1000000)=>Qn ht c e d.dZ N dB dB S;have I:(f.size=0)=False:=by have:=h.sz;simp;omega
  have A:∀j b k,d8 ((f.cons j).cons b) (f.size+1) k=(f.cons j).cons k:=λj b k=>BZ _ _ _ _ rfl (by have:=h.low;simp;omega);cases w:p7 a i d with
  |false=>
   rw[lx w]at q;rw[w]at g;simp[m,h.hp,A,q,t9,g]
  |true=>
   rw[show jY a i d=(ke a i d,true)by unfold jY;rw[aq w]]at q;cases x:vI (c.take e) d.dZ d.mG with
   |false=>
    have:Rg (c.take e) d=false:=by unfold Rg;rw[x];rfl
    rw[this]at g;simp[l,r,m,v,h.hp,A,I,q,E,n.1,t9,g,x]
    |true=>
    cases B:vI (c.take e) d.dZ d.vh with
    |false=>
     have:Rg (c.take e) d=false:=by unfold Rg;rw[B];simp
     rw[this]at g;simp[l,r,m,v,h.hp,A,I,q,E,n.1,n.2,t9,g,x,B]
      |true=>
     have:Rg (c.take e) d=true:=by unfold Rg;rw[x,B];rfl
     rw[this,w]at g;have O:=H.step a d;rw[show jY a i d=(ke a i d,true)by unfold jY;rw[aq w]]at O;simp[l,D,r,F,m,v,M,A,I,q,E,n.1,n.2,x,B,Q];have P:∀j b k u,(d8 ((f.cons j).cons b) 1 k).get u=if u=1 then some k else((f.cons j).cons b).get u:=λj b k u=>m6 (by simp[h.hp]) dC k u;refine⟨C+1,ke a i d,O,by rw[T];simpa using g,((h.cons _).cons _).put _ _,?_,?_⟩<;>rw[P]
     ·have U:(0=f.size+1)=False:=dC;simp[l,v]
     ·simp
 ·rintro s f ⟨C,i,H,g,h,l,D,r,F,m⟩;simp[Gm]at g;simp[l,r,m,g,t9,h.hp]
 ·exact⟨1,jT a,uw a dB,dC,⟨dC,dC,dC⟩,dC⟩
end
noncomputable section
open Go Go.TI
def IA(c:Nat)(d:fK):Prop:=∀b∈d.ew,∀a∈b.eY,0<=a/\a<c
def IA.qt{b:Nat}{c:fK}(f:IA b c){i:Int}{d:eg->eg}(g:∀a∈c.ew,∀e∈(d a).eY,0<=e/\e<b):IA b (c.qt i d):=by
 intro a hl;unfold fK.qt at hl;rcases mem_modify hl with j|⟨k,h,rfl⟩
 ·exact f a j
 ·exact g k h
def Da{f:Nat}{k:fK}(b:IA f k)(q:ee){g:Int}(ht:0<=g/\g<f)(n o r:Int):IA f (fg q k g n o r).1:=by
 have m:∀(d:Int) (c:eg->eg),(∀a,(c a).eY=a.eY\/(c a).eY=lY a.eY g\/(c a).eY=a.eY.filter λj=> !decide (j=g))->IA f (k.qt d c):=λd c h=>b.qt λa hl l i=>by
  rcases h a with e|e|e<;>rw[e]at i
  ·exact b a hl l i
  ·rcases Cu i with p|rfl
   ·exact b a hl l p
   ·exact ht
  ·exact b a hl l (List.mem_filter.1 i).1
 exact uW (P:=λj=>IA f j.1) b b (λ_ _ _=>b) (λd c h=>⟨m d c h,λ_ _=>m d c h⟩) (λ_=>b) (λ_ _=>b) (λ_=>b)
def LC{b:ee}{e:Nat}(j:b.dM.length<=e):∀(c:List eK) (a:eG),runs b a c=true->IA e a.fO->IA e (qz b a c).fO:=by
 intro c;induction c with
 |nil=>intro a _ f;exact f
 |cons d c h=>
  intro a hr f;have hr:(p7 b a d&&runs b (ke b a d) c)=true:=hr;rw[ay]at hr;have g:=tM a d hr.1;show IA e (qz b (jY b a d).1 c).fO;rw[g];obtain⟨_,i,_⟩:=rh hr.1;have:=fw.1 i;exact h _ hr.2 (Da f b dB _ _ _)
def IA.len{b:Nat}{c:fK}(d:IA b c)(e:c.EY):∀a∈c.ew,a.eY.length<=b:=λa hl=>by
 have:=Lz a.eY 0 b (e a hl) (d a hl);omega
def vy(a:Nat)(b:ee):IA a (jT b).fO:=by
 intro c hl;unfold jT lj at hl;simp only[cu]at hl;obtain⟨_,_,rfl⟩:=hl;simp
end
noncomputable section
open Go Go.TI
attribute [-simp] List.map_take List.map_drop List.map_append fH fh ej Bool.not_or Bool.not_and
attribute [simp] fG fj
attribute [-simp] size_cons
def QR{c:ee}{d:eG}{b:List eK}{a:Nat}(e:a<b.length):qz c d (b.drop a)=qz c (jY c d b[a]).1 (b.drop (a+1)):=by
 rw[aI e];rfl
def rL:iq:=⟨kh×Nat,λa=>[a.1.t,dG a.2],λa=>j4 a.1.fq=true/\JU a.1.dS/\a.2<=a.1.dS.length/\a.1.dS.length<=1000,λa=>(qz a.1.fq (jT a.1.fq) (a.1.dS.take a.2)).t,λa c b=>by
 simp at b;rw[kh.inj b.1,show a.2=c.2 by omega]⟩
structure ny(w:fF):Prop where
 ok:vd w
 wb:j4 w.fq=true
 sm:sg 1000 w.j7
 ev:JU w.dS
 rdt:IA 4 w.j7.fO
def Mz:rL.Ok Tryz.prog cx 46:=by
 refine iC (tb:=⟨pt [(41,oG),(66,mI)],ht []⟩) fc fa (je 4215 [] Tryz.func46) (λ_=>2000) (by simp[rL]) (by simp[rL,Tryz.f46]) ?_;rintro⟨⟨a,i⟩,k⟩ ⟨B,y,H,hl⟩ g x;simp only at B y H hl;simp[rL]at x|-;obtain⟨E,j⟩:=x;obtain⟨N,O,P,Q,R,S⟩:=tI B;simp[Tryz.f46,E,C2,show a.ew.length<=1000000 by omega,show a.ei.length<=1000000 by omega,show a.dM.length<=1000000 by omega,show a.cells.length<=1000000 by omega];refine fI k dB (λe g d=>∃l f,sg e f/\qz a f ((i.take k).drop e)=qz a (jT a) (i.take k)/\ij 3 d/\d.get 0=some (dI 7 0 [kh.t ⟨a,i⟩])/\d.get 1=some (dI 7 0 [.agg [dH,dG 0,dH,dH,dH,dH,dH]])/\d.get 2=some (dI 7 l [f.t])/\dJ g 1 (dG k)/\dJ g 2 (.ptr 0 0 0 0)/\dJ g 4 (.ptr 1 0 0 0)/\dJ g 5 (.ptr 2 0 0 0)/\dJ g 6 (dG e)) ?_ ?_ dB ?_
 ·rintro e g d G F ⟨l,f,u,h,c,m,n,o,j,w,q,r,s⟩;have K:=c.ne (b:=0) dB;have L:=c.ne (b:=1) dB;have M:=c.ne (b:=2) dB;have A:e<i.length:=dB;have z:=y i[e] (aC A);rw[QR dD,List.getElem_take]at h;have C:=λ{tb:fN} (ht:tb.p 66=some mI)=>Bt ht a f i[e] dB (u.up dB) z.1 z.2;simp[m,o,j,w,q,r,s,A,C,G,F];have J:2<d.size:=by have:=c.sz;omega
  refine⟨l+1,(jY a f i[e]).1,u.step a _,h,c.put _ _,?_,?_,?_⟩<;>rw[m6 c.hp J]<;>simp[m,n]
 ·rintro g d ⟨l,f,u,h,c,m,n,o,j,w,q,r,s⟩;rw[List.drop_eq_nil_of_le dD]at h;have I:1<d.size:=by have:=c.sz;omega
  have D:∀v,(d8 d 1 v).get 1=some v:=λv=>by rw[m6 c.hp I];simp
  have h:f=_:=h;rw[<-h];simp[j,q,r,s,o,n,D,c.hp]
 ·exact⟨1,jT a,uw a dB,dC,by exact⟨dC,dC,dC⟩,by simp[j]⟩
end
end Go.Proofs.YtmaeadedikngoaaGreatDoor
