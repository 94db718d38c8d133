/- Texts W16e to W18b. -/
import Derived.Test.YtmaeadedikngoaaGreatDoorA19
import Derived.Test.YtmaeadedikngoaaGreatDoorA23
set_option linter.all false
set_option maxRecDepth 100000
set_option maxHeartbeats 8000000
namespace Go.Proofs.YtmaeadedikngoaaGreatDoor
noncomputable section
open Go Go.TI
attribute [-simp] List.map_take List.map_drop List.map_append fG fg ei Bool.not_or Bool.not_and
attribute [simp] fF fh
def Kb(b:List ez):Prop:=∀a∈b,a.mN.length<=1000000/\a.vh.length<=1000000
def PA(b:Prop)(c:T):Prop:=∃d a:Int,c= .tuple [dE d,dE a]/\(a=0↔b)
def t9(c:Prop)(e b:Int):PA c (.tuple [dE e,dE b])=(b=0↔c):=by
 unfold PA;apply propext;constructor
 ·rintro⟨f,g,d,a⟩;simp at d;rw[d.2];exact a
 ·exact λa=>⟨e,b,rfl,a⟩
def rG{a:d8}(b:j3 a=true):a.cells.length<=12/\a.em.length<=4/\a.gW.length<=2/\a.eg.length<=2/\a.iG.length<=60/\a.dK.length<=4:=by
 unfold j3 sI at b;simp only[aB,aK]at b;omega
def EF:nO Tryz.prog cx 45 (λo:kc=>[o.t]) (λo=>Kb o.dO/\o.dO.length<=1000000) (λo=>PA (pQ o.fj o.dO=true)):=by
 refine jt (tb:=⟨pt [(67,vJ),(41,oN),(66,lQ),(78,rL)],ht []⟩) fa eQ (iR 9223372036871623167 [] Tryz.func45) (λ_=>1000) (λj b f=>by simp at f;exact kc.inj f) dA (by simp[Tryz.f45]) ?_;rintro⟨a,c⟩ ⟨K,hl⟩ s J;simp only at K hl;simp at J;simp[Tryz.f45,J];refine ee (λG=> ?_) (λG=> ?_)
 ·simp[t9];simp at G;unfold pQ;rw[aP dz];simp
 simp at G;simp[y8];refine ee (λz=> ?_) (λz=> ?_)
 ·simp[t9];simp at z;unfold pQ;rw[show j3 a=false by simpa using z];simp
 have L:j3 a=true:=by simpa using z
 obtain⟨V,W,X,Y,Z,ae⟩:=rG L;simp[Dc,show a.em.length<=1000000 by omega,show a.eg.length<=1000000 by omega,show a.dK.length<=1000000 by omega,show a.cells.length<=1000000 by omega];have R:pQ a c=Gw (qd a) Ru (j9 a) [] (jT a) c:=by unfold pQ;rw[L,aY dz];simp
 rw[R];refine fy c.length dz (λe s f=>∃C i,rg e i/\Gw (qd a) Ru (j9 a) [] (jT a) c=Gw (qd a) Ru (j9 a) (c.take e) i (c.drop e)/\ig 2 f/\f.get 0=some (dG 7 0 [kc.t ⟨a,c⟩])/\f.get 1=some (dG 7 C [i.t])/\dH s 1 (.ptr 0 0 0 0)/\dH s 4 (.ptr 1 0 0 0)/\dH s 5 (dE e)) ?_ ?_ dz ?_
 ·rintro e s f y Q ⟨C,i,H,g,h,l,D,r,F,m⟩;have v:=h.ne (b:=0) dz;have M:=h.ne (b:=1) dz;have n:=K c[e] (aC y);rw[aJ y,Gw]at g;have T:c.take (e+1)=c.take e++[c[e]]:=aZ y;simp[l,D,r,F,m,y,v,M,h.low];generalize c[e]=d at*
  have q:=λ{tb:fJ} (ht:tb.p 66=some lQ)=>za ht a i d dz (H.up dz) n.1 n.2;have E:=λ{tb:fJ} (ht:tb.p 78=some rL) (N:List Int) (S:N.length<=1000000)=>QE ht c e d.dT N dz dz S;have I:(f.size=0)=False:=by have:=h.sz;simp;omega
  have A:∀j b k,dY ((f.cons j).cons b) (f.size+1) k=(f.cons j).cons k:=λj b k=>B9 _ _ _ _ rfl (by have:=h.low;simp;omega);cases w:qd a i d with
  |false=>
   rw[lI w]at q;rw[w]at g;simp[m,h.hp,A,q,t9,g]
  |true=>
   rw[show jO a i d=(j9 a i d,true)by unfold jO;rw[aq w]]at q;cases x:vI (c.take e) d.dT d.mN with
   |false=>
    have:Ru (c.take e) d=false:=by unfold Ru;rw[x];rfl
    rw[this]at g;simp[l,r,m,v,h.hp,A,I,q,E,n.1,t9,g,x]
    |true=>
    cases B:vI (c.take e) d.dT d.vh with
    |false=>
     have:Ru (c.take e) d=false:=by unfold Ru;rw[B];simp
     rw[this]at g;simp[l,r,m,v,h.hp,A,I,q,E,n.1,n.2,t9,g,x,B]
      |true=>
     have:Ru (c.take e) d=true:=by unfold Ru;rw[x,B];rfl
     rw[this,w]at g;have O:=H.step a d;rw[show jO a i d=(j9 a i d,true)by unfold jO;rw[aq w]]at O;simp[l,D,r,F,m,v,M,A,I,q,E,n.1,n.2,x,B,Q];have P:∀j b k u,(dY ((f.cons j).cons b) 1 k).get u=if u=1 then some k else((f.cons j).cons b).get u:=λj b k u=>mM (by simp[h.hp]) dA k u;refine⟨C+1,j9 a i d,O,by rw[T];simpa using g,((h.cons _).cons _).put _ _,?_,?_⟩<;>rw[P]
     ·have U:(0=f.size+1)=False:=dA;simp[l,v]
     ·simp
 ·rintro s f ⟨C,i,H,g,h,l,D,r,F,m⟩;simp[Gw]at g;simp[l,r,m,g,t9,h.hp]
 ·exact⟨1,jT a,uv a dz,dA,⟨dA,dA,dA⟩,dA⟩
end
noncomputable section
open Go Go.TI
def IJ(c:Nat)(d:fH):Prop:=∀b∈d.em,∀a∈b.eJ,0<=a/\a<c
def IJ.qv{b:Nat}{c:fH}(f:IJ b c){i:Int}{d:ed->ed}(g:∀a∈c.em,∀e∈(d a).eJ,0<=e/\e<b):IJ b (c.qv i d):=by
 intro a hl;unfold fH.qv at hl;rcases mem_modify hl with j|⟨k,h,rfl⟩
 ·exact f a j
 ·exact g k h
def Dk{f:Nat}{k:fH}(b:IJ f k)(q:d8){g:Int}(ht:0<=g/\g<f)(n o r:Int):IJ f (ff q k g n o r).1:=by
 have m:∀(d:Int) (c:ed->ed),(∀a,(c a).eJ=a.eJ\/(c a).eJ=mf a.eJ g\/(c a).eJ=a.eJ.filter λj=> !decide (j=g))->IJ f (k.qv d c):=λd c h=>b.qv λa hl l i=>by
  rcases h a with e|e|e<;>rw[e]at i
  ·exact b a hl l i
  ·rcases CE i with p|rfl
   ·exact b a hl l p
   ·exact ht
  ·exact b a hl l (List.mem_filter.1 i).1
 exact uW (P:=λj=>IJ f j.1) b b (λ_ _ _=>b) (λd c h=>⟨m d c h,λ_ _=>m d c h⟩) (λ_=>b) (λ_ _=>b) (λ_=>b)
def LQ{b:d8}{e:Nat}(j:b.dK.length<=e):∀(c:List ez) (a:ej),runs b a c=true->IJ e a.fM->IJ e (o9 b a c).fM:=by
 intro c;induction c with
 |nil=>intro a _ f;exact f
 |cons d c h=>
  intro a hr f;have hr:(qd b a d&&runs b (j9 b a d) c)=true:=hr;rw[aB]at hr;have g:=tL a d hr.1;show IJ e (o9 b (jO b a d).1 c).fM;rw[g];obtain⟨_,i,_⟩:=rn hr.1;have:=fq.1 i;exact h _ hr.2 (Dk f b dz _ _ _)
def IJ.len{b:Nat}{c:fH}(d:IJ b c)(e:c.E4):∀a∈c.em,a.eJ.length<=b:=λa hl=>by
 have:=LO a.eJ 0 b (e a hl) (d a hl);omega
def vy(a:Nat)(b:d8):IJ a (jT b).fM:=by
 intro c hl;unfold jT ly at hl;simp only[List.mem_map]at hl;obtain⟨_,_,rfl⟩:=hl;simp
end
noncomputable section
open Go Go.TI
attribute [-simp] List.map_take List.map_drop List.map_append fG fg ei Bool.not_or Bool.not_and
attribute [simp] fF fh
attribute [-simp] size_cons
def IF{c:d8}{d:ej}{b:List ez}{a:Nat}(e:a<b.length):o9 c d (b.drop a)=o9 c (jO c d b[a]).1 (b.drop (a+1)):=by
 rw[aJ e];rfl
def rO:hU:=⟨kc×Nat,λa=>[a.1.t,dE a.2],λa=>j3 a.1.fj=true/\Kb a.1.dO/\a.2<=a.1.dO.length/\a.1.dO.length<=1000,λa=>(o9 a.1.fj (jT a.1.fj) (a.1.dO.take a.2)).t,λa c b=>by
 simp at b;rw[kc.inj b.1,show a.2=c.2 by omega]⟩
structure kq(w:eZ):Prop where
 ok:vd w
 wb:j3 w.fj=true
 sm:rg 1000 w.jY
 ev:Kb w.dO
 rdt:IJ 4 w.jY.fM
def lx:hU:=⟨eZ×Int,λa=>[a.1.t,dE a.2],λa=>kq a.1,λa=>(o9 a.1.fj a.1.jY (a.1.dO.take a.2.toNat)).t,λa c b=>by
 simp at b;rw[eZ.inj b.1,b.2]⟩
def Ay{c:fJ}(ht:c.p 62=some lx)(e:lx.Ok Tryz.prog cx 62)(a:eZ)(b:Int)(d:kq a):rl Tryz.prog cx c 62 [a.t,dE b]=some (o9 a.fj a.jY (a.dO.take b.toNat)).t:=im ht e (a,b) d
def MQ:rO.Ok Tryz.prog cx 46:=by
 refine iv (tb:=⟨pt [(41,oN),(66,lQ)],ht []⟩) fa eQ (iR 4215 [] Tryz.func46) (λ_=>2000) (by simp[rO]) (by simp[rO,Tryz.f46]) ?_;rintro⟨⟨a,i⟩,k⟩ ⟨B,y,H,hl⟩ g x;simp only at B y H hl;simp[rO]at x|-;obtain⟨E,j⟩:=x;obtain⟨N,O,P,Q,R,S⟩:=rG B;simp[Tryz.f46,E,Dc,show a.em.length<=1000000 by omega,show a.eg.length<=1000000 by omega,show a.dK.length<=1000000 by omega,show a.cells.length<=1000000 by omega];refine fy k dz (λe g d=>∃l f,rg e f/\o9 a f ((i.take k).drop e)=o9 a (jT a) (i.take k)/\ig 3 d/\d.get 0=some (dG 7 0 [kc.t ⟨a,i⟩])/\d.get 1=some (dG 7 0 [.agg [dF,dE 0,dF,dF,dF,dF,dF]])/\d.get 2=some (dG 7 l [f.t])/\dH g 1 (dE k)/\dH g 2 (.ptr 0 0 0 0)/\dH g 4 (.ptr 1 0 0 0)/\dH g 5 (.ptr 2 0 0 0)/\dH g 6 (dE e)) ?_ ?_ dz ?_
 ·rintro e g d G F ⟨l,f,u,h,c,m,n,o,j,w,q,r,s⟩;have K:=c.ne (b:=0) dz;have L:=c.ne (b:=1) dz;have M:=c.ne (b:=2) dz;have A:e<i.length:=dz;have z:=y i[e] (aC A);rw[IF dB,List.getElem_take]at h;have C:=λ{tb:fJ} (ht:tb.p 66=some lQ)=>za ht a f i[e] dz (u.up dz) z.1 z.2;simp[m,o,j,w,q,r,s,A,C,G,F];have J:2<d.size:=by have:=c.sz;omega
  refine⟨l+1,(jO a f i[e]).1,u.step a _,h,c.put _ _,?_,?_,?_⟩<;>rw[mM c.hp J]<;>simp[m,n]
 ·rintro g d ⟨l,f,u,h,c,m,n,o,j,w,q,r,s⟩;rw[List.drop_eq_nil_of_le dB]at h;have I:1<d.size:=by have:=c.sz;omega
  have D:∀v,(dY d 1 v).get 1=some v:=λv=>by rw[mM c.hp I];simp
  have h:f=_:=h;rw[<-h];simp[j,q,r,s,o,n,D,c.hp]
 ·exact⟨1,jT a,uv a dz,dA,by exact⟨dA,dA,dA⟩,by simp[j]⟩
def xM:lx.Ok Tryz.prog cx 62:=by
 refine iv (tb:=⟨pt [(66,lQ)],ht []⟩) fa eQ (iR 262263 [] Tryz.func62) (λ_=>2000) (by simp[lx]) (by simp[lx,Tryz.f62]) ?_;rintro⟨f,l⟩ k h C;replace k:kq f:=k;simp[lx]at C|-;obtain⟨I,j⟩:=C;obtain⟨M,N,O,P,Q,R⟩:=rG k.wb;have hl:=k.ok.len;have G:=k.sm;have E:=k.ev;obtain⟨f,L,y,e⟩:=f;simp[Tryz.f62,I];simp only at M N O P Q R hl G E;generalize V:min l.toNat e.length=x;refine fy x dz (λd h c=>∃v g,rg (1000+d) g/\o9 f g ((e.take l.toNat).drop d)=o9 f y (e.take l.toNat)/\ig 3 c/\c.get 0=some (dG 15 0 [eZ.t ⟨f,L,y,e⟩])/\c.get 1=some (dG 7 0 [.agg [dF,dE 0,dF,dF,dF,dF,dF]])/\c.get 2=some (dG 7 v [g.t])/\dH h 1 (dE l)/\dH h 2 (.ptr 0 0 0 0)/\dH h 4 (.ptr 1 0 0 0)/\dH h 5 (.ptr 2 0 0 0)/\dH h 6 (dE d)) ?_ ?_ dz ?_
 ·rintro d h c U J ⟨v,g,z,i,a,m,n,o,j,w,q,r,s⟩;have W:=a.ne (b:=0) dz;have X:=a.ne (b:=1) dz;have Y:=a.ne (b:=2) dz;have F:d<e.length:=dz;have u:(d:Int)<l:=dz;have D:=E e[d] (aC F);rw[IF dB,List.getElem_take]at i;have H:=λ{tb:fJ} (ht:tb.p 66=some lQ)=>za ht f g e[d] dz (z.up dz) D.1 D.2;simp[m,o,j,w,q,r,s,F,H,u,J];have T:2<c.size:=by have:=a.sz;omega
  refine⟨v+1,(jO f g e[d]).1,(z.step f _).up dz,i,a.put _ _,?_,?_,?_⟩<;>rw[mM a.hp T]<;>simp[m,n]
 ·rintro h c ⟨v,g,z,i,a,m,n,o,j,w,q,r,s⟩;rw[List.drop_eq_nil_of_le dB]at i;have S:1<c.size:=by have:=a.sz;omega
  have B:∀A,(dY c 1 A).get 1=some A:=λA=>by rw[mM a.hp S];simp
  have i:g=_:=i;rw[<-i];by_cases u:(x:Int)<l
  ·have K:¬x<e.length:=dz;simp[j,w,q,r,s,m,o,n,u,K,B,a.hp]
  ·simp[j,q,r,s,o,n,u,B,a.hp]
 ·exact⟨1,y,G,dA,by exact⟨dA,dA,dA⟩,by simp[j]⟩
end
end Go.Proofs.YtmaeadedikngoaaGreatDoor
