/- S22r -/
import Derived.Test.YtmoiekepclmgbaaGreatDoorA33
set_option linter.all false
set_option maxRecDepth 100000
set_option maxHeartbeats 0
namespace Go.Proofs.YtmoiekepclmgbaaGreatDoor
noncomputable section
open Go Go.TI
def Vr{a:ej}(b:kZ a)(d:List Int):vD a.fq (mB a d [] (ka a)).2.fN:=Q1 (I:=λc=>vD a.fq c.fN) (λc i g h=>by
 have⟨j,_,_,e,f⟩:=Vl b h;rw[f];exact g.step (GD b.wb) e) d [] (ka a) b.rwo
def Qk(d:gh)(e:Int)(c:List Int):Prop:=∀a∈c,∃b,0<=a/\d.fj[a.toNat]? =some b/\b.jl=e
def Wj(d:gh)(e:Int)(c:List Int):Prop:=∀a∈c,∃b,0<=a/\d.fj[a.toNat]? =some b/\e∈b.fF
def Jq{b:ej}{d:fD}{c:Int}(a:uc b d c=true):ju c b.dY.length=true/\iP b d (lL b.dY c).eg=true:=by
 unfold uc Dy at a;simp only[ax]at a;exact⟨a.1,a.2.2⟩
def LM{c:ej}{f:fD}{d:iX}(g:d.kind=1)(e:c.gx.vR d=true)(hr:ot c f d=true):ju d.a c.dY.length=true/\ju d.b c.dY.length=true/\(lL c.dY d.a).eg≠(lL c.dY d.b).eg/\iP c f (lL c.dY d.a).eg=true/\iP c f (lL c.dY d.b).eg=true:=by
 unfold ot at hr;unfold GX.vR at e;rw[aq g,ax]at hr;rw[ao D,aq g]at e;have⟨a1,a2⟩:=Jq hr.1;have⟨h,i⟩:=Jq hr.2;refine⟨a1,h,?_,a2,i⟩;split at e
 ·unfold GX.Zt at e;simp only[ax,cj,bZ]at e;exact e.2.1.1.2
 ·simp at e
def VF{e:gh}{f g:Int}{c d:List Int}(h:Qk e f c)(i:Qk e g d)(m:f≠g){a:Int}(j:a∈c):a∉d:=λk=>by
 have⟨n,_,l1,l2⟩:=h a j;have⟨o,_,b,l⟩:=i a k;rw[l1]at b;simp only[ar]at b;exact m (by rw[<-l2,<-l,b])
def Jy{h:fc}{b:gh}{g q:Int}{d e:List Int}(p:vD h b)(k:mn h b=true)(ht:0<=g)(i:Qk b g d)(j:Wj b q e){a:Int}(l:a∈d):a∉e:=λm=>by
 have⟨n,_,l1,l2⟩:=i a l;have⟨r,_,c,o⟩:=j a m;rw[l1]at c;simp only[ar]at c;subst c;have f:=(List.getElem?_eq_some_iff.1 l1).1;rw[(mF k).1]at f;have:=(p a.toNat n _ l1 (az f) (List.ne_nil_of_mem o)).1;omega
end
noncomputable section
open Go Go.TI Tryz
attribute [-simp] List.map_take List.map_drop List.map_append fU fK fh Bool.not_or Bool.not_and
attribute [simp] fT fM
section
attribute [-simp] size_cons
structure UT(h:H)(s:gh)(t:Int)(n:Nat)(A B:List Int)(va vb:T):Prop where
 ga:Gr h va 1 (ij A)
 gb:Gr h vb 1 (ij B)
 da:∀b,eG va=some b->2<=b/\eG vb≠some b
 db:∀b,eG vb=some b->2<=b
 ok:iE 2 h
 b1:h.get 1=some (dS 4 0 [s.t])
 la:A.length<=n
 lb:B.length<=n
 hA:Qk s t A
 hB:Wj s t B
def UT.up{d:H}{h:gh}{i:Int}{g f:Nat}{b c:List Int}{j k:T}(a:UT d h i g b c j k)(e:g<=f):UT d h i f b c j k:=⟨a.ga,a.gb,a.da,a.db,a.ok,a.b1,aQ a.la e,aQ a.lb e,a.hA,a.hB⟩
def UT.aig{j k:H}{g:gh}{h d:Int}{m:Nat}{e i:List Int}{o p n:T}(a:UT j g h m e i o p)(r:Xt j o 1 (ij (e++[d])) n k)(s:∃l,0<=d/\g.fj[d.toNat]? =some l/\l.jl=h):UT k g h (m+1) (e++[d]) i n p:=by
 obtain⟨a1,a2,a3,a4⟩:=r;have w:=a.ok.sz;refine⟨a1,a.gb.mono λb c=>?_,λb c=>?_,a.db,⟨a4.hp,a4.low,by have:=a4.sz;omega⟩,(a2 1 D λq=>by have:=(a.da 1 q).1;omega).trans a.b1,by have:=a.la;simp;omega,by have:=a.lb;omega,λu t=>?_,a.hB⟩
 ·have⟨_,_,_,_,f,_⟩:=a.gb.box c;exact a2 b (H.fG f) λq=>(a.da b q).2 c
 ·rcases a3 b c with q|q
  ·exact a.da b q
  ·refine⟨D,λv=>?_⟩;have⟨_,_,_,_,f,_⟩:=a.gb.box v;have:=H.fG f;omega
 ·rcases List.mem_append.1 t with q|q
  ·exact a.hA u q
  ·rw[List.mem_singleton.1 q];exact s
def UT.aif{j k:H}{g:gh}{h d:Int}{m:Nat}{i e:List Int}{o p n:T}(a:UT j g h m i e o p)(r:Xt j p 1 (ij (e++[d])) n k)(s:∃l,0<=d/\g.fj[d.toNat]? =some l/\h∈l.fF):UT k g h (m+1) i (e++[d]) o n:=by
 obtain⟨a1,a2,a3,a4⟩:=r;have v:=a.ok.sz;refine⟨a.ga.mono λb c=>?_,a1,λb c=>⟨(a.da b c).1,λq=>?_⟩,λb c=>?_,⟨a4.hp,a4.low,by have:=a4.sz;omega⟩,(a2 1 D λq=>by have:=a.db 1 q;omega).trans a.b1,by have:=a.la;omega,by have:=a.lb;simp;omega,a.hA,λu t=>?_⟩
 ·have⟨_,_,_,_,f,_⟩:=a.ga.box c;exact a2 b (H.fG f) (a.da b c).2
 ·rcases a3 b q with z|z
  ·exact(a.da b c).2 z
  ·have⟨_,_,_,_,f,_⟩:=a.ga.box c;have:=H.fG f;omega
 ·rcases a3 b c with q|q
  ·exact a.db b q
  ·omega
 ·rcases List.mem_append.1 t with q|q
  ·exact a.hB u q
  ·rw[List.mem_singleton.1 q];exact s
def B8:o9 prog cx 11 (λb:fc×gh×Int=>[b.1.t,b.2.1.t,G b.2.2]) (λb=>mn b.1 b.2.1=true/\ju b.2.2 b.1.dW.length=true/\b.1.iB.length<=1000000/\b.2.1.fj.length<=1000/\∀F∈b.2.1.fj,F.fF.length<=1000000) (λb a=>∃d h:List Int,a= .tuple [sl (ij d),sl (ij h)]/\d.length<=1000000/\h.length<=1000000/\Qk b.2.1 b.2.2 d/\Wj b.2.1 b.2.2 h):=by
 refine jL [(31,tq),(32,ue),(12,Db)] (jr 2252350110566367 [] func11) (λb=>1000005) (λb L i=>by simp at i;exact aD (fc.inj i.1) (aD (gh.inj i.2.1) i.2.2)) ?_;rintro⟨H,o,s⟩ ⟨y,ht,E,hl,hr⟩ c v;simp only at y ht E hl hr;simp at v;obtain⟨B,C,e⟩:=v;simp[f11,B,C,e,u7,FR,y,ht,show H.iB.length<=1099511627776 by omega];refine gu o.fj.length D (λg c i=>∃d h n p,UT i o s (2*g) d h n p/\dT c 2 (G s)/\dT c 4 (.ptr 1 0 0 0)/\dT c 8 n/\dT c 9 p/\dT c 10 (G g)) ?_ ?_ D ⟨[],[],dR,dR,⟨Gr.nil _ _,Gr.nil _ _,Y,Y,by exact⟨Y,Y,Y⟩,Y,Y,Y,by simp[Qk],by simp[Wj]⟩,by simp[e]⟩
 ·rintro g c i r w ⟨d,h,n,p,a,e,k,l,m,j⟩;have O:=hr o.fj[g] (aC r);have x:o.fj[Int.toNat ((g:Nat):Int)]? =some o.fj[g]:=by rw[cm];exact az r
  have⟨R,M,u,z⟩:=a.ga.my (cx:=cx) (f:=T.int .i64) (a.ok.QZ (aw _)) kx rfl mP rfl Y (λ_=>rfl) (g:Int) (by have:=a.la;simp;omega);simp[e,k,j,r,a.b1];refine kP (λc i=>∃d n,UT i o s (2*g+1) d h n p/\dT c 2 (G s)/\dT c 4 (.ptr 1 0 0 0)/\dT c 8 n/\dT c 9 p/\dT c 10 (G g)) (λq=>?_) (λq=>?_) ?_
  ·simp[e,k,l,m,j,u];exact⟨_,a.aig z ⟨_,D,x,by simpa using q⟩⟩
  ·simp[e,k,l,m,j];exact⟨d,a.up D⟩
  clear u z a e k l m j;rintro c i ⟨d,n,a,e,k,l,m,j⟩;have⟨S,N,A,I⟩:=a.gb.my (cx:=cx) (f:=T.int .i64) (a.ok.QZ (aw _)) kx rfl mP rfl Y (λ_=>rfl) (g:Int) (by have:=a.lb;simp;omega);simp[e,k,j,r,a.b1,M2,show o.fj[g].fF.length<=1099511627776 by omega];refine fw (λq=>?_) (λq=>?_)
  ·simp[e,k,l,m,j,A,w];exact⟨d,h++[(g:Int)],(a.aif I ⟨_,D,x,by simpa using q⟩).up D⟩
  ·simp[e,k,l,m,j,w];exact⟨d,h,a.up D⟩
 ·rintro c i ⟨d,h,n,p,a,e,k,l,m,j⟩;have J:=a.ga.qC Y;have K:=a.gb.qC Y;have P:=a.la;have Q:=a.lb;simp[k,l,m,j,a.b1,a.ok.hp,J,K];exact⟨d,h,⟨rfl,rfl⟩,D,D,a.hA,a.hB⟩
def VS:RA.Ok prog cx 3:=by
 refine iq [(5,EH.jX),(7,GR),(6,GN),(8,AN),(9,wH),(10,uQ),(11,B8.jX),(12,Db),(13,pJ),(14,HV)] (jr 5708990856247507757760778084050817313264369527 [(4,[(0,2),(2,7),(3,7)])] func3) (λa=>1000005) (by simp[RA]) ?_;rintro⟨v,l⟩ ⟨b6,bB⟩ c bN;simp only at b6 bB;simp[RA]at bN|-;obtain⟨cX,bu⟩:=bN;simp[f3,cX,bu];refine fw (λbW=>?_) (λbW=>?_)
 ·simp
 have⟨o,P,k,c6,m,c1,cF,cb,b9,cp,w,ds,c4,ca⟩:=Tu b6 bB (l:=l) (by simp at bW;omega);simp[bu,cF,cb,b9,cp,ca];have bX:vD o.fq k.fN:=c1▸Vr c6 l;refine gu w.length D (λx c E=>iE 4 E/\E.get 1=some (dS 15 1 [o.t])/\E.get 3=some (dS 9 1 [k.t])/\dT c 5 (.ptr 1 0 0 0)/\dT c 8 (.ptr 3 0 0 0)/\dT c 10 (sl (w.map iX.t))/\dT c 11 (G x)) ?_ ?_ D ⟨⟨Y,by simp[size_cons],Y⟩,by simp[size_cons],by simp[size_cons],Y⟩
 ·rintro x c E O L ⟨n,f,g,h,i,d,e⟩;have S:=n.ne (b:=1) D;have T:=n.ne (b:=3) D;have bT:=c4 w[x] (aC O);have W:=λ{dd:gG} (ht:dd.p 10=some uQ)=>OJ ht o k w[x] m bT;have⟨C,N⟩:∃C,C=w[x]:=⟨_,rfl⟩;rw[<-N]at bT W;cases R:decide (C.kind=1)with
  |false=>simp[f,g,h,i,d,e,O,S,T,n.low,<-N,R,L,n.cons]
  |true=>
  cases av:ot o k C&&o.gx.vR C with
  |false=>simp[f,g,h,i,d,e,O,S,T,n.low,<-N,R,W,av,L,n.cons]
  |true=>
   have aA:=av;simp only[ax]at aA;have⟨Q,b7,U,X,Z⟩:=LM (by simpa using R) aA.2 aA.1;have⟨I,a7,b8,di,a8,dk⟩:=m.hw.at Q;have⟨J,bp,cL,dm,bs,dn⟩:=m.hw.at b7;rw[oQ (fI.1 Q).1 a7]at U X;rw[oQ (fI.1 b7).1 bp]at U Z;have M:=m.hc.ft (qq Q);have dv:=m.l (qq Q);have bS:o.fq.iB.length<=1000000:=by have:=kW m.hw.wb;omega
   obtain⟨_,⟨A,V,rfl,ea,eb,an,bC⟩,bi⟩:=B8.use (o.fq,k.fN,I.eg) ⟨M,a8,bS,dO,m.hc.rd⟩;obtain⟨_,⟨H,a6,rfl,ec,ef,ap,bH⟩,bn⟩:=B8.use (o.fq,k.fN,J.eg) ⟨M,bs,bS,dO,m.hc.rd⟩;simp only at an bC ap bH bi bn;have t0:=(fI.1 a8).1;have de:=(fI.1 bs).1;simp[f,g,h,i,d,e,O,S,T,n.low,<-N,R,W,av,a7,b8,bp,cL,bi,bn];refine gu A.length D (λF c j=>iE 4 j/\j.get 1=some (dS 15 1 [o.t])/\j.get 3=some (dS 9 1 [k.t])/\dT c 5 (.ptr 1 0 0 0)/\dT c 8 (.ptr 3 0 0 0)/\dT c 10 (sl (w.map iX.t))/\dT c 11 (G x)/\dT c 13 (G I.eg)/\dT c 14 (G J.eg)/\dT c 15 (sl (ij A))/\dT c 16 (sl (ij V))/\dT c 17 (sl (ij H))/\dT c 18 (sl (ij a6))/\dT c 19 (G F)) ?_ ?_ D ⟨n.cons _,by simp[f,S],by simp[g,T],by simp[h,i,d,e]⟩
   ·rintro F c j B aE ⟨u,f,g,h,i,d,e,q,r,ae,y,s,bA,al⟩;have c7:=VF an ap U (aC B);have aN:=Jy bX M t0 an bH (aC B);simp[f,g,h,i,d,e,q,r,ae,y,s,bA,al,B,M2,show H.length<=1099511627776 by omega,show a6.length<=1099511627776 by omega,c7,aN,aE,u]
   ·rintro c j ⟨u,f,g,h,i,d,e,q,r,ae,y,s,bA,al⟩;simp[ae,al];refine gu H.length D (λF c j=>iE 4 j/\j.get 1=some (dS 15 1 [o.t])/\j.get 3=some (dS 9 1 [k.t])/\dT c 5 (.ptr 1 0 0 0)/\dT c 8 (.ptr 3 0 0 0)/\dT c 10 (sl (w.map iX.t))/\dT c 11 (G x)/\dT c 13 (G I.eg)/\dT c 14 (G J.eg)/\dT c 16 (sl (ij V))/\dT c 17 (sl (ij H))/\dT c 20 (G F)) ?_ ?_ D ⟨u,f,g,by simp[h,i,d,e,q,r,y,s]⟩
    ·rintro F c j B aE ⟨u,f,g,h,i,d,e,q,r,y,s,K⟩;have aN:=Jy bX M de ap bC (aC B);simp[f,g,h,i,d,e,q,r,y,s,K,B,M2,show V.length<=1099511627776 by omega,aN,aE,u]
    ·rintro c j ⟨u,f,g,h,i,d,e,q,r,y,s,K⟩;cases aX:decide (k.fN.tx=I.eg)with
     |false=>simp[f,g,h,i,d,e,q,r,s,K,uz,m,X,Z,aX,L,u]
     |true=>
      have c9:decide (k.fN.tx=J.eg)=false:=aO λz=>U (by rw[<-of_decide_eq_true aX,z]);simp[f,g,h,i,d,e,q,r,s,K,uz,m,X,Z,aX,c9,L,u]
 ·rintro c E ⟨n,f,g,h,i,d,e⟩;simp[d,e,n.hp,M3]
