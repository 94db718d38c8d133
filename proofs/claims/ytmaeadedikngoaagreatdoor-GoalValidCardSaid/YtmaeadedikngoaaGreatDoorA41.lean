/- Texts WGd to ALit. -/
import Derived.Test.YtmaeadedikngoaaGreatDoorA40
set_option linter.unusedVariables false
set_option linter.unusedSimpArgs false
set_option linter.defProp false
set_option maxRecDepth 100000
set_option maxHeartbeats 8000000
namespace Go.Proofs.YtmaeadedikngoaaGreatDoor
noncomputable section
open Go Go.TI
attribute [-simp] List.map_take List.map_drop List.map_append fj eG dY Bool.not_or Bool.not_and
attribute [simp] fh eJ
attribute [-simp] size_cons
def kH.apf{w:eK}(e:kH w){c:Nat}{b:dX}(h:w.dH[c]? =some b){d:dW}(f:d=oo w.ez w.jG (w.dH.take c)):ApF w.ez d.fx b.dN b.kind b.obj/\(oo w.ez w.jG (w.dH.take (c+1))).fx=(em w.ez d.fx b.dN b.kind b.obj (kO b)).1:=by
 have p:c<w.dH.length:=(List.getElem?_eq_some_iff.1 h).1;have i:=e.ok.ok h;rw[<-f]at i;obtain⟨q,r,o⟩:=s7 i;have g:qn (1000+(w.dH.take c).length) d:=by rw[f];exact e.sm.oo (w:=w.ez) _
 have hl:=e.ok.len;have hr:=yG e.ok.run c;have m:HC 4 d.fx:=by rw[f];exact Kv e.ok.ox _ _ hr e.rdt
 obtain⟨l1,l2,l3,l4,l5,l6⟩:=g.l;obtain⟨s,t,u,v,x,y⟩:=qB e.wb;refine⟨⟨o,dj,⟨dj,dj,dj,λj k=> ?_,g.a⟩,λj k=> ?_⟩,?_⟩
 ·have:=m.len g.a j k;omega
 ·have:=m.len g.a j k;omega
 ·have n:w.dH.take (c+1)=w.dH.take c++[b]:=by rw[List.take_add_one,h];rfl
  rw[n];have:oo w.ez w.jG (w.dH.take c++[b])=(jw w.ez d b).1:=by
   rw[f];unfold oo;rw[Hz];rfl
  rw[this,sw d b i];rfl
def sU:f7:=⟨eK,λa=>[a.t],λa=>kH a,λa=> .tuple [fI.t ⟨a,a.gx.st⟩,.bool true],λc d b=>by simp at b;rw[eK.inj b]⟩
def RI(a:eK)(b:T):List T:=[sl (a.ez.cells.map fZ.t),sl (a.ez.dV.map ij.t),sl (a.ez.fV.map iB.t),sl (a.ez.dT.map T.str),sl (a.ez.dB.map T.str),sl (a.ez.ik.map il.t),dw a.start,sl (a.jG.fx.dV.map dS.t),dw a.jG.fx.tx,sl (a.jG.fx.done.map T.bool),sl (a.jG.fx.dB.map dD.t),sl (a.jG.cells.map (T.int .i64)),sl (a.jG.dT.map (T.int .i64)),sl (a.jG.count.map (T.int .i64)),sl (a.dH.map dX.t),b]
def anZ:List T:=[dx,dx,dx,dx,dx,dx,dw 0,dx,dw 0,dx,dx,dx,dx,dx,dx,dx]
structure AnJ(w:eK)(h:H)(k:Nat)(v:T)(ver ver5:Nat):Prop where
 ok:gu 4 h
 b0:h.get 0=some (dy 15 0 [w.t])
 b1:h.get 1=some (dy 16 0 [.agg anZ])
 b2:h.get 2=some (dy 16 ver [.agg (RI w v)])
 b3:h.get 3=some (dy 4 ver5 [(oo w.ez w.jG (w.dH.take k)).fx.t])
 g:Gr h v 4 ((w.gx.st.take k).map fg.t)
 l:∀b,dL v=some b->4<=b
def Lo:sU.Ok Tryz.prog cx 21:=by
 refine gH (tb:=⟨pt [(47,vI)],ht []⟩) ei eg (iL 9223389645163727807 [] Tryz.func21) (λ_=>100) (by simp[sU]) (by simp[sU,Tryz.f21]) ?_;rintro(c:eK) y m Y;replace y:kH c:=y;simp[sU]at Y|-;have bS:=y.ok.len;have bT:=y.ok.ox;simp[Tryz.f21,Y,show¬(16:Int)<c.dH.length by omega,show¬(4:Int)<c.ez.dB.length by omega];refine fc c.dH.length dj (λk m h=>∃z o A,AnJ c h k z o A/\dz m 1 (.ptr 0 0 0 0)/\dz m 2 (.ptr 1 0 0 0)/\dz m 4 (.ptr 2 0 0 0)/\dz m 5 (.ptr 3 0 0 0)/\dz m 30 (sl (c.dH.map dX.t))/\dz m 31 (dw c.dH.length)/\dz m 32 (dw k)) ?_ ?_ dj ?_
 ·rintro k m h L Z ⟨z,o,A,⟨l,X,u,r,D,v,M⟩,G,x,K,S,R,I,J⟩;obtain⟨a6,U⟩:=y.apf (az L) rfl;have bl:=y.ok.st L;have bn:(c.gx.st.take (k+1))=c.gx.st.take k++[(oo c.ez c.jG (c.dH.take k)).fx]:=by rw[List.take_add_one,bl];rfl
  generalize(oo c.ez c.jG (c.dH.take k)).fx=q at*
  have b7:=l.ne (b:=0) dj;have b9:=l.ne (b:=1) dj;have av:=l.ne (b:=2) dj;have aA:=l.ne (b:=3) dj;have bu:gu 0 h:=⟨l.hp,l.low,aw _⟩;generalize al:c.dH[k]=d at*
  have a8:Gr (h.cons (dy 7 1 [d.t])) z 4 ((c.gx.st.take k).map fg.t):=v.mono λb T=>by
   obtain⟨_,_,_,_,C,_⟩:=v.box T;rw[dM,ao (by have:=H.ej C;omega)]
  have bN:(c.gx.st.take k).length<=16:=dq;obtain⟨s,g,O,i⟩:=a8.mM (cx:=cx) (f:=fg.t) (bu.cons _) U4 rfl U7 rfl dp (λ_=>rfl) q (by simp only[show Qg.bytes=80 from rfl];omega);rw[show(h.cons (dy 7 1 [d.t])).size=h.size+1 from rfl]at O;have E:∀{tb:fq},tb.p 47=some vI->rl Tryz.prog cx tb 47 [c.ez.t,q.t,dw d.dN,dw d.kind,dw d.obj,dw (kO d)]=some (.tuple [(em c.ez q d.dN d.kind d.obj (kO d)).1.t,dw (em c.ez q d.dN d.kind d.obj (kO d)).2,.bool true]):=λht=>gF ht N5 (c.ez,q,d.dN,d.kind,d.obj,kO d) a6;have bC:=l.sz;have bB:=i.2.2.2.sz;simp at bB;have an:=l.low;have bs:∀a,a<4->dL z≠some a:=λa ae j=>by have:=M a j;omega
  have F:∀a,a<4->g.get a=h.get a:=λa ae=>(i.2.1 a dq (bs a ae)).trans (by rw[dM,ao dj]);have a0:=(F 0 dj).trans X;have a1:=(F 1 dj).trans u;have a2:=(F 2 dj).trans r;have a3:=(F 3 dj).trans D;have W:g.get h.size=some (dy 7 1 [d.t]):=(i.2.1 h.size dp (λj=>by obtain⟨_,_,_,_,C,_⟩:=v.box j;have:=H.ej C;omega)).trans dp;have w:∀e a,(dQ g 2 e).get a=if a=2 then some e else g.get a:=λe a=>dE a2 e a;have aX:(h.size=2)=False:=dq;have V:gu 0 g:=⟨i.2.2.2.hp,i.2.2.2.low,aw _⟩;have aN:∀e n b,dQ ((dQ g 2 e).cons n) g.size b=(dQ g 2 e).cons b:=λe n b=>F5 _ _ _ _ dp (by have:=(V.put 2 e).low;simpa using this);have aE:(3=g.size)=False:=dq;have ca:(2=g.size)=False:=dq;have b8:(0=g.size)=False:=dq;have cb:(h.size=g.size)=False:=dq;have b6:∀e,(dQ g 2 e).low<=g.size:=λe=>by have:=(V.put 2 e).low;simpa using this
  have fin:∀(n:iJ),AnJ c (dQ ((dQ g 2 (dy 16 (o+1) [.agg (RI c s)])).cons n) 3 (dy 4 (A+1) [(em c.ez q d.dN d.kind d.obj (kO d)).1.t])) (k+1) s (o+1) (A+1):=λn=>by
   have P:∀b a,(dQ ((dQ g 2 (dy 16 (o+1) [.agg (RI c s)])).cons n) 3 b).get a=if a=3 then some b else((dQ g 2 (dy 16 (o+1) [.agg (RI c s)])).cons n).get a:=λb a=>md (by simp[V.hp]) dq b a;have Q:∀b a,a<g.size->a≠3->a≠2->(dQ ((dQ g 2 (dy 16 (o+1) [.agg (RI c s)])).cons n) 3 b).get a=g.get a:=λb a G x bk=>by rw[P,ao x,dM,ao dq,w,ao bk]
   have bz:=(((⟨i.2.2.2.hp,i.2.2.2.low,dj⟩:gu 4 g).put 2 (dy 16 (o+1) [.agg (RI c s)])).cons n).put 3 (dy 4 (A+1) [(em c.ez q d.dN d.kind d.obj (kO d)).1.t]);have ap:∀a,dL s=some a->4<=a:=λa j=>(i.2.2.1 a j).elim (λj=>M a j) (λj=>by simp at j;omega);refine⟨bz,(Q _ 0 dj dj dj).trans a0,(Q _ 1 dj dj dj).trans a1,?_,?_,?_,ap⟩
   ·rw[P,ao dj,dM,ao dq,w,aq rfl]
   ·rw[P,aq rfl,U]
   ·rw[bn];exact i.1.mono λa j=>by
     obtain⟨_,_,_,_,C,_⟩:=i.1.box j;have:=ap a j;exact Q _ a (H.ej C) dj dj
  have B:kO d=if d.kind=18 then d.value else-1:=rfl;simp only[RI]at r a2;cases N:decide (d.kind=18)with
  |true=>
   rw[aq (by simpa using N)]at B;rw[B]at E U;simp[G,x,K,S,R,I,J,L,al,r,D,av,aA,an,O,a0,a2,a3,W,w,aX,aN,aE,dP,i.1.gD,i.1.cells,N,E,Z];rw[B]at fin;exact⟨_,_,_,fin _⟩
  |false=>
   rw[ao (by simpa using N)]at B;rw[B]at E U;simp[G,x,K,S,R,I,J,L,al,r,D,av,aA,an,O,a0,a2,a3,W,w,aX,aN,aE,dP,i.1.gD,i.1.cells,N,E,Z];rw[B]at fin;exact⟨_,_,_,fin _⟩
 ·rintro m h ⟨z,o,A,⟨l,X,u,r,D,v,M⟩,G,x,K,S,R,I,J⟩;simp only[RI]at r;simp only[anZ]at u;have bH:c.gx.st.length=c.dH.length:=by unfold eK.gx;simp[KO]
  rw[bF dj]at v;have bC:=l.sz;have w:∀e,(dQ h 1 e).get 1=some e:=λe=>(dE u e 1).trans (aq rfl);have bi:∀e,Gr (dQ h 1 e) z 4 (c.gx.st.map fg.t):=λe=>v.mono λb T=>by rw[dE u,ao (by have:=M b T;omega)]
  have a7:=λe=>(bi e).fz dp;simp[x,K,I,J,u,r,w,a7,dP,l.hp]
  try rfl
 ·exact⟨dx,1,1,⟨by exact⟨dp,dp,dp⟩,dp,by simp[anZ],by simp[RI],by simp;rfl,by simpa using Gr.nil _ _,dp⟩,dp⟩
end
noncomputable section
open Go Go.TI
def l0:T:= .agg [(.dC [(.agg [(dw 1),(dw 1),(.str [120]),(dw 0),(dw 0),(.str [])])] false),(.dC [(.agg [(.str [116]),(dw 1),dx,(.dC [(.agg [(dw 12),(dw 1),(.str [117]),(.str []),dx,(dw 0),(dw 0),(.str []),dx,dx,dx]),(.agg [(dw 1),(dw 1),(.str [120]),(.str []),dx,(dw 1),(dw 1),(.str []),dx,dx,dx])] false)]),(.agg [(.str [117]),(dw 1),dx,(.dC [(.agg [(dw 1),(dw 1),(.str [120]),(.str []),dx,(dw 1),(dw 2),(.str []),dx,dx,dx])] false)])] false)]
def l1:T:= .dC [(.agg [(.str [120]),(dw 0),(dw 0),(.bool false),(dw 0)])] false
def l2:T:= .dC [(.agg [(dw 0),(dw 0),(dw 1)]),(.agg [(dw 0),(dw 1),(dw 1)]),(.agg [(dw 1),(dw 0),(dw 1)])] false
def l3:T:= .agg [(dw 28),(dw 0),(dw 0),(dw 0),(dw 0),(dw (.negSucc 0))]
def l4:T:= .agg [l1,dx,dx,dx,(.dC [(.str [116]),(.str [117])] false),l2,(.dC [(.agg [(dw 1),(.dC [(.agg [(dw 24),(dw 1),(dw 0),(dw 0),(dw 0),(dw 0)]),(.agg [(dw 1),(dw 0),(dw 0),(dw 0),(dw 1),(dw 1)]),(.agg [(dw 8),(dw 0),(dw 0),(dw 0),(dw 0),(dw 1)]),l3] false)]),(.agg [(dw 1),(.dC [(.agg [(dw 1),(dw 0),(dw 0),(dw 0),(dw 2),(dw 2)]),(.agg [(dw 8),(dw 0),(dw 0),(dw 0),(dw 0),(dw 2)]),l3] false)])] false)]
def l5:T:= .dC [(.agg [(dw 0),(dw 1),(dw (.negSucc 0)),(dw 0),(dw (.negSucc 0)),dx,dx]),(.agg [(dw 0),(dw 20),(dw 1),(dw 0),(dw 0),dx,dx]),(.agg [(dw 0),(dw 4),(dw 0),(dw 1),(dw 1),dx,dx]),(.agg [(dw 0),(dw 2),(dw (.negSucc 0)),(dw 0),(dw (.negSucc 0)),dx,dx]),(.agg [(dw 1),(dw 1),(dw (.negSucc 0)),(dw 0),(dw (.negSucc 0)),dx,dx]),(.agg [(dw 1),(dw 4),(dw 0),(dw 2),(dw 2),dx,dx]),(.agg [(dw 1),(dw 2),(dw (.negSucc 0)),(dw 0),(dw (.negSucc 0)),dx,dx])] false
def l6:T:= .agg [(dw 5),(dw 0),(.bool false)]
end
end Go.Proofs.YtmaeadedikngoaaGreatDoor
