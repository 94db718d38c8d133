/- Texts WGd to ALit. -/
import Derived.Test.YtmaeadedikngoaaGreatDoorA40
set_option linter.all false
set_option maxRecDepth 100000
set_option maxHeartbeats 8000000
namespace Go.Proofs.YtmaeadedikngoaaGreatDoor
noncomputable section
open Go Go.TI
attribute [-simp] List.map_take List.map_drop List.map_append fw eQ dZ Bool.not_or Bool.not_and
attribute [simp] fq eY
attribute [-simp] size_cons
def kL.apf{w:eZ}(e:kL w){c:Nat}{b:ed}(h:w.dK[c]? =some b){d:d8}(f:d=ow w.eK w.jK (w.dK.take c)):ApF w.eK d.fF b.dQ b.kind b.obj/\(ow w.eK w.jK (w.dK.take (c+1))).fF=(eG w.eK d.fF b.dQ b.kind b.obj (kT b)).1:=by
 have p:c<w.dK.length:=(List.getElem?_eq_some_iff.1 h).1;have i:=e.ok.ok h;rw[<-f]at i;obtain⟨q,r,o⟩:=tu i;have g:qt (1000+(w.dK.take c).length) d:=by rw[f];exact e.sm.ow (w:=w.eK) _
 have hl:=e.ok.len;have hr:=yP e.ok.run c;have m:HK 4 d.fF:=by rw[f];exact KE e.ok.oE _ _ hr e.rdt
 obtain⟨l1,l2,l3,l4,l5,l6⟩:=g.l;obtain⟨s,t,u,v,x,y⟩:=qG e.wb;refine⟨⟨o,dq,⟨dq,dq,dq,λj k=> ?_,g.a⟩,λj k=> ?_⟩,?_⟩
 ·have:=m.len g.a j k;omega
 ·have:=m.len g.a j k;omega
 ·have n:w.dK.take (c+1)=w.dK.take c++[b]:=by rw[List.take_add_one,h];rfl
  rw[n];have:ow w.eK w.jK (w.dK.take c++[b])=(jA w.eK d b).1:=by
   rw[f];unfold ow;rw[HH];rfl
  rw[this,sM d b i];rfl
def tc:gu:=⟨eZ,λa=>[a.t],λa=>kL a,λa=> .tuple [fM.t ⟨a,a.gx.st⟩,.bool true],λc d b=>by simp at b;rw[eZ.inj b]⟩
def RU(a:eZ)(b:T):List T:=[sl (a.eK.cells.map ge.t),sl (a.eK.dY.map io.t),sl (a.eK.fZ.map iF.t),sl (a.eK.dX.map T.str),sl (a.eK.dE.map T.str),sl (a.eK.iq.map ir.t),dy a.start,sl (a.jK.fF.dY.map dV.t),dy a.jK.fF.tx,sl (a.jK.fF.done.map T.bool),sl (a.jK.fF.dE.map dG.t),sl (a.jK.cells.map (T.int .i64)),sl (a.jK.dX.map (T.int .i64)),sl (a.jK.count.map (T.int .i64)),sl (a.dK.map ed.t),b]
def anZ:List T:=[dz,dz,dz,dz,dz,dz,dy 0,dz,dy 0,dz,dz,dz,dz,dz,dz,dz]
structure AnJ(w:eZ)(h:H)(k:Nat)(v:T)(ver ver5:Nat):Prop where
 ok:gF 4 h
 b0:h.get 0=some (dA 15 0 [w.t])
 b1:h.get 1=some (dA 16 0 [.agg anZ])
 b2:h.get 2=some (dA 16 ver [.agg (RU w v)])
 b3:h.get 3=some (dA 4 ver5 [(ow w.eK w.jK (w.dK.take k)).fF.t])
 g:Gr h v 4 ((w.gx.st.take k).map fk.t)
 l:∀b,dO v=some b->4<=b
def Ly:tc.Ok Tryz.prog cx 21:=by
 refine gX (tb:=⟨pt [(47,vQ)],ht []⟩) ew ej (iQ 9223389645163727807 [] Tryz.func21) (λ_=>100) (by simp[tc]) (by simp[tc,Tryz.f21]) ?_;rintro(c:eZ) y m Y;replace y:kL c:=y;simp[tc]at Y|-;have bS:=y.ok.len;have bT:=y.ok.oE;simp[Tryz.f21,Y,show¬(16:Int)<c.dK.length by omega,show¬(4:Int)<c.eK.dE.length by omega];refine fh c.dK.length dq (λk m h=>∃z o A,AnJ c h k z o A/\dB m 1 (.ptr 0 0 0 0)/\dB m 2 (.ptr 1 0 0 0)/\dB m 4 (.ptr 2 0 0 0)/\dB m 5 (.ptr 3 0 0 0)/\dB m 30 (sl (c.dK.map ed.t))/\dB m 31 (dy c.dK.length)/\dB m 32 (dy k)) ?_ ?_ dq ?_
 ·rintro k m h L Z ⟨z,o,A,⟨l,X,u,r,D,v,M⟩,G,x,K,S,R,I,J⟩;obtain⟨a6,U⟩:=y.apf (az L) rfl;have bl:=y.ok.st L;have bn:(c.gx.st.take (k+1))=c.gx.st.take k++[(ow c.eK c.jK (c.dK.take k)).fF]:=by rw[List.take_add_one,bl];rfl
  generalize(ow c.eK c.jK (c.dK.take k)).fF=q at*
  have b7:=l.ne (b:=0) dq;have b9:=l.ne (b:=1) dq;have av:=l.ne (b:=2) dq;have aA:=l.ne (b:=3) dq;have bu:gF 0 h:=⟨l.hp,l.low,aw _⟩;generalize al:c.dK[k]=d at*
  have a8:Gr (h.cons (dA 7 1 [d.t])) z 4 ((c.gx.st.take k).map fk.t):=v.mono λb T=>by
   obtain⟨_,_,_,_,C,_⟩:=v.box T;rw[dP,ao (by have:=H.ez C;omega)]
  have bN:(c.gx.st.take k).length<=16:=du;obtain⟨s,g,O,i⟩:=a8.mJ (cx:=cx) (f:=fk.t) (bu.cons _) Vg rfl Vj rfl dt (λ_=>rfl) q (by simp only[show Qq.bytes=80 from rfl];omega);rw[show(h.cons (dA 7 1 [d.t])).size=h.size+1 from rfl]at O;have E:∀{tb:fy},tb.p 47=some vQ->rl Tryz.prog cx tb 47 [c.eK.t,q.t,dy d.dQ,dy d.kind,dy d.obj,dy (kT d)]=some (.tuple [(eG c.eK q d.dQ d.kind d.obj (kT d)).1.t,dy (eG c.eK q d.dQ d.kind d.obj (kT d)).2,.bool true]):=λht=>gU ht Og (c.eK,q,d.dQ,d.kind,d.obj,kT d) a6;have bC:=l.sz;have bB:=i.2.2.2.sz;simp at bB;have an:=l.low;have bs:∀a,a<4->dO z≠some a:=λa ae j=>by have:=M a j;omega
  have F:∀a,a<4->g.get a=h.get a:=λa ae=>(i.2.1 a du (bs a ae)).trans (by rw[dP,ao dq]);have a0:=(F 0 dq).trans X;have a1:=(F 1 dq).trans u;have a2:=(F 2 dq).trans r;have a3:=(F 3 dq).trans D;have W:g.get h.size=some (dA 7 1 [d.t]):=(i.2.1 h.size dt (λj=>by obtain⟨_,_,_,_,C,_⟩:=v.box j;have:=H.ez C;omega)).trans dt;have w:∀e a,(dT g 2 e).get a=if a=2 then some e else g.get a:=λe a=>dI a2 e a;have aX:(h.size=2)=False:=du;have V:gF 0 g:=⟨i.2.2.2.hp,i.2.2.2.low,aw _⟩;have aN:∀e n b,dT ((dT g 2 e).cons n) g.size b=(dT g 2 e).cons b:=λe n b=>F2 _ _ _ _ dt (by have:=(V.put 2 e).low;simpa using this);have aE:(3=g.size)=False:=du;have ca:(2=g.size)=False:=du;have b8:(0=g.size)=False:=du;have cb:(h.size=g.size)=False:=du;have b6:∀e,(dT g 2 e).low<=g.size:=λe=>by have:=(V.put 2 e).low;simpa using this
  have fin:∀(n:iN),AnJ c (dT ((dT g 2 (dA 16 (o+1) [.agg (RU c s)])).cons n) 3 (dA 4 (A+1) [(eG c.eK q d.dQ d.kind d.obj (kT d)).1.t])) (k+1) s (o+1) (A+1):=λn=>by
   have P:∀b a,(dT ((dT g 2 (dA 16 (o+1) [.agg (RU c s)])).cons n) 3 b).get a=if a=3 then some b else((dT g 2 (dA 16 (o+1) [.agg (RU c s)])).cons n).get a:=λb a=>lY (by simp[V.hp]) du b a;have Q:∀b a,a<g.size->a≠3->a≠2->(dT ((dT g 2 (dA 16 (o+1) [.agg (RU c s)])).cons n) 3 b).get a=g.get a:=λb a G x bk=>by rw[P,ao x,dP,ao du,w,ao bk]
   have bz:=(((⟨i.2.2.2.hp,i.2.2.2.low,dq⟩:gF 4 g).put 2 (dA 16 (o+1) [.agg (RU c s)])).cons n).put 3 (dA 4 (A+1) [(eG c.eK q d.dQ d.kind d.obj (kT d)).1.t]);have ap:∀a,dO s=some a->4<=a:=λa j=>(i.2.2.1 a j).elim (λj=>M a j) (λj=>by simp at j;omega);refine⟨bz,(Q _ 0 dq dq dq).trans a0,(Q _ 1 dq dq dq).trans a1,?_,?_,?_,ap⟩
   ·rw[P,ao dq,dP,ao du,w,aq rfl]
   ·rw[P,aq rfl,U]
   ·rw[bn];exact i.1.mono λa j=>by
     obtain⟨_,_,_,_,C,_⟩:=i.1.box j;have:=ap a j;exact Q _ a (H.ez C) dq dq
  have B:kT d=if d.kind=18 then d.value else-1:=rfl;simp only[RU]at r a2;cases N:decide (d.kind=18)with
  |true=>
   rw[aq (by simpa using N)]at B;rw[B]at E U;simp[G,x,K,S,R,I,J,L,al,r,D,av,aA,an,O,a0,a2,a3,W,w,aX,aN,aE,dS,i.1.gJ,i.1.cells,N,E,Z];rw[B]at fin;exact⟨_,_,_,fin _⟩
  |false=>
   rw[ao (by simpa using N)]at B;rw[B]at E U;simp[G,x,K,S,R,I,J,L,al,r,D,av,aA,an,O,a0,a2,a3,W,w,aX,aN,aE,dS,i.1.gJ,i.1.cells,N,E,Z];rw[B]at fin;exact⟨_,_,_,fin _⟩
 ·rintro m h ⟨z,o,A,⟨l,X,u,r,D,v,M⟩,G,x,K,S,R,I,J⟩;simp only[RU]at r;simp only[anZ]at u;have bH:c.gx.st.length=c.dK.length:=by unfold eZ.gx;simp[KX]
  rw[bF dq]at v;have bC:=l.sz;have w:∀e,(dT h 1 e).get 1=some e:=λe=>(dI u e 1).trans (aq rfl);have bi:∀e,Gr (dT h 1 e) z 4 (c.gx.st.map fk.t):=λe=>v.mono λb T=>by rw[dI u,ao (by have:=M b T;omega)]
  have a7:=λe=>(bi e).fz dt;simp[x,K,I,J,u,r,w,a7,dS,l.hp]
  try rfl
 ·exact⟨dz,1,1,⟨by exact⟨dt,dt,dt⟩,dt,by simp[anZ],by simp[RU],by simp;rfl,by simpa using Gr.nil _ _,dt⟩,dt⟩
end
noncomputable section
open Go Go.TI
def l0:T:= .agg [(.dF [(.agg [(dy 1),(dy 1),(.str [120]),(dy 0),(dy 0),(.str [])])] false),(.dF [(.agg [(.str [116]),(dy 1),dz,(.dF [(.agg [(dy 12),(dy 1),(.str [117]),(.str []),dz,(dy 0),(dy 0),(.str []),dz,dz,dz]),(.agg [(dy 1),(dy 1),(.str [120]),(.str []),dz,(dy 1),(dy 1),(.str []),dz,dz,dz])] false)]),(.agg [(.str [117]),(dy 1),dz,(.dF [(.agg [(dy 1),(dy 1),(.str [120]),(.str []),dz,(dy 1),(dy 2),(.str []),dz,dz,dz])] false)])] false)]
def l1:T:= .dF [(.agg [(.str [120]),(dy 0),(dy 0),(.bool false),(dy 0)])] false
def l2:T:= .dF [(.agg [(dy 0),(dy 0),(dy 1)]),(.agg [(dy 0),(dy 1),(dy 1)]),(.agg [(dy 1),(dy 0),(dy 1)])] false
def l3:T:= .agg [(dy 28),(dy 0),(dy 0),(dy 0),(dy 0),(dy (.negSucc 0))]
def l4:T:= .agg [l1,dz,dz,dz,(.dF [(.str [116]),(.str [117])] false),l2,(.dF [(.agg [(dy 1),(.dF [(.agg [(dy 24),(dy 1),(dy 0),(dy 0),(dy 0),(dy 0)]),(.agg [(dy 1),(dy 0),(dy 0),(dy 0),(dy 1),(dy 1)]),(.agg [(dy 8),(dy 0),(dy 0),(dy 0),(dy 0),(dy 1)]),l3] false)]),(.agg [(dy 1),(.dF [(.agg [(dy 1),(dy 0),(dy 0),(dy 0),(dy 2),(dy 2)]),(.agg [(dy 8),(dy 0),(dy 0),(dy 0),(dy 0),(dy 2)]),l3] false)])] false)]
def l5:T:= .dF [(.agg [(dy 0),(dy 1),(dy (.negSucc 0)),(dy 0),(dy (.negSucc 0)),dz,dz]),(.agg [(dy 0),(dy 20),(dy 1),(dy 0),(dy 0),dz,dz]),(.agg [(dy 0),(dy 4),(dy 0),(dy 1),(dy 1),dz,dz]),(.agg [(dy 0),(dy 2),(dy (.negSucc 0)),(dy 0),(dy (.negSucc 0)),dz,dz]),(.agg [(dy 1),(dy 1),(dy (.negSucc 0)),(dy 0),(dy (.negSucc 0)),dz,dz]),(.agg [(dy 1),(dy 4),(dy 0),(dy 2),(dy 2),dz,dz]),(.agg [(dy 1),(dy 2),(dy (.negSucc 0)),(dy 0),(dy (.negSucc 0)),dz,dz])] false
def l6:T:= .agg [(dy 5),(dy 0),(.bool false)]
end
end Go.Proofs.YtmaeadedikngoaaGreatDoor
