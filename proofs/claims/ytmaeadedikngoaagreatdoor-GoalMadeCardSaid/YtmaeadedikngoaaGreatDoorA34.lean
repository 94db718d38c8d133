/- Texts WGd to WGd. -/
import Derived.Test.YtmaeadedikngoaaGreatDoorA33
set_option linter.unusedVariables false
set_option linter.unusedSimpArgs false
set_option maxRecDepth 100000
set_option maxHeartbeats 8000000
namespace Go.Proofs.YtmaeadedikngoaaGreatDoor
noncomputable section
open Go Go.TI
attribute [-simp] List.map_take List.map_drop List.map_append fi ei dT Bool.not_or Bool.not_and
attribute [simp] fh ew
attribute [-simp] size_cons
theorem jV.apf{w:dZ}(e:jV w){c:Nat}{b:dN}(h:w.dw[c]? =some b){d:dW}(f:d=uh w.d8 w.lY (w.dw.take c)):ApF w.d8 d.fW b.dA b.kind b.obj/\(uh w.d8 w.lY (w.dw.take (c+1))).fW=(dV w.d8 d.fW b.dA b.kind b.obj (kI b)).1:=by
 have p:c<w.dw.length:=(List.getElem?_eq_some_iff.1 h).1
 have i:=e.ok.ok h
 rw[<-f]at i
 obtain⟨q,r,o⟩:=sw i
 have g:ui (1000+(w.dw.take c).length) d:=by rw[f];exact e.sm.uh (w:=w.d8) _
 have hl:=e.ok.len
 have hr:=x8 e.ok.run c
 have m:G6 4 d.fW:=by rw[f];exact J0 e.ok.oc _ _ hr e.rdt
 obtain⟨l1,l2,l3,l4,l5,l6⟩:=g.l
 obtain⟨s,t,u,v,x,y⟩:=rU e.wb
 refine⟨⟨o,by omega,⟨by omega,by omega,by omega,λj k=> ?_,g.a⟩,λj k=> ?_⟩,?_⟩
 ·have:=m.len g.a j k;omega
 ·have:=m.len g.a j k;omega
 ·have n:w.dw.take (c+1)=w.dw.take c++[b]:=by rw[List.take_add_one,h];rfl
  rw[n]
  have:uh w.d8 w.lY (w.dw.take c++[b])=(jO w.d8 d b).1:=by
   rw[f];unfold uh;rw[OI];rfl
  rw[this,rZ d b i];rfl
def so:fK:=⟨dZ,λa=>[a.t],λa=>jV a,λa=> .tuple [em.t ⟨a,a.gx.st⟩,.bool true],λc d b=>by simp at b;rw[dZ.inj b]⟩
def QS(a:dZ)(b:T):List T:=[sl (a.d8.cells.map fN.t),sl (a.d8.dP.map gH.t),sl (a.d8.fP.map iC.t),sl (a.d8.dR.map T.str),sl (a.d8.dp.map T.str),sl (a.d8.gW.map gY.t),.int .i64 a.start,sl (a.lY.fW.dP.map dF.t),.int .i64 a.lY.fW.tx,sl (a.lY.fW.done.map T.bool),sl (a.lY.fW.dp.map dx.t),sl (a.lY.cells.map (T.int .i64)),sl (a.lY.dR.map (T.int .i64)),sl (a.lY.count.map (T.int .i64)),sl (a.dw.map dN.t),b]
def anZ:List T:=[.dq [] false,.dq [] false,.dq [] false,.dq [] false,.dq [] false,.dq [] false,.int .i64 0,.dq [] false,.int .i64 0,.dq [] false,.dq [] false,.dq [] false,.dq [] false,.dq [] false,.dq [] false,.dq [] false]
structure AnJ(w:dZ)(h:H)(k:Nat)(v:T)(ver ver5:Nat):Prop where
 ok:gh 4 h
 b0:h.get 0=some ⟨15,0,0,true,false,[w.t]⟩
 b1:h.get 1=some ⟨16,0,0,true,false,[.agg anZ]⟩
 b2:h.get 2=some ⟨16,0,ver,true,false,[.agg (QS w v)]⟩
 b3:h.get 3=some ⟨4,0,ver5,true,false,[(uh w.d8 w.lY (w.dw.take k)).fW.t]⟩
 g:Gr h v 4 ((w.gx.st.take k).map ej.t)
 l:∀b,dE v=some b->4<=b
theorem KP:so.Ok Tryz.prog cx 21:=by
 refine f8 (tb:=⟨pt [(47,u5)],ht []⟩) dX dU (iN 9223389645163727807 [] Tryz.func21) (λ_=>100) (by simp[so]) (by simp[so,Tryz.f21]) ?_
 rintro(c:dZ) y m Y
 replace y:jV c:=y
 simp[so]at Y|-
 have bX:=y.ok.len
 have b6:=y.ok.oc
 simp[Tryz.f21,Y,show¬(16:Int)<c.dw.length by omega,show¬(4:Int)<c.d8.dp.length by omega]
 refine eQ c.dw.length (by omega) (λk m h=>∃z o A,AnJ c h k z o A/\TI.dt m 1=some (.ptr 0 0 0 0)/\TI.dt m 2=some (.ptr 1 0 0 0)/\TI.dt m 4=some (.ptr 2 0 0 0)/\TI.dt m 5=some (.ptr 3 0 0 0)/\TI.dt m 30=some (sl (c.dw.map dN.t))/\TI.dt m 31=some (.int .i64 c.dw.length)/\TI.dt m 32=some (.int .i64 k)) ?_ ?_ (by omega) ?_
 ·rintro k m h L Z ⟨z,o,A,⟨l,X,u,r,D,v,M⟩,G,x,K,S,R,I,J⟩
  obtain⟨a6,U⟩:=y.apf (aB L) rfl
  have bn:=y.ok.st L
  have bp:(c.gx.st.take (k+1))=c.gx.st.take k++[(uh c.d8 c.lY (c.dw.take k)).fW]:=by rw[List.take_add_one,bn];rfl
  generalize(uh c.d8 c.lY (c.dw.take k)).fW=q at*
  have b8:=l.ne (b:=0) (by omega)
  have ca:=l.ne (b:=1) (by omega)
  have av:=l.ne (b:=2) (by omega)
  have aA:=l.ne (b:=3) (by omega)
  have bu:gh 0 h:=⟨l.hp,l.low,aw _⟩
  generalize al:c.dw[k]=d at*
  have a8:Gr (h.cons ⟨7,0,1,true,false,[d.t]⟩) z 4 ((c.gx.st.take k).map ej.t):=v.mono λb T=>by
   obtain⟨_,_,_,_,C,_⟩:=v.box T
   rw[dH,ao (by have:=H.dL C;omega)]
  have bT:(c.gx.st.take k).length<=16:=by simp;omega
  obtain⟨s,g,O,i⟩:=a8.nY (cx:=cx) (f:=ej.t) (bu.cons _) UX rfl U1 rfl (by simp) (λ_=>rfl) q (by simp only[show Pk.bytes=80 from rfl];omega)
  rw[show(h.cons ⟨7,0,1,true,false,[d.t]⟩).size=h.size+1 from rfl]at O
  have E:∀{tb:eG},tb.p 47=some u5->rl Tryz.prog cx tb 47 [c.d8.t,q.t,.int .i64 d.dA,.int .i64 d.kind,.int .i64 d.obj,.int .i64 (kI d)]=some (.tuple [(dV c.d8 q d.dA d.kind d.obj (kI d)).1.t,.int .i64 (dV c.d8 q d.dA d.kind d.obj (kI d)).2,.bool true]):=λht=>fR ht Ni (c.d8,q,d.dA,d.kind,d.obj,kI d) a6
  have bB:=l.sz
  have bz:=i.2.2.2.sz
  simp at bz
  have an:=l.low
  have bs:∀a,a<4->dE z≠some a:=λa ae j=>by have:=M a j;omega
  have F:∀a,a<4->g.get a=h.get a:=λa ae=>(i.2.1 a (by simp;omega) (bs a ae)).trans (by rw[dH,ao (by omega)])
  have a0:=(F 0 (by omega)).trans X
  have a1:=(F 1 (by omega)).trans u
  have a2:=(F 2 (by omega)).trans r
  have a3:=(F 3 (by omega)).trans D
  have W:g.get h.size=some ⟨7,0,1,true,false,[d.t]⟩:=(i.2.1 h.size (by simp) (λj=>by obtain⟨_,_,_,_,C,_⟩:=v.box j;have:=H.dL C;omega)).trans (by simp)
  have w:∀e a,(dI g 2 e).get a=if a=2 then some e else g.get a:=λe a=>dy a2 e a
  have aX:(h.size=2)=False:=by simp;omega
  have V:gh 0 g:=⟨i.2.2.2.hp,i.2.2.2.low,aw _⟩
  have aN:∀e n b,dI ((dI g 2 e).cons n) g.size b=(dI g 2 e).cons b:=λe n b=>AM _ _ _ _ (by simp) (by have:=(V.put 2 e).low;simpa using this)
  have aE:(3=g.size)=False:=by simp;omega
  have cb:(2=g.size)=False:=by simp;omega
  have b9:(0=g.size)=False:=by simp;omega
  have ce:(h.size=g.size)=False:=by simp;omega
  have b7:∀e,(dI g 2 e).low<=g.size:=λe=>by have:=(V.put 2 e).low;simpa using this
  have fin:∀(n:iE),AnJ c (dI ((dI g 2 ⟨16,0,o+1,true,false,[.agg (QS c s)]⟩).cons n) 3 ⟨4,0,A+1,true,false,[(dV c.d8 q d.dA d.kind d.obj (kI d)).1.t]⟩) (k+1) s (o+1) (A+1):=λn=>by
   have P:∀b a,(dI ((dI g 2 ⟨16,0,o+1,true,false,[.agg (QS c s)]⟩).cons n) 3 b).get a=if a=3 then some b else((dI g 2 ⟨16,0,o+1,true,false,[.agg (QS c s)]⟩).cons n).get a:=λb a=>ph (by simp[V.hp]) (by simp;omega) b a
   have Q:∀b a,a<g.size->a≠3->a≠2->(dI ((dI g 2 ⟨16,0,o+1,true,false,[.agg (QS c s)]⟩).cons n) 3 b).get a=g.get a:=λb a G x bk=>by rw[P,ao x,dH,ao (by simp;omega),w,ao bk]
   have bv:=(((⟨i.2.2.2.hp,i.2.2.2.low,by omega⟩:gh 4 g).put 2 ⟨16,0,o+1,true,false,[.agg (QS c s)]⟩).cons n).put 3 ⟨4,0,A+1,true,false,[(dV c.d8 q d.dA d.kind d.obj (kI d)).1.t]⟩
   have ap:∀a,dE s=some a->4<=a:=λa j=>(i.2.2.1 a j).elim (λj=>M a j) (λj=>by simp at j;omega)
   refine⟨bv,(Q _ 0 (by omega) (by omega) (by omega)).trans a0,(Q _ 1 (by omega) (by omega) (by omega)).trans a1,?_,?_,?_,ap⟩
   ·rw[P,ao (by omega),dH,ao (by simp;omega),w,aq rfl]
   ·rw[P,aq rfl,U]
   ·rw[bp]
    exact i.1.mono λa j=>by
     obtain⟨_,_,_,_,C,_⟩:=i.1.box j
     have:=ap a j
     exact Q _ a (H.dL C) (by omega) (by omega)
  have B:kI d=if d.kind=18 then d.value else-1:=rfl
  simp only[QS]at r a2
  cases N:decide (d.kind=18)with
  |true=>
   rw[aq (by simpa using N)]at B
   rw[B]at E U
   simp[G,x,K,S,R,I,J,L,al,r,D,av,aA,an,O,a0,a2,a3,W,w,aX,aN,aE,dG,i.1.fT,i.1.cells,N,E,Z]
   rw[B]at fin
   exact⟨_,_,_,fin _⟩
  |false=>
   rw[ao (by simpa using N)]at B
   rw[B]at E U
   simp[G,x,K,S,R,I,J,L,al,r,D,av,aA,an,O,a0,a2,a3,W,w,aX,aN,aE,dG,i.1.fT,i.1.cells,N,E,Z]
   rw[B]at fin
   exact⟨_,_,_,fin _⟩
 ·rintro m h ⟨z,o,A,⟨l,X,u,r,D,v,M⟩,G,x,K,S,R,I,J⟩
  simp only[QS]at r
  simp only[anZ]at u
  have bN:c.gx.st.length=c.dw.length:=by unfold dZ.gx;simp[Kk]
  rw[bJ (by omega)]at v
  have bB:=l.sz
  have w:∀e,(dI h 1 e).get 1=some e:=λe=>(dy u e 1).trans (aq rfl)
  have bi:∀e,Gr (dI h 1 e) z 4 (c.gx.st.map ej.t):=λe=>v.mono λb T=>by rw[dy u,ao (by have:=M b T;omega)]
  have a7:=λe=>(bi e).fz (by simp)
  simp[x,K,I,J,u,r,w,a7,dG,l.hp]
  try rfl
 ·exact⟨.dq [] false,1,1,⟨by exact⟨by simp,by simp,by simp⟩,by simp,by simp[anZ],by simp[QS],by simp;rfl,by simpa using Gr.nil _ _,by simp⟩,by simp⟩
end
end Go.Proofs.YtmaeadedikngoaaGreatDoor
