/- Texts WGd to WGd. -/
import Derived.Test.YtmaeadedikngoaaGreatDoorA35
set_option linter.all false
set_option maxRecDepth 100000
set_option maxHeartbeats 8000000
namespace Go.Proofs.YtmaeadedikngoaaGreatDoor
noncomputable section
open Go Go.TI
attribute [-simp] List.map_take List.map_drop List.map_append fG fg ei Bool.not_or Bool.not_and
attribute [simp] fF fh
attribute [-simp] size_cons
def kq.apf{w:eZ}(e:kq w){c:Nat}{b:ez}(h:w.dO[c]? =some b){d:ej}(f:d=o9 w.fj w.jY (w.dO.take c)):ApF w.fj d.fM b.dT b.kind b.obj/\(o9 w.fj w.jY (w.dO.take (c+1))).fM=(ff w.fj d.fM b.dT b.kind b.obj (lq b)).1:=by
 have p:c<w.dO.length:=(List.getElem?_eq_some_iff.1 h).1;have i:=e.ok.ok h;rw[<-f]at i;obtain⟨q,r,o⟩:=rn i;have g:rg (1000+(w.dO.take c).length) d:=by rw[f];exact e.sm.o9 (w:=w.fj) _
 have hl:=e.ok.len;have hr:=zt e.ok.run c;have m:IJ 4 d.fM:=by rw[f];exact LQ e.ok.ph _ _ hr e.rdt
 obtain⟨l1,l2,l3,l4,l5,l6⟩:=g.l;obtain⟨s,t,u,v,x,y⟩:=rG e.wb;refine⟨⟨o,dz,⟨dz,dz,dz,λj k=> ?_,g.a⟩,λj k=> ?_⟩,?_⟩
 ·have:=m.len g.a j k;omega
 ·have:=m.len g.a j k;omega
 ·have n:w.dO.take (c+1)=w.dO.take c++[b]:=by rw[List.take_add_one,h];rfl
  rw[n];have:o9 w.fj w.jY (w.dO.take c++[b])=(jO w.fj d b).1:=by
   rw[f];unfold o9;rw[IG];rfl
  rw[this,tL d b i];rfl
def tX:hU:=⟨eZ,λa=>[a.t],λa=>kq a,λa=> .tuple [fI.t ⟨a,a.gx.st⟩,.bool true],λc d b=>by simp at b;rw[eZ.inj b]⟩
def TD(a:eZ)(b:T):List T:=[sl (a.fj.cells.map ij.t),sl (a.fj.em.map iF.t),sl (a.fj.gW.map iU.t),sl (a.fj.eg.map T.str),sl (a.fj.dK.map T.str),sl (a.fj.iG.map iH.t),dE a.start,sl (a.jY.fM.em.map ed.t),dE a.jY.fM.tx,sl (a.jY.fM.done.map T.bool),sl (a.jY.fM.dK.map dN.t),sl (a.jY.cells.map (T.int .i64)),sl (a.jY.eg.map (T.int .i64)),sl (a.jY.count.map (T.int .i64)),sl (a.dO.map ez.t),b]
def anZ:List T:=[dF,dF,dF,dF,dF,dF,dE 0,dF,dE 0,dF,dF,dF,dF,dF,dF,dF]
structure AnJ(w:eZ)(h:H)(k:Nat)(v:T)(ver ver5:Nat):Prop where
 ok:ig 4 h
 b0:h.get 0=some (dG 15 0 [w.t])
 b1:h.get 1=some (dG 16 0 [.agg anZ])
 b2:h.get 2=some (dG 16 ver [.agg (TD w v)])
 b3:h.get 3=some (dG 4 ver5 [(o9 w.fj w.jY (w.dO.take k)).fM.t])
 g:Gr h v 4 ((w.gx.st.take k).map fH.t)
 l:∀b,dS v=some b->4<=b
def MO:tX.Ok Tryz.prog cx 21:=by
 refine iv (tb:=⟨pt [(47,wz)],ht []⟩) fa eQ (iR 9223389645163727807 [] Tryz.func21) (λ_=>100) (by simp[tX]) (by simp[tX,Tryz.f21]) ?_;rintro(c:eZ) y m Y;replace y:kq c:=y;simp[tX]at Y|-;have bS:=y.ok.len;have bT:=y.ok.ph;simp[Tryz.f21,Y,show¬(16:Int)<c.dO.length by omega,show¬(4:Int)<c.fj.dK.length by omega];refine fy c.dO.length dz (λk m h=>∃z o A,AnJ c h k z o A/\dH m 1 (.ptr 0 0 0 0)/\dH m 2 (.ptr 1 0 0 0)/\dH m 4 (.ptr 2 0 0 0)/\dH m 5 (.ptr 3 0 0 0)/\dH m 30 (sl (c.dO.map ez.t))/\dH m 31 (dE c.dO.length)/\dH m 32 (dE k)) ?_ ?_ dz ?_
 ·rintro k m h L Z ⟨z,o,A,⟨l,X,u,r,D,v,M⟩,G,x,K,S,R,I,J⟩;obtain⟨a6,U⟩:=y.apf (az L) rfl;have bn:=y.ok.st L;have bp:(c.gx.st.take (k+1))=c.gx.st.take k++[(o9 c.fj c.jY (c.dO.take k)).fM]:=by rw[List.take_add_one,bn];rfl
  generalize(o9 c.fj c.jY (c.dO.take k)).fM=q at*
  have b6:=l.ne (b:=0) dz;have b8:=l.ne (b:=1) dz;have av:=l.ne (b:=2) dz;have aA:=l.ne (b:=3) dz;have bu:ig 0 h:=⟨l.hp,l.low,aw _⟩;generalize al:c.dO[k]=d at*
  have a8:Gr (h.cons (dG 7 1 [d.t])) z 4 ((c.gx.st.take k).map fH.t):=v.mono λb T=>by
   obtain⟨_,_,_,_,C,_⟩:=v.box T;rw[dV,ao (by have:=H.ew C;omega)]
  have bN:(c.gx.st.take k).length<=16:=dB;obtain⟨s,g,O,i⟩:=a8.nd (cx:=cx) (f:=fH.t) (bu.cons _) WM rfl WP rfl dA (λ_=>rfl) q (by simp only[show RI.bytes=80 from rfl];omega);rw[show(h.cons (dG 7 1 [d.t])).size=h.size+1 from rfl]at O;have E:∀{tb:fJ},tb.p 47=some wz->rl Tryz.prog cx tb 47 [c.fj.t,q.t,dE d.dT,dE d.kind,dE d.obj,dE (lq d)]=some (.tuple [(ff c.fj q d.dT d.kind d.obj (lq d)).1.t,dE (ff c.fj q d.dT d.kind d.obj (lq d)).2,.bool true]):=λht=>im ht PC (c.fj,q,d.dT,d.kind,d.obj,lq d) a6;have bC:=l.sz;have bB:=i.2.2.2.sz;simp at bB;have an:=l.low;have bs:∀a,a<4->dS z≠some a:=λa ae j=>by have:=M a j;omega
  have F:∀a,a<4->g.get a=h.get a:=λa ae=>(i.2.1 a dB (bs a ae)).trans (by rw[dV,ao dz]);have a0:=(F 0 dz).trans X;have a1:=(F 1 dz).trans u;have a2:=(F 2 dz).trans r;have a3:=(F 3 dz).trans D;have W:g.get h.size=some (dG 7 1 [d.t]):=(i.2.1 h.size dA (λj=>by obtain⟨_,_,_,_,C,_⟩:=v.box j;have:=H.ew C;omega)).trans dA;have w:∀e a,(dY g 2 e).get a=if a=2 then some e else g.get a:=λe a=>dP a2 e a;have aX:(h.size=2)=False:=dB;have V:ig 0 g:=⟨i.2.2.2.hp,i.2.2.2.low,aw _⟩;have aN:∀e n b,dY ((dY g 2 e).cons n) g.size b=(dY g 2 e).cons b:=λe n b=>B9 _ _ _ _ dA (by have:=(V.put 2 e).low;simpa using this);have aE:(3=g.size)=False:=dB;have b9:(2=g.size)=False:=dB;have b7:(0=g.size)=False:=dB;have ca:(h.size=g.size)=False:=dB;have bX:∀e,(dY g 2 e).low<=g.size:=λe=>by have:=(V.put 2 e).low;simpa using this
  have fin:∀(n:iZ),AnJ c (dY ((dY g 2 (dG 16 (o+1) [.agg (TD c s)])).cons n) 3 (dG 4 (A+1) [(ff c.fj q d.dT d.kind d.obj (lq d)).1.t])) (k+1) s (o+1) (A+1):=λn=>by
   have P:∀b a,(dY ((dY g 2 (dG 16 (o+1) [.agg (TD c s)])).cons n) 3 b).get a=if a=3 then some b else((dY g 2 (dG 16 (o+1) [.agg (TD c s)])).cons n).get a:=λb a=>mM (by simp[V.hp]) dB b a;have Q:∀b a,a<g.size->a≠3->a≠2->(dY ((dY g 2 (dG 16 (o+1) [.agg (TD c s)])).cons n) 3 b).get a=g.get a:=λb a G x bk=>by rw[P,ao x,dV,ao dB,w,ao bk]
   have bz:=(((⟨i.2.2.2.hp,i.2.2.2.low,dz⟩:ig 4 g).put 2 (dG 16 (o+1) [.agg (TD c s)])).cons n).put 3 (dG 4 (A+1) [(ff c.fj q d.dT d.kind d.obj (lq d)).1.t]);have ap:∀a,dS s=some a->4<=a:=λa j=>(i.2.2.1 a j).elim (λj=>M a j) (λj=>by simp at j;omega);refine⟨bz,(Q _ 0 dz dz dz).trans a0,(Q _ 1 dz dz dz).trans a1,?_,?_,?_,ap⟩
   ·rw[P,ao dz,dV,ao dB,w,aq rfl]
   ·rw[P,aq rfl,U]
   ·rw[bp];exact i.1.mono λa j=>by
     obtain⟨_,_,_,_,C,_⟩:=i.1.box j;have:=ap a j;exact Q _ a (H.ew C) dz dz
  have B:lq d=if d.kind=18 then d.value else-1:=rfl;simp only[TD]at r a2;cases N:decide (d.kind=18)with
  |true=>
   rw[aq (by simpa using N)]at B;rw[B]at E U;simp[G,x,K,S,R,I,J,L,al,r,D,av,aA,an,O,a0,a2,a3,W,w,aX,aN,aE,dZ,i.1.il,i.1.cells,N,E,Z];rw[B]at fin;exact⟨_,_,_,fin _⟩
  |false=>
   rw[ao (by simpa using N)]at B;rw[B]at E U;simp[G,x,K,S,R,I,J,L,al,r,D,av,aA,an,O,a0,a2,a3,W,w,aX,aN,aE,dZ,i.1.il,i.1.cells,N,E,Z];rw[B]at fin;exact⟨_,_,_,fin _⟩
 ·rintro m h ⟨z,o,A,⟨l,X,u,r,D,v,M⟩,G,x,K,S,R,I,J⟩;simp only[TD]at r;simp only[anZ]at u;have bH:c.gx.st.length=c.dO.length:=by unfold eZ.gx;simp[Mc]
  rw[bJ dz]at v;have bC:=l.sz;have w:∀e,(dY h 1 e).get 1=some e:=λe=>(dP u e 1).trans (aq rfl);have bi:∀e,Gr (dY h 1 e) z 4 (c.gx.st.map fH.t):=λe=>v.mono λb T=>by rw[dP u,ao (by have:=M b T;omega)]
  have a7:=λe=>(bi e).fz dA;simp[x,K,I,J,u,r,w,a7,dZ,l.hp]
  try rfl
 ·exact⟨dF,1,1,⟨by exact⟨dA,dA,dA⟩,dA,by simp[anZ],by simp[TD],by simp;rfl,by simpa using Gr.nil _ _,dA⟩,dA⟩
end
end Go.Proofs.YtmaeadedikngoaaGreatDoor
