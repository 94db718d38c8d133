/- Texts WGd to ALit. -/
import Derived.Test.YtmaeadedikngoaaGreatDoorA35
set_option linter.all false
set_option maxRecDepth 100000
set_option maxHeartbeats 8000000
namespace Go.Proofs.YtmaeadedikngoaaGreatDoor
noncomputable section
open Go Go.TI
attribute [-simp] List.map_take List.map_drop List.map_append fH fh ej Bool.not_or Bool.not_and
attribute [simp] fG fj
attribute [-simp] size_cons
def ny.apf{w:fF}(e:ny w){c:Nat}{b:eK}(h:w.dS[c]? =some b){d:eG}(f:d=qz w.fq w.j7 (w.dS.take c)):ApF w.fq d.fO b.dZ b.kind b.obj/\(qz w.fq w.j7 (w.dS.take (c+1))).fO=(fg w.fq d.fO b.dZ b.kind b.obj (kX b)).1:=by
 have p:c<w.dS.length:=(List.getElem?_eq_some_iff.1 h).1;have i:=e.ok.ok h;rw[<-f]at i;obtain⟨q,r,o⟩:=rh i;have g:sg (1000+(w.dS.take c).length) d:=by rw[f];exact e.sm.qz (w:=w.fq) _
 have hl:=e.ok.len;have hr:=zp e.ok.run c;have m:IA 4 d.fO:=by rw[f];exact LC e.ok.oZ _ _ hr e.rdt
 obtain⟨l1,l2,l3,l4,l5,l6⟩:=g.l;obtain⟨s,t,u,v,x,y⟩:=tI e.wb;refine⟨⟨o,dB,⟨dB,dB,dB,λj k=> ?_,g.a⟩,λj k=> ?_⟩,?_⟩
 ·have:=m.len g.a j k;omega
 ·have:=m.len g.a j k;omega
 ·have n:w.dS.take (c+1)=w.dS.take c++[b]:=by rw[List.take_add_one,h];rfl
  rw[n];have:qz w.fq w.j7 (w.dS.take c++[b])=(jY w.fq d b).1:=by
   rw[f];unfold qz;rw[Ix];rfl
  rw[this,tM d b i];rfl
def pV:iq:=⟨fF,λa=>[a.t],λa=>ny a,λa=> .tuple [fJ.t ⟨a,a.gx.st⟩,.bool true],λc d b=>by simp at b;rw[fF.inj b]⟩
def Tk(a:fF)(b:T):List T:=[sl (a.fq.cells.map ig.t),sl (a.fq.ew.map iF.t),sl (a.fq.gW.map iT.t),sl (a.fq.ei.map T.str),sl (a.fq.dM.map T.str),sl (a.fq.iH.map iI.t),dG a.start,sl (a.j7.fO.ew.map eg.t),dG a.j7.fO.tx,sl (a.j7.fO.done.map T.bool),sl (a.j7.fO.dM.map dP.t),sl (a.j7.cells.map (T.int .i64)),sl (a.j7.ei.map (T.int .i64)),sl (a.j7.count.map (T.int .i64)),sl (a.dS.map eK.t),b]
def anZ:List T:=[dH,dH,dH,dH,dH,dH,dG 0,dH,dG 0,dH,dH,dH,dH,dH,dH,dH]
structure AnJ(w:fF)(h:H)(k:Nat)(v:T)(ver ver5:Nat):Prop where
 ok:ij 4 h
 b0:h.get 0=some (dI 15 0 [w.t])
 b1:h.get 1=some (dI 16 0 [.agg anZ])
 b2:h.get 2=some (dI 16 ver [.agg (Tk w v)])
 b3:h.get 3=some (dI 4 ver5 [(qz w.fq w.j7 (w.dS.take k)).fO.t])
 g:Gr h v 4 ((w.gx.st.take k).map fK.t)
 l:∀b,dU v=some b->4<=b
def EB:pV.Ok Tryz.prog cx 21:=by
 refine iC (tb:=⟨pt [(47,wx)],ht []⟩) fc fa (je 9223389645163727807 [] Tryz.func21) (λ_=>100) (by simp[pV]) (by simp[pV,Tryz.f21]) ?_;rintro(c:fF) y m Y;replace y:ny c:=y;simp[pV]at Y|-;have bS:=y.ok.len;have bT:=y.ok.oZ;simp[Tryz.f21,Y,show¬(16:Int)<c.dS.length by omega,show¬(4:Int)<c.fq.dM.length by omega];refine fI c.dS.length dB (λk m h=>∃z o A,AnJ c h k z o A/\dJ m 1 (.ptr 0 0 0 0)/\dJ m 2 (.ptr 1 0 0 0)/\dJ m 4 (.ptr 2 0 0 0)/\dJ m 5 (.ptr 3 0 0 0)/\dJ m 30 (sl (c.dS.map eK.t))/\dJ m 31 (dG c.dS.length)/\dJ m 32 (dG k)) ?_ ?_ dB ?_
 ·rintro k m h L Z ⟨z,o,A,⟨l,X,u,r,D,v,M⟩,G,x,K,S,R,I,J⟩;obtain⟨a6,U⟩:=y.apf (aB L) rfl;have bn:=y.ok.st L;have bp:(c.gx.st.take (k+1))=c.gx.st.take k++[(qz c.fq c.j7 (c.dS.take k)).fO]:=by rw[List.take_add_one,bn];rfl
  generalize(qz c.fq c.j7 (c.dS.take k)).fO=q at*
  have b7:=l.ne (b:=0) dB;have b9:=l.ne (b:=1) dB;have av:=l.ne (b:=2) dB;have aA:=l.ne (b:=3) dB;have bu:ij 0 h:=⟨l.hp,l.low,aw _⟩;generalize al:c.dS[k]=d at*
  have a8:Gr (h.cons (dI 7 1 [d.t])) z 4 ((c.gx.st.take k).map fK.t):=v.mono λb T=>by
   obtain⟨_,_,_,_,C,_⟩:=v.box T;rw[dW,ao (by have:=H.eJ C;omega)]
  have bN:(c.gx.st.take k).length<=16:=dD;obtain⟨s,g,O,i⟩:=a8.nq (cx:=cx) (f:=fK.t) (bu.cons _) Wt rfl Wx rfl dC (λ_=>rfl) q (by simp only[show U6.bytes=80 from rfl];omega);rw[show(h.cons (dI 7 1 [d.t])).size=h.size+1 from rfl]at O;have E:∀{tb:fN},tb.p 47=some wx->rl Tryz.prog cx tb 47 [c.fq.t,q.t,dG d.dZ,dG d.kind,dG d.obj,dG (kX d)]=some (.tuple [(fg c.fq q d.dZ d.kind d.obj (kX d)).1.t,dG (fg c.fq q d.dZ d.kind d.obj (kX d)).2,.bool true]):=λht=>iv ht Pm (c.fq,q,d.dZ,d.kind,d.obj,kX d) a6;have bC:=l.sz;have bB:=i.2.2.2.sz;simp at bB;have an:=l.low;have bs:∀a,a<4->dU z≠some a:=λa ae j=>by have:=M a j;omega
  have F:∀a,a<4->g.get a=h.get a:=λa ae=>(i.2.1 a dD (bs a ae)).trans (by rw[dW,ao dB]);have a0:=(F 0 dB).trans X;have a1:=(F 1 dB).trans u;have a2:=(F 2 dB).trans r;have a3:=(F 3 dB).trans D;have W:g.get h.size=some (dI 7 1 [d.t]):=(i.2.1 h.size dC (λj=>by obtain⟨_,_,_,_,C,_⟩:=v.box j;have:=H.eJ C;omega)).trans dC;have w:∀e a,(d8 g 2 e).get a=if a=2 then some e else g.get a:=λe a=>dQ a2 e a;have aX:(h.size=2)=False:=dD;have V:ij 0 g:=⟨i.2.2.2.hp,i.2.2.2.low,aw _⟩;have aN:∀e n b,d8 ((d8 g 2 e).cons n) g.size b=(d8 g 2 e).cons b:=λe n b=>BZ _ _ _ _ dC (by have:=(V.put 2 e).low;simpa using this);have aE:(3=g.size)=False:=dD;have ca:(2=g.size)=False:=dD;have b8:(0=g.size)=False:=dD;have cb:(h.size=g.size)=False:=dD;have b6:∀e,(d8 g 2 e).low<=g.size:=λe=>by have:=(V.put 2 e).low;simpa using this
  have fin:∀(n:iY),AnJ c (d8 ((d8 g 2 (dI 16 (o+1) [.agg (Tk c s)])).cons n) 3 (dI 4 (A+1) [(fg c.fq q d.dZ d.kind d.obj (kX d)).1.t])) (k+1) s (o+1) (A+1):=λn=>by
   have P:∀b a,(d8 ((d8 g 2 (dI 16 (o+1) [.agg (Tk c s)])).cons n) 3 b).get a=if a=3 then some b else((d8 g 2 (dI 16 (o+1) [.agg (Tk c s)])).cons n).get a:=λb a=>m6 (by simp[V.hp]) dD b a;have Q:∀b a,a<g.size->a≠3->a≠2->(d8 ((d8 g 2 (dI 16 (o+1) [.agg (Tk c s)])).cons n) 3 b).get a=g.get a:=λb a G x bk=>by rw[P,ao x,dW,ao dD,w,ao bk]
   have bz:=(((⟨i.2.2.2.hp,i.2.2.2.low,dB⟩:ij 4 g).put 2 (dI 16 (o+1) [.agg (Tk c s)])).cons n).put 3 (dI 4 (A+1) [(fg c.fq q d.dZ d.kind d.obj (kX d)).1.t]);have ap:∀a,dU s=some a->4<=a:=λa j=>(i.2.2.1 a j).elim (λj=>M a j) (λj=>by simp at j;omega);refine⟨bz,(Q _ 0 dB dB dB).trans a0,(Q _ 1 dB dB dB).trans a1,?_,?_,?_,ap⟩
   ·rw[P,ao dB,dW,ao dD,w,aq rfl]
   ·rw[P,aq rfl,U]
   ·rw[bp];exact i.1.mono λa j=>by
     obtain⟨_,_,_,_,C,_⟩:=i.1.box j;have:=ap a j;exact Q _ a (H.eJ C) dB dB
  have B:kX d=if d.kind=18 then d.value else-1:=rfl;simp only[Tk]at r a2;cases N:decide (d.kind=18)with
  |true=>
   rw[aq (by simpa using N)]at B;rw[B]at E U;simp[G,x,K,S,R,I,J,L,al,r,D,av,aA,an,O,a0,a2,a3,W,w,aX,aN,aE,ed,i.1.im,i.1.cells,N,E,Z];rw[B]at fin;exact⟨_,_,_,fin _⟩
  |false=>
   rw[ao (by simpa using N)]at B;rw[B]at E U;simp[G,x,K,S,R,I,J,L,al,r,D,av,aA,an,O,a0,a2,a3,W,w,aX,aN,aE,ed,i.1.im,i.1.cells,N,E,Z];rw[B]at fin;exact⟨_,_,_,fin _⟩
 ·rintro m h ⟨z,o,A,⟨l,X,u,r,D,v,M⟩,G,x,K,S,R,I,J⟩;simp only[Tk]at r;simp only[anZ]at u;have bH:c.gx.st.length=c.dS.length:=by unfold fF.gx;simp[LW]
  rw[bJ dB]at v;have bC:=l.sz;have w:∀e,(d8 h 1 e).get 1=some e:=λe=>(dQ u e 1).trans (aq rfl);have bi:∀e,Gr (d8 h 1 e) z 4 (c.gx.st.map fK.t):=λe=>v.mono λb T=>by rw[dQ u,ao (by have:=M b T;omega)]
  have a7:=λe=>(bi e).fz dC;simp[x,K,I,J,u,r,w,a7,ed,l.hp]
  try rfl
 ·exact⟨dH,1,1,⟨by exact⟨dC,dC,dC⟩,dC,by simp[anZ],by simp[Tk],by simp;rfl,by simpa using Gr.nil _ _,dC⟩,dC⟩
end
noncomputable section
open Go Go.TI
def l0:T:= .agg [(.dN [(.agg [(dG 1),(dG 1),(.str [120]),(dG 0),(dG 0),(.str [])])] false),(.dN [(.agg [(.str [116]),(dG 1),dH,(.dN [(.agg [(dG 12),(dG 1),(.str [117]),(.str []),dH,(dG 0),(dG 0),(.str []),dH,dH,dH]),(.agg [(dG 1),(dG 1),(.str [120]),(.str []),dH,(dG 1),(dG 1),(.str []),dH,dH,dH])] false)]),(.agg [(.str [117]),(dG 1),dH,(.dN [(.agg [(dG 1),(dG 1),(.str [120]),(.str []),dH,(dG 1),(dG 2),(.str []),dH,dH,dH])] false)])] false)]
def l1:T:= .dN [(.agg [(.str [120]),(dG 0),(dG 0),(.bool false),(dG 0)])] false
def l2:T:= .dN [(.agg [(dG 0),(dG 0),(dG 1)]),(.agg [(dG 0),(dG 1),(dG 1)]),(.agg [(dG 1),(dG 0),(dG 1)])] false
def l3:T:= .agg [(dG 28),(dG 0),(dG 0),(dG 0),(dG 0),(dG (.negSucc 0))]
def l4:T:= .agg [l1,dH,dH,dH,(.dN [(.str [116]),(.str [117])] false),l2,(.dN [(.agg [(dG 1),(.dN [(.agg [(dG 24),(dG 1),(dG 0),(dG 0),(dG 0),(dG 0)]),(.agg [(dG 1),(dG 0),(dG 0),(dG 0),(dG 1),(dG 1)]),(.agg [(dG 8),(dG 0),(dG 0),(dG 0),(dG 0),(dG 1)]),l3] false)]),(.agg [(dG 1),(.dN [(.agg [(dG 1),(dG 0),(dG 0),(dG 0),(dG 2),(dG 2)]),(.agg [(dG 8),(dG 0),(dG 0),(dG 0),(dG 0),(dG 2)]),l3] false)])] false)]
def l5:T:= .dN [(.agg [(dG 0),(dG 1),(dG (.negSucc 0)),(dG 0),(dG (.negSucc 0)),dH,dH]),(.agg [(dG 0),(dG 20),(dG 1),(dG 0),(dG 0),dH,dH]),(.agg [(dG 0),(dG 4),(dG 0),(dG 1),(dG 1),dH,dH]),(.agg [(dG 0),(dG 2),(dG (.negSucc 0)),(dG 0),(dG (.negSucc 0)),dH,dH]),(.agg [(dG 1),(dG 1),(dG (.negSucc 0)),(dG 0),(dG (.negSucc 0)),dH,dH]),(.agg [(dG 1),(dG 4),(dG 0),(dG 2),(dG 2),dH,dH]),(.agg [(dG 1),(dG 2),(dG (.negSucc 0)),(dG 0),(dG (.negSucc 0)),dH,dH])] false
def l6:T:= .agg [(dG 5),(dG 0),(.bool false)]
end
end Go.Proofs.YtmaeadedikngoaaGreatDoor
