/- W20m -/
import Derived.Test.YtajpdafdickapaaGreatDoorA30
set_option linter.all false
set_option maxRecDepth 100000
set_option maxHeartbeats 8000000
namespace Go.Proofs.YtajpdafdickapaaGreatDoor
noncomputable section
open Go Go.TI Tryz
attribute [-simp] List.map_take List.map_drop List.map_append fy fa eg Bool.not_or Bool.not_and
attribute [simp] fw fc
def JS:gG:=⟨Unit,λ_=>[],λ_=>True,λ_=> .bool true,λ_ _ _=>rfl⟩
def Tl:JS.Ok prog cx 10:=λ_ _=>Pe
def X8{a:fJ}(ht:a.p 10=some JS):rl prog cx a 10 []=some (.bool true):=im ht Tl () trivial
def uL:gG:=⟨dW×kG,λa=>[a.1.t,a.2.t],λa=>lO a.1/\a.2.kF.length<=1000000,λa=> .bool (a.1.gx.vR a.2),λa c b=>by simp at b;rw[dW.inj b.1,kG.inj b.2]⟩
def N4{b:fJ}(ht:b.p 33=some wv)(a:dW)(c:lO a):rl prog cx b 33 [a.t]=some (.tuple [fU.t ⟨a,a.gx.st⟩,.bool true]):=im ht NA a c
def PM:uL.Ok prog cx 14:=by
 refine fZ [(33,wv),(34,yV)] (iX 127 [] func14) (λ_=>100) (by simp[uL]) ?_;rintro⟨c,d⟩ ⟨a,hl⟩ g b;simp only at a hl;simp[uL]at b|-;obtain⟨e,f⟩:=b;simp[f14,e,f,N4,a,Uc,(⟨a,rfl⟩:A5 ⟨c,c.gx.st⟩),hl];exact GX.aeg _ d
def uP:gG:=⟨fq,λa=>[a.t],λa=>a.ei.length<=1000000/\a.done.length<=1000000/\a.dH.length<=1000000/\∀c∈a.ei,c.ew.length<=1000000,λa=>a.t,λd e b=>by simp at b;rw[fq.inj b]⟩
def Tk:uP.Ok prog cx 46:=by
 rintro(a:fq) d;have⟨q,h,l,k⟩:=Du [a.t] ⟨0,0,[]⟩ ⟨a,rfl,⟨rfl,aw _,aw _⟩,d⟩;obtain⟨e,f,g,p,rfl,b,n⟩:=l a ⟨rfl,⟨rfl,aw _,aw _⟩,d⟩;have m:TI.rS h (MQ a e f g)=some a.t:=by
  unfold MQ;rw[LR];simp[b.fz.1,b.fz.2.1,b.fz.2.2]
 have⟨r,i,c⟩:=dI.1 m;simp only[au]at c;have:=I8 k n.ok.hp (ax _) (λo s j=>by simp at j) i;rw[c]at this;exact H5 (ls _ (by simp[uP])) dy this
def RE{b:fJ}(ht:b.p 46=some uP)(a:fq)(c:a.ei.length<=1000000/\a.done.length<=1000000/\a.dH.length<=1000000/\∀d∈a.ei,d.ew.length<=1000000):rl prog cx b 46 [a.t]=some a.t:=im ht Tk a c
section
attribute [-simp] size_cons
def yE{d:fJ}(ht:d.p 22=some pL)(b:dW)(a:eK)(c:Int)(e:tO b a):rl prog cx d 22 [b.t,a.t,Z c]=some (.bool (ji b a c)):=im ht Im (b,a,c) e
def C2:gG:=⟨dW×eK×Int,λa=>[a.1.t,a.2.1.t,Z a.2.2],λa=>tO a.1 a.2.1,λa=>sl ((oc a.1 a.2.1 a.2.2).map (T.int .i64)),λa c b=>by simp at b;rw[show a=c from aC (dW.inj b.1) (aC (eK.inj b.2.1) b.2.2)]⟩
def SX:C2.Ok prog cx 23:=by
 refine fZ [(12,oh),(49,r7)] (iX 34368127455 [] func23) (λy=>5) (by simp[C2]) ?_;rintro⟨b,a,d⟩ (k:tO b a) C s;simp[C2]at s|-;obtain⟨g,h,i⟩:=s;have hE:=oc.eq_1 b a d;generalize oc b a d=x at*
 have j:=λ{r:fJ} (ht:r.p 12=some oh)=>CA ht b a d k.ev k.od;by_cases v:fM b a d<0
 ·rw[aq J]at hE;simp[f23,g,h,i,j,show¬0<=fM b a d by omega,hE]
  try rfl
 ·have q:=oK v;have⟨e,f,o,z,A,B⟩:=k.hw.at q;rw[qh (eZ.1 q).1 f]at hE;have u:a.fj.dH.length<=1099511627776:=by have:=k.l (pP q);omega
  have t:=λ{r:fJ} (ht:r.p 49=some r7)=>Ae ht a.fj e.obj u;have m:0<=fM b a d:=J;cases c:decide (e.kind=18)
  ·rw[aq (by simp at c;simp[c])]at hE;simp[f23,g,h,i,j,m,f,o,c,hE]
   try rfl
  ·by_cases n:iw e.obj a.fj.dH 0=[]
   ·rw[aq (by simp[n])]at hE;simp[f23,g,h,i,j,m,f,o,c,t,n,hE]
    try rfl
   ·rw[ar ⟨m,by simpa using c,n⟩]at hE;have w:0<(iw e.obj a.fj.dH 0).length:=List.length_pos_iff.2 n;simp[f23,g,h,i,j,m,f,o,c,t,w,hE]
def X0{d:fJ}(ht:d.p 23=some C2)(b:dW)(a:eK)(c:Int)(e:tO b a):rl prog cx d 23 [b.t,a.t,Z c]=some (sl ((oc b a c).map (T.int .i64))):=im ht SX (b,a,c) e
def acI(g:H)(a:fq)(b:Nat)(c d:List gu):Prop:=∃h e f,ny g 4 9 h [(sl (a.ei.map dR.t),none),(Z a.tx,none),(sl (a.done.map T.bool),none),(sl (a.dH.map dJ.t),none),(e,some (2,c.map gu.t)),(f,some (2,d.map gu.t)),(dD,none),(.arr 2 0 0 b false,some (1,(List.replicate b false).map T.bool)),(.arr 3 0 0 b false,some (1,(List.replicate b (0:Int)).map (T.int .i64)))]
def qJ:iY:=(dE 9 0 [.agg [dD,Z 0,dD,dD,dD,dD,dD,dD,dD]])
def wg:gG:=⟨dW,λa=>[a.t],λa=>lO a,λa=>(kh a).t,λc d b=>by simp at b;rw[dW.inj b]⟩
def Ni:wg.Ok prog cx 21:=by
 refine fZ [(46,uP)] (iX 17592202821695 [(1,[(3,5),(3,7),(3,9),(3,11),(3,13)])] func21) (λ_=>1000005) (by simp[wg]) ?_;rintro(a:dW) K d v;simp[wg]at v|-;have⟨l1,l2,l3,l4,l5,l6⟩:=K.sm.l;have a7:=K.ok.len;have S:a.dL.length<=70368744177664:=J;have U:a.dL.length*8<=70368744177664:=J;have al:=λ{av:fJ} (ht:av.p 46=some uP)=>RE ht a.jF.fj ⟨J,J,J,λl D=>by have:=K.sm.r l D;omega⟩;have X:kh a=⟨a.jF.fj,a.jF.cells.map λi=>⟨i,true⟩,a.jF.ee.map λi=>⟨i,true⟩,[],List.replicate a.dL.length false,List.replicate a.dL.length 0⟩:=rfl;rw[X];simp[f21,v,al,S,U];generalize a.jF.fj=c at*
 refine fD a.jF.cells.length J (λm d g=>acI g c a.dL.length ((a.jF.cells.take m).map λi=>⟨i,true⟩) []/\Lb 4 g 0 (dE 15 0 [a.t])/\Lb 4 g 1 qJ/\dF d 1 (.ptr 0 0 0 0)/\dF d 2 (.ptr 1 0 0 0)/\dF d 3 (.ptr 4 0 0 0)/\dF d 4 (Z m)) ?_ ?_ J ?_
 ·rintro m d g C I ⟨⟨M,e,f,b⟩,h,q,j,o,s,u⟩;have n:=b.get;simp at n;have⟨aA,W,H,A⟩:=(b.gr 4 rfl).mn (cx:=cx) (f:=gu.t) b.ok AY rfl Cw rfl dy (λ_=>rfl) ⟨a.jF.cells[m],true⟩ dz;have⟨y,ap,E⟩:=b.app 4 rfl A;have⟨z,F⟩:=E _ rfl;simp only[aP,bI,cw,cq]at y z F;simp[j,o,s,u,C,h.get,n,H,y,dX,A.1.iy,A.1.cells,I];exact⟨⟨_,_,_,by rw[aQ C,List.map_append];exact F⟩,h.step z,q.step z⟩
 ·rintro d g ⟨⟨M,e,f,b⟩,h,q,j,o,s,u⟩;rw[aK]at b;simp[j,u,h.get];refine fD a.jF.ee.length J (λm d g=>acI g c a.dL.length (a.jF.cells.map λi=>⟨i,true⟩) ((a.jF.ee.take m).map λi=>⟨i,true⟩)/\Lb 4 g 0 (dE 15 0 [a.t])/\Lb 4 g 1 qJ/\dF d 1 (.ptr 0 0 0 0)/\dF d 2 (.ptr 1 0 0 0)/\dF d 3 (.ptr 4 0 0 0)/\dF d 5 (Z m)) ?_ ?_ J ⟨⟨_,_,_,b⟩,h,q,by simp[j,o,s]⟩
  ·rintro m d g C I ⟨⟨M,e,f,b⟩,h,q,j,o,s,u⟩;have n:=b.get;simp at n;have⟨aA,W,H,A⟩:=(b.gr 5 rfl).mn (cx:=cx) (f:=gu.t) b.ok AY rfl Cw rfl dy (λ_=>rfl) ⟨a.jF.ee[m],true⟩ dz;have⟨y,ap,E⟩:=b.app 5 rfl A;have⟨z,F⟩:=E _ rfl;simp only[aP,bI,cw,cq]at y z F;simp[j,o,s,u,C,h.get,n,H,y,dX,A.1.iy,A.1.cells,I];exact⟨⟨_,_,_,by rw[aQ C,List.map_append];exact F⟩,h.step z,q.step z⟩
  ·rintro d g ⟨⟨M,e,f,b⟩,h,q,j,o,s,u⟩;rw[aK]at b;have n:=b.get;simp at n;have L:=q.get;unfold qJ at L;have G:=b.qx q (dE 9 1 [.agg [sl (c.ei.map dR.t),Z c.tx,sl (c.done.map T.bool),sl (c.dH.map dJ.t),e,f,dD,.arr 2 0 0 a.dL.length false,.arr 3 0 0 a.dL.length false]]);have V:(dZ g 1 (dE 9 1 [.agg [sl (c.ei.map dR.t),Z c.tx,sl (c.done.map T.bool),sl (c.dH.map dJ.t),e,f,dD,.arr 2 0 0 a.dL.length false,.arr 3 0 0 a.dL.length false]])).get 1=_:=(dN L _ 1).trans (ar rfl);have aE:=(G.gr 4 rfl).fz dy;have aN:=(G.gr 5 rfl).fz dy;have aX:=(G.gr 7 rfl).fz dy;have a6:=(G.gr 8 rfl).fz dy;simp[j,o,s,u,h.get,n,L,dX,V,aE,aN,aX,a6,-List.map_replicate,-wK];exact⟨b.ok.hp,by unfold eK.t eK.cs;simp[-List.map_replicate]⟩
 ·have Q:∀(w:Nat) (B:T×aa (Nat×List T)),([(sl (c.ei.map dR.t),none),(Z c.tx,none),(sl (c.done.map T.bool),none),(sl (c.dH.map dJ.t),none),(dD,some (2,[])),(dD,some (2,[])),(dD,none),(.arr 2 0 0 a.dL.length false,some (1,(List.replicate a.dL.length false).map T.bool)),(.arr 3 0 0 a.dL.length false,some (1,(List.replicate a.dL.length (0:Int)).map (T.int .i64)))]:List (T×aa (Nat×List T)))[w]? =some B->∀e,dT B.1=some e->e+5=w:=by
   intro w B v e ae;rcases w with _|_|_|_|_|_|_|_|_|w<;>simp at v<;>subst v<;>simp at ae<;>omega
  refine⟨⟨1,dD,dD,⟨dy,dy,dy⟩,dy,λf N=>?_,λw k an B R v Y e y E=>an ?_⟩,⟨dy,?_⟩,⟨by simp[qJ],?_⟩,dy⟩
  ·simp only[bZ,cG,or_false,bI,List.take_zero]at N;rcases N with rfl|rfl|rfl|rfl|rfl|rfl|rfl|rfl|rfl
   iterate 4 (show dT _=none;simp)
   ·exact⟨Gr.nil _ _,dB⟩
   ·exact⟨Gr.nil _ _,dB⟩
   ·show dT _=none;simp
   ·exact⟨.inr ⟨2,0,0,true,_,dy,by simp;rfl,dy⟩,show(1:Nat)≠9 by decide⟩
   ·exact⟨.inr ⟨3,0,0,true,_,dy,by simp;rfl,dy⟩,show(1:Nat)≠9 by decide⟩
  ·have j:=Q w B (by simpa using v) e y;have o:=Q k R (by simpa using Y) e E;omega
  all_goals
   rintro(D|⟨x,P,i,O,D⟩)
   ·simp at D
   ·simp at P;subst P;simp[fF,T.cells]at O;rcases O with rfl|rfl|rfl|rfl|rfl|rfl|rfl|rfl|rfl<;>simp at D
def Rr{b:fJ}(ht:b.p 21=some wg)(a:dW)(c:lO a):rl prog cx b 21 [a.t]=some (kh a).t:=im ht Ni a c
def AX(b:dW)(c:eK)(a:Int):Bool:=decide (fM b c (lq b.dL a).dP=a)&&(!decide ((lq b.dL a).kind=17)||decide ((jS c.fj (lq b.dL a).dP).ij=4))
def TB{a:List Int}{c:Int}(b:a.getLast?=some c):0<a.length/\a[a.length-1]? =some c:=by
 rw[List.getLast?_eq_getElem?]at b;refine⟨?_,b⟩;cases a with
 |nil=>simp at b
 |cons=>simp
def Mj{c:fJ}(ht:c.p 14=some uL)(b:dW)(a:kG)(d:lO b)(hl:a.kF.length<=1000000):rl prog cx c 14 [b.t,a.t]=some (.bool (b.gx.vR a)):=im ht PM (b,a) ⟨d,hl⟩
def sh(b:dW)(c:eK)(a:Int):Bool:=iN a b.dL.length&&decide (fM b c (lq b.dL a).dP=a)
def yf(b:dW)(c:eK)(a:Int):Bool:=iN a b.dL.length&&Lu b c a
def xd:gG:=⟨dW×eK×Int,λa=>[a.1.t,a.2.1.t,Z a.2.2],λa=>tO a.1 a.2.1,λa=> .bool (sh a.1 a.2.1 a.2.2),λa c b=>by simp at b;rw[show a=c from aC (dW.inj b.1) (aC (eK.inj b.2.1) b.2.2)]⟩
def PY:xd.Ok prog cx 53:=by
 refine fZ [(98,wm)] (iX 95 [] func53) (λr=>5) (by simp[xd]) ?_;rintro⟨c,g,a⟩ (j:tO c g) x i;simp[xd]at i|-;obtain⟨d,e,f⟩:=i;cases b:iN a c.dL.length with
 |false=>
  have v:=pQ b;by_cases k:0<=a
  ·simp[f53,d,e,f,sh,b,show decide (0<=a)=true by simpa using k,show decide (a<(c.dL.length:Int))=false by simp;omega]
  ·simp[f53,d,e,f,sh,b,show decide (0<=a)=false by simpa using k]
 |true=>
  have⟨m,h,n,s,t,u⟩:=j.hw.at b;have⟨l,w⟩:=eZ.1 b;have o:=λ{q:fJ} (ht:q.p 98=some wm)=>Rw ht c g m.dP j;simp[f53,d,e,f,sh,b,show decide (0<=a)=true by simpa using l,show decide (a<(c.dL.length:Int))=true by simp;omega,h,n,o,qh l h]
def Cz{d:fJ}(ht:d.p 53=some xd)(b:dW)(a:eK)(c:Int)(e:tO b a):rl prog cx d 53 [b.t,a.t,Z c]=some (.bool (sh b a c)):=im ht PY (b,a,c) e
def yX:gG:=⟨dW×eK×Int,λa=>[a.1.t,a.2.1.t,Z a.2.2],λa=>tO a.1 a.2.1,λa=> .bool (yf a.1 a.2.1 a.2.2),λa c b=>by simp at b;rw[show a=c from aC (dW.inj b.1) (aC (eK.inj b.2.1) b.2.2)]⟩
def PV:yX.Ok prog cx 52:=by
 refine fZ [(53,xd),(97,un)] (iX 95 [] func52) (λo=>5) (by simp[yX]) ?_;rintro⟨a,b,c⟩ (e:tO a b) s k;simp[yX]at k|-;obtain⟨g,h,i⟩:=k;have j:yf a b c=(sh a b c&&ji a b (lq a.dL c).dP):=by unfold yf sh Lu;rw[Bool.and_assoc]
 cases d:sh a b c
 ·simp[f52,g,h,i,Cz,e,j,d]
 ·have l:iN c a.dL.length=true:=by unfold sh at d;simp only[aB]at d;exact d.1
  have⟨p,f,m,q,n,r⟩:=e.hw.at l;simp[f52,g,h,i,Cz,e,j,d,f,m,N3,n,qh (eZ.1 l).1 f]
def Mo{d:fJ}(ht:d.p 52=some yX)(b:dW)(a:eK)(c:Int)(e:tO b a):rl prog cx d 52 [b.t,a.t,Z c]=some (.bool (yf b a c)):=im ht PV (b,a,c) e
def L3(c:dW)(a:eK)(b:Int):Bool:=sh c a b&&AX c a b
def oX(g:dW)(f:eK)(e:kG):Bool:=
 if e.kind=1 then yf g f e.a&&yf g f e.b
 else if e.kind=2 then e.kF.all (L3 g f)
 else if e.kind=3 then decide (f.order.getLast?=some e.b)&&decide (e.a∈f.order)&&HB f e.a
 else if e.kind=4 then decide (0<=place f e.a)&&decide (place f e.a<place f e.c)&&decide (e.d∈f.order)&&yf g f e.b
 else false
def wh:gG:=⟨dW×eK×kG,λa=>[a.1.t,a.2.1.t,a.2.2.t],λa=>tO a.1 a.2.1/\a.2.2.kF.length<=1000000,λa=> .bool (oX a.1 a.2.1 a.2.2),λa c b=>by simp at b;rw[show a=c from aC (dW.inj b.1) (aC (eK.inj b.2.1) (kG.inj b.2.2))]⟩
def No:wh.Ok prog cx 25:=by
 refine fZ [(52,yX),(53,xd),(54,nG),(55,uO)] (iX 332306998946231919705005790102318975 [] func25) (λa=>1000005) (by simp[wh]) ?_;rintro⟨h,d,c⟩ ⟨k,hl⟩ q N;simp only at k hl;simp[wh]at N|-;obtain⟨m,n,o⟩:=N;have hE:=oX.eq_1 h d c;generalize oX h d c=S at*
 have F:=k.od;by_cases e:c.kind=1
 ·rw[ar e]at hE;simp[f25,m,n,o,show decide (c.kind=1)=true by simpa using e,Mo,k,hE]
 rw[aq e]at hE;have r:decide (c.kind=1)=false:=by simpa using e
 by_cases e:c.kind=2
 ·rw[ar e]at hE;have l:decide (c.kind=2)=true:=by simpa using e
  simp[f25,m,n,o,r,l];refine fD c.kF.length J (λi q w=>il 3 w/\w.get 0=some (dE 15 0 [h.t])/\w.get 1=some (dE 9 0 [d.t])/\dF q 3 (.ptr 0 0 0 0)/\dF q 4 (.ptr 1 0 0 0)/\dF q 31 (sl (c.kF.map (T.int .i64)))/\dF q 32 (Z c.kF.length)/\dF q 33 (Z i)/\(c.kF.drop i).all (L3 h d)=S) ?_ ?_ J ⟨⟨dy,dy,dy⟩,dy,dy,by simp[hE]⟩
  ·rintro i q w H al ⟨p,z,A,B,D,C,x,y,f⟩;rw[aI H,cd]at f;have Y:L3 h d c.kF[i]=(sh h d c.kF[i]&&AX h d c.kF[i]):=rfl;rw[Y]at f;have aE:=p.ne (b:=0) J;have v:=p.ne (b:=1) J;cases g:sh h d c.kF[i]with
   |false=>
    rw[g]at f;simp at f;simp[z,A,B,D,C,x,y,H,Cz,k,g,p.hp,f]
   |true=>
   rw[g,aZ]at f;have j:iN c.kF[i] h.dL.length=true:=by unfold sh at g;simp only[aB]at g;exact g.1
   have⟨u,G,V,aX,M,a6⟩:=k.hw.at j;have ae:AX h d c.kF[i]=(decide (fM h d u.dP=c.kF[i])&&(!decide (u.kind=17)||decide ((jS d.fj u.dP).ij=4))):=by
    unfold AX;rw[qh (eZ.1 j).1 G]
   have aA:decide (fM h d u.dP=c.kF[i])=true:=by unfold sh at g;simp only[aB]at g;rw[qh (eZ.1 j).1 G]at g;exact g.2
   rw[ae,aA,aZ]at f;have O:=k.hc.ft (pP j);have⟨P,t1,t2,t3⟩:=vU O M;have an:decide ((d.fj.dH.length:Int)<=u.dP)=false:=by rw[(kr O).2.2];have:=eZ.1 M;simp;omega
   rw[t3]at f;simp[z,A,B,D,C,x,y,H,Cz,k,g,G,V,v,p.low,t1,t2,an];refine ej (λap=>?_) (λap=>?_)
   ·rw[show(!decide (u.kind=17)||decide (P.ij=4))=false by grind]at f;simp at f;simp[p.hp,f]
   ·rw[show(!decide (u.kind=17)||decide (P.ij=4))=true by grind]at f;simp at f;simp[z,A,B,D,C,x,y,aE,v,al,p.cons,f]
  ·rintro q w ⟨p,z,A,B,D,C,x,y,f⟩;rw[bO]at f;simp at f;simp[x,y,p.hp,f]
 rw[aq e]at hE;have l:decide (c.kind=2)=false:=by simpa using e
 by_cases e:c.kind=3
 ·rw[ar e]at hE;have s:decide (c.kind=3)=true:=by simpa using e
  have a8:d.qQ.length=h.dL.length:=k.hc.wk;cases E:d.order.getLast? with
  |none=>
   have av:d.order=[]:=by simpa using E
   rw[E]at hE;simp at hE;simp[f25,m,n,o,r,l,s,av,hE]
  |some Q=>
   have⟨v,I⟩:=TB E;rw[E]at hE;have aN:decide (some Q=some c.b)=decide (Q=c.b):=dy;rw[aN]at hE;have K:binop .sub (Z (d.order.length:Int)) (Z 1)=some (Z ((d.order.length-1:Nat):Int)):=by rw[kU J J,show(d.order.length:Int)-1=((d.order.length-1:Nat):Int)by omega]
   cases j:iN c.a d.qQ.length with
   |false=>
    have a7:=pQ j;have L:HB d c.a=false:=by unfold HB;rw[nM j];rfl
    rw[L,Bool.and_false]at hE;by_cases g:0<=c.a
    ·simp[f25,m,n,o,r,l,s,v,I,K,oP,F,show decide (0<=c.a)=true by simpa using g,show decide (c.a<(d.qQ.length:Int))=false by simp;omega,hE]
    ·simp[f25,m,n,o,r,l,s,v,I,K,oP,F,show decide (0<=c.a)=false by simpa using g,hE]
   |true=>
    have⟨R,W,X⟩:=iD j;have⟨p1,p2⟩:=eZ.1 j;have L:HB d c.a=decide (R=0):=by unfold HB;rw[X];simp
    rw[L]at hE;simp[f25,m,n,o,r,l,s,v,I,K,oP,F,show decide (0<=c.a)=true by simpa using p1,show decide (c.a<(d.qQ.length:Int))=true by simp;omega,eG p1,W,hE]
 rw[aq e]at hE;have s:decide (c.kind=3)=false:=by simpa using e
 by_cases e:c.kind=4
 ·rw[ar e]at hE;have U:decide (c.kind=4)=true:=by simpa using e
  simp[f25,m,n,o,r,l,s,U,Mq,oP,Mo,k,F,hE];rfl
 ·rw[aq e]at hE;simp[f25,m,n,o,r,l,s,show decide (c.kind=4)=false by simpa using e,hE]
def Rt{d:fJ}(ht:d.p 25=some wh)(c:dW)(a:eK)(b:kG)(e:tO c a)(hl:b.kF.length<=1000000):rl prog cx d 25 [c.t,a.t,b.t]=some (.bool (oX c a b)):=im ht No (c,a,b) ⟨e,hl⟩
def xf:gG:=⟨dW×eK×kG,λa=>[a.1.t,a.2.1.t,a.2.2.t],λa=>tO a.1 a.2.1/\a.2.2.kF.length<=1000000,λa=> .bool (oX a.1 a.2.1 a.2.2&&a.1.gx.vR a.2.2),λa c b=>by simp at b;rw[show a=c from aC (dW.inj b.1) (aC (eK.inj b.2.1) (kG.inj b.2.2))]⟩
def Qf:xf.Ok prog cx 9:=by
 refine fZ [(25,wh),(14,uL)] (iX 127 [] func9) (λf=>5) (by simp[xf]) ?_;rintro⟨j,g,h⟩ ⟨a,hl⟩ i b;simp only at a hl;simp[xf]at b|-;obtain⟨c,d,e⟩:=b;simp[f9,c,d,e,Rt,Mj,a,a.hw,hl]
def Uh{d:fJ}(ht:d.p 9=some xf)(b:dW)(c:eK)(a:kG)(e:tO b c)(hl:a.kF.length<=1000000):rl prog cx d 9 [b.t,c.t,a.t]=some (.bool (oX b c a&&b.gx.vR a)):=im ht Qf (b,c,a) ⟨e,hl⟩
@[simp]def agx (a:Nat):(a+1+1=a)=False:=dz 
@[simp]def agw (a:Nat):(a+1+1+1=a)=False:=dz 
@[simp]def agv (a:Nat):(a+1+1+1+1=a)=False:=dz 
@[simp]def agu (a:Nat):(a+1+1+1+1+1=a)=False:=dz 
@[simp]def agt (a:Nat):(a+1+1+1+1+1+1=a)=False:=dz 
@[simp]def agn (a:Nat):(a=a+1+1+1+1+1+1)=False:=dz 
@[simp]def agm (a:Nat):(a=a+1+1+1+1+1+1+1)=False:=dz 
def Bx(e:H)(a b f:Nat)(c:List T):Prop:=∃g d,e.get a=some ⟨f,b,g,d,false,c⟩
def Bx.mono{d h':H}{a b e:Nat}{c:List T}(j:Bx d a b e c)(g:h'.get a=d.get a):Bx h' a b e c:=by obtain⟨i,f,h⟩:=j;exact⟨i,f,g.trans h⟩
def Bx.gr{d:H}{b c e:Nat}{a:List T}(g:Bx d b c e a):Gr d (.arr b c 0 a.length false) e a:=by obtain⟨i,h,f⟩:=g;exact Gr.new f
def Pn(a:eK)(b:List T)(c:H):Prop:=b=[a.t]/\il 0 c/\(a.fj.ei.length<=1000000/\a.fj.done.length<=1000000/\a.fj.dH.length<=1000000/\∀d∈a.fj.ei,d.ew.length<=1000000)/\a.cells.length<=1000000/\a.ee.length<=1000000/\a.order.length<=1000000/\a.fixed.length<=1000000/\a.qQ.length<=1000000
def VK(a:eK)(b c d e f g:Nat):T:= .agg [sl (a.fj.ei.map dR.t),Z a.fj.tx,sl (a.fj.done.map T.bool),sl (a.fj.dH.map dJ.t),.arr b c 0 a.cells.length false,.arr (b+1) d 0 a.ee.length false,.arr (b+1+1) e 0 a.order.length false,.arr (b+1+1+1) f 0 a.fixed.length false,.arr (b+1+1+1+1) g 0 a.qQ.length false]
structure Sf(c:eK)(n e1 e2 e3 e4 e5:Nat)(h':H):Prop where
 bc:Bx h' n e1 2 (c.cells.map gu.t)
 bf:Bx h' (n+1) e2 2 (c.ee.map gu.t)
 bo:Bx h' (n+1+1) e3 1 (ge c.order)
 bx:Bx h' (n+1+1+1) e4 1 (c.fixed.map T.bool)
 bk:Bx h' (n+1+1+1+1) e5 1 (ge c.qQ)
 bz:n+5<=h'.size
def Ly(b:eK)(k:List T)(h:H)(j:T)(i:H):Prop:=∃a c d e f g,h.size<=a/\Nb h i/\j=VK b a c d e f g/\Sf b a c d e f g i
def vX{b c:H}{x:iY}(e:∀a,a<b.size->c.get a=b.get a)(f:c.size=b.size+1)(a:Nat)(d:(a=b.size)=False):fk (b.cons x) c a=true:=by
 rcases dg a b.size with q|q|q
 ·exact fG ((e a q).trans (by rw[dS,aq J]))
 ·exact(d▸q:False).elim
 ·exact jf (lz _ dz)
def Qp:(jM eK Pn Ly).Ok prog cx 50:=by
 refine jB (tb:=⟨pt [(46,uP)],ht []⟩) iR iE (iX 7 [(1,[(2,3),(2,5),(2,7),(6,7),(2,9),(6,9),(2,11),(6,11),(10,11),(2,13),(6,13),(10,13),(2,15),(6,15),(10,15),(14,15),(2,17),(6,17),(10,17),(14,17),(2,19),(6,19),(10,19),(14,19),(18,19),(2,21),(6,21),(10,21),(14,21),(18,21)])] func50) (λ_ _=>20) (λi a b a7=>by obtain⟨rfl,_⟩:=a7;simp[f50]) ?_;rintro c _ b ⟨rfl,bH,a8,l1,l2,l3,l4,l5⟩ c9 L;simp at L;have A:=bH.hr;have aX:=λ{tb:fJ} (ht:tb.p 46=some uP)=>RE ht c.fj a8;have⟨f,g⟩:∃f:H,f=((TI.hr b).cons (dE 9 0 [c.t])).cons qJ:=⟨_,rfl⟩;have b6:il 0 f:=by subst g;exact(A.cons _).cons _
 have X:f.size=b.size+1+1:=by subst g;rfl
 have bC:Nb b f:=by subst g;exact⟨(((Nb.refl A).cons _).cons _).ok,λc aN=>((((Nb.refl A).cons _).cons _).get c aN).trans (ik b c)⟩
 have av:f.get b.size=some (dE 9 0 [c.t]):=by subst g;simp
 have aA:f.get (b.size+1)=some qJ:=by subst g;simp
 have⟨Y,dd,B,⟨b8,cL,gA⟩,n,u,bN⟩:=kq (cx:=cx) (sz:=2) b6 (x:=sl (c.cells.map gu.t)) (xs:=c.cells.map gu.t) AY rfl Cw AY rfl rfl dy dy dy dz;have⟨ae,de,C,⟨b9,c1,G⟩,o,m,okB⟩:=kq (cx:=cx) (sz:=2) bN (x:=sl (c.ee.map gu.t)) (xs:=c.ee.map gu.t) AY rfl Cw AY rfl rfl dy dy dy dz;have⟨al,di,D,⟨ca,c4,gC⟩,q,k,bS⟩:=kq (cx:=cx) (sz:=1) okB (x:=sl (ge c.order)) (xs:=ge c.order) j9 rfl mY j9 rfl rfl dy dy (by simp[T.cells]) dz;have⟨an,dk,E,⟨cb,c6,I⟩,r,h,Nt⟩:=kq (cx:=cx) (sz:=1) bS (x:=sl (c.fixed.map T.bool)) (xs:=c.fixed.map T.bool) AZ rfl L4 AZ rfl rfl dy dy (λe a6=>by obtain⟨d,_,rfl⟩:=List.mem_map.1 a6;rfl) dz;have⟨ap,V,F,⟨cp,c7,K⟩,W,j,bT⟩:=kq (cx:=cx) (sz:=1) Nt (x:=sl (ge c.qQ)) (xs:=ge c.qQ) j9 rfl mY j9 rfl rfl dy dy (by simp[T.cells]) dz;have Q:=vX (x:=(dE 2 0 [])) u n;have R:=vX (x:=(dE 2 0 [])) m o;have S:=vX (x:=(dE 1 0 [])) k q;have U:=vX (x:=(dE 1 0 [])) h r;have b7:=vX (x:=(dE 1 0 [])) j W;rw[X]at n;rw[n]at o;rw[o]at q;rw[q]at r;rw[r]at W;have M:=(u b.size J).trans av;have N:=(m b.size J).trans M;have O:=(k b.size J).trans N;have bi:=(h b.size J).trans O;have bn:=(u (b.size+1) J).trans aA;have bs:=(m (b.size+1) J).trans bn;have bu:=(k (b.size+1) J).trans bs;have bB:=(h (b.size+1) J).trans bu;have s:=(j (b.size+1) J).trans bB;simp only[X,aH]at B gA Q;simp only[n,aH]at C G R;simp only[o,aH]at D gC S;simp only[q,aH]at E I U;simp only[r,aH]at F K b7;unfold qJ at g s;simp[f50,L,aX];rw[<-g];have aE:=λy=>(dN s y (b.size+1)).trans (ar rfl);simp[M,N,O,bi,B,C,D,E,F,Q,R,S,U,n,o,q,r,s,aE];generalize w:dZ V (b.size+1) _=v;have l:∀d,d≠b.size+1->(md b v).get d=V.get d:=λd z=>by rw[fV,<-w,dN s,aq z]
 have P:il 0 v:=by rw[<-w];exact bT.put _ _
 have dm:(md b v).size=b.size+7:=by rw[ut,<-w,fK];omega
 exact⟨b.size+1+1,Y,ae,al,an,ap,J,⟨⟨(P.out b).hp,(P.out b).low,J⟩,λd z=>(l d J).trans ((j d J).trans ((h d J).trans ((k d J).trans ((m d J).trans ((u d J).trans (bC.get d z))))))⟩,rfl,
  ⟨b8,cL,(l _ J).trans ((j _ J).trans ((h _ J).trans ((k _ J).trans ((m _ J).trans gA))))⟩,
  ⟨b9,c1,(l _ J).trans ((j _ J).trans ((h _ J).trans ((k _ J).trans G)))⟩,
  ⟨ca,c4,(l _ J).trans ((j _ J).trans ((h _ J).trans gC))⟩,⟨cb,c6,(l _ J).trans ((j _ J).trans I)⟩,⟨cp,c7,(l _ J).trans K⟩,J⟩
def wL(a:eK)(b c d e f:T):List (T×aa (Nat×List T)):=[(sl (a.fj.ei.map dR.t),none),(Z a.fj.tx,none),(sl (a.fj.done.map T.bool),none),(sl (a.fj.dH.map dJ.t),none),(b,some (2,a.cells.map gu.t)),(c,some (2,a.ee.map gu.t)),(d,some (1,ge a.order)),(e,some (1,a.fixed.map T.bool)),(f,some (1,ge a.qQ))]
def Sf.iv{c:eK}{S:fq}{a i j k l m ver:Nat}{h:H}(g:Sf c a i j k l m h)(C:il 0 h)(I:1<a)(z:h.get 1=some (dE 9 ver [.agg [sl (S.ei.map dR.t),Z S.tx,sl (S.done.map T.bool),sl (S.dH.map dJ.t),.arr a i 0 c.cells.length false,.arr (a+1) j 0 c.ee.length false,.arr (a+1+1) k 0 c.order.length false,.arr (a+1+1+1) l 0 c.fixed.length false,.arr (a+1+1+1+1) m 0 c.qQ.length false]])):
 ny h 1 9 ver (wL {c with fj:=S} (.arr a i 0 c.cells.length false) (.arr (a+1) j 0 c.ee.length false) (.arr (a+1+1) k 0 c.order.length false) (.arr (a+1+1+1) l 0 c.fixed.length false) (.arr (a+1+1+1+1) m 0 c.qQ.length false))/\∀d,Fp h 1 d->d=1\/(a<=d/\d<a+5):=by
 have s:∀(b:Nat) (f:T×aa (Nat×List T)),(wL {c with fj:=S} (.arr a i 0 c.cells.length false) (.arr (a+1) j 0 c.ee.length false) (.arr (a+1+1) k 0 c.order.length false) (.arr (a+1+1+1) l 0 c.fixed.length false) (.arr (a+1+1+1+1) m 0 c.qQ.length false))[b]? =some f->∀d,dT f.1=some d->d+4=a+b/\b<9:=by
  intro b f n d q;unfold wL at n;rcases b with _|_|_|_|_|_|_|_|_|b<;>simp at n<;>subst n<;>simp at q<;>omega
 have w:ny h 1 9 ver (wL {c with fj:=S} (.arr a i 0 c.cells.length false) (.arr (a+1) j 0 c.ee.length false) (.arr (a+1+1) k 0 c.order.length false) (.arr (a+1+1+1) l 0 c.fixed.length false) (.arr (a+1+1+1+1) m 0 c.qQ.length false)):=by
  refine⟨C,z,λu o=>?_,λb B A f x n y d e D=>A ?_⟩
  ·simp only[wL,bZ,cG,or_false]at o;rcases o with rfl|rfl|rfl|rfl|rfl|rfl|rfl|rfl|rfl
   iterate 4 (show dT _=none;simp)
   ·exact⟨by simpa using g.bc.gr,show(2:Nat)≠9 by decide⟩
   ·exact⟨by simpa using g.bf.gr,show(2:Nat)≠9 by decide⟩
   ·exact⟨by simpa using g.bo.gr,show(1:Nat)≠9 by decide⟩
   ·exact⟨by simpa using g.bx.gr,show(1:Nat)≠9 by decide⟩
   ·exact⟨by simpa using g.bk.gr,show(1:Nat)≠9 by decide⟩
  ·have E:=s b f n d e;have F:=s B x y d D;omega
 refine⟨w,λd q=>?_⟩;rcases q with e|⟨L,r,K,v,e⟩
 ·exact .inl e
 ·rw[w.get]at r;simp only[au]at r;subst r;simp only[fF,cN,cZ,bQ,T.cells]at v;obtain⟨u,o,rfl⟩:=List.mem_map.1 v;have⟨b,p⟩:=cF o;have:=s b u p d e;have G:4<=b:=by
   rcases b with _|_|_|_|b
   iterate 4 (simp[wL]at p;subst p;simp at e)
   omega
  omega
def abJ{b a:Nat}{c:H}{f:iY}(d:Lb b c a f):b≠a:=λe=>d.nf (.inl e.symm)
def GC{e d a:Nat}{b:H}{i y f:iY}(h:Lb e b a f)(c:Lb e b d i)(g:a≠d):Lb e (dZ b d y) a f:=
 h.kT (by rw[dN c.get,aq (abJ c)]) (by rw[dN c.get,aq g])
def Vx{d c:Nat}{a:H}{g:iY}(b:Lb d a c g)(e:iY):Lb d (dZ a c e) c e:=
 ⟨by rw[dN b.get,ar rfl],by
   have f:(dZ a c e).get d=a.get d:=by rw[dN b.get,aq (abJ b)]
   rw[iT f];exact b.nf⟩
def abI{b h i:Nat}{f:List (T×aa (Nat×List T))}{a:H}(e:ny a b h i f)(c:iY):Lb b (a.cons c) a.size c:=
 ⟨dy,λd=>by
   have g:(a.cons c).get b=a.get b:=by rw[dS,aq (by have:=e.lt;omega)]
   rw[iT g]at d;have:=e.fp _ d;omega⟩
def LT{b:List gu}{c d:Int}{a:gu}(f:rf b c=some a):fixC b c d=(a.known&&decide (a.value=d)):=by
 unfold fixC;rw[f];obtain⟨g,e⟩:=a;cases e<;>simp
def xa:gG:=⟨dW×eK×fX,λa=>[a.1.t,a.2.1.t,a.2.2.t],λa=>tO a.1 a.2.1,λa=> .tuple [(rZ a.1 a.2.1 a.2.2).1.t,.bool (rZ a.1 a.2.1 a.2.2).2],λa c b=>by simp at b;rw[show a=c from aC (dW.inj b.1) (aC (eK.inj b.2.1) (fX.inj b.2.2))]⟩
def J19(b:eK)(a:H):Prop:=∃h c d e f g,ny a 1 9 h (wL b c d e f g)/\Lb 1 a 3 qJ
def PP:xa.Ok prog cx 24:=by
 refine A6 (tb:=⟨pt [(22,pL),(12,oh),(48,oH),(51,qV)],ht [(50,jM eK Pn Ly)]⟩) iR iE (iX 184680779068091373590541728903436752898777087 [] func24) (λ_=>100) (by simp[xa]) nl9 ?_;rintro⟨j,c,e⟩ (b:tO j c) A eN;simp[xa]at eN|-;obtain⟨eI,E,P⟩:=eN;have bC:=rZ.eq_1 j c e;cases an:ji j c e.dP with
 |false=>
  rw[an,aq dy]at bC;simp[f24,eI,E,P,yE,b,an,bC];rfl
 |true=>
 rw[ar an]at bC;have hE:=ji.eq_1 j c e.dP;have eO:¬fM j c e.dP<0:=λq=>by rw[ar q,an]at hE;simp at hE
 rw[aq eO,an]at hE;have M:=oK eO;have⟨a,de,bn,gS,gV,b7⟩:=b.hw.at M;rw[qh (eZ.1 M).1 de]at bC hE;have fo:iG j.em c.fj e.dP a.kind a.obj=true:=by
  cases q:iG j.em c.fj e.dP a.kind a.obj
  ·rw[q]at hE;simp at hE
  ·rfl
 have fs:=b.hw.ev a (ay de);have fC:=λ{tb:fJ} (ht:tb.p 12=some oh)=>CA ht j c e.dP b.ev b.od;have fA:=λ{tb:fJ} (ht:tb.p 48=some oH)=>F3 ht j c e.dP a.uF b.ev fs.2;have hd:=b.l (pP M);have fl:j.em.gF.length<=1099511627776:=by have:=kV b.hw.wb;omega
 have ff:=λ{tb:fJ} (ht:tb.p 51=some qV)=>Je ht j.em c.fj e.dP a.kind a.obj e.vQ fl ⟨J,J,J,b.hc.rd,b.hc.BB⟩ fo;rw[bC];generalize hb:fM j c e.dP=u at*
 generalize fv:mT j c e.dP a.uF=dm at*
 simp[f24,eI,E,P,yE,b,an,fC,de,bn,fA];generalize Q:H.cons _ _=W;have gk:il 0 W:=by rw[<-Q];exact⟨dy,dy,dy⟩
 have gQ:W.size=5:=by rw[<-Q];rfl
 have gn:W.get 0=some (dE 15 0 [j.t]):=by rw[<-Q];simp
 have gv:W.get 1=some (dE 9 0 [c.t]):=by rw[<-Q];simp
 have gw:W.get 2=some (dE 2 0 [e.t]):=by rw[<-Q];simp
 have gy:W.get 3=some qJ:=by rw[<-Q];simp[qJ]
 have gz:W.get 4=some (dE 7 1 [a.t]):=by rw[<-Q];simp
 clear Q;refine iC Qp dy c ⟨rfl,gk,⟨J,J,J,b.hc.rd⟩,by have:=b.hc.ce (pP M);have:=kV b.hw.wb;omega,by have:=b.hc.fu (pP M);have:=kV b.hw.wb;omega,b.od,by have:=b.hc.fx;have:=b.ev;omega,by have:=b.hc.wk;have:=b.ev;omega⟩ ?_;rintro _ V ⟨n,p1,p2,p3,p4,p5,fE,Y,rfl,R⟩;rw[gQ]at fE;have a0:=(Y.get 0 J).trans gn;have a1:=(Y.get 1 J).trans gv;have a2:=(Y.get 2 J).trans gw;have a3:=(Y.get 3 J).trans gy;have a4:=(Y.get 4 J).trans gz;have x:=λy=>(dN a1 y 1).trans (ar rfl);have go:=λy g (fi:(g=1)=False)=>(dN a1 y g).trans (aq (by simp[fi]));simp[VK,a0,a1,a2,a4,x,go,dX,ff];generalize al:dZ (H.cons _ _) V.size _=L;have b9:il 0 V:=⟨Y.ok.hp,Y.ok.low,ax _⟩;have hg:=R.bz;have okB:il 0 L:=by rw[<-al];exact((b9.put _ _).cons _).put _ _
 have e9:L.size=V.size+1:=by rw[<-al,fK];simp[size_cons]
 have eB:L.get V.size=some (dE 4 1 [(eY j.em c.fj e.dP a.kind a.obj e.vQ).1.t]):=by rw[<-al,mL ((b9.put _ _).cons _).hp (by simp[size_cons]),ar rfl]
 have D:∀g,g<V.size->g≠1->L.get g=V.get g:=λg E P=>by
  rw[<-al,mL ((b9.put _ _).cons _).hp (by simp[size_cons]),aq J,dS,aq dz,dN a1,aq P]
 have b6:L.get 1=some (dE 9 1 [.agg [sl (c.fj.ei.map dR.t),Z c.fj.tx,sl (c.fj.done.map T.bool),sl (c.fj.dH.map dJ.t),.arr n p1 0 c.cells.length false,.arr (n+1) p2 0 c.ee.length false,.arr (n+1+1) p3 0 c.order.length false,.arr (n+1+1+1) p4 0 c.fixed.length false,.arr (n+1+1+1+1) p5 0 c.qQ.length false]]):=by
  rw[<-al,mL ((b9.put _ _).cons _).hp (by simp[size_cons]),aq J,dS,aq dz];exact x _
 have et:=(D 0 J J).trans a0;have eu:=(D 2 J J).trans a2;have ey:=(D 3 J J).trans a3;have eA:=(D 4 J J).trans a4;have ae:Sf c n p1 p2 p3 p4 p5 L:=⟨R.bc.mono (D _ J J),R.bf.mono (D _ J J),R.bo.mono (D _ J J),R.bx.mono (D _ J J),R.bk.mono (D _ J J),J⟩;clear al x go D;have ha:wJ j c u a e.dP e.vQ=wJ j c u a e.dP e.vQ:=rfl;generalize hr:eY j.em c.fj e.dP a.kind a.obj e.vQ=r at*
 obtain⟨S,ca⟩:=r;simp[eB,b6,dX];generalize bB:dZ L 1 _=bu;have gP:bu.size=V.size+1:=by rw[<-bB,fK,e9]
 have eU:il 0 bu:=by rw[<-bB];exact okB.put _ _
 have U:∀g,g≠1->bu.get g=L.get g:=λg P=>by rw[<-bB,dN b6,aq P]
 have⟨d,eF⟩:=Sf.iv (S:=S) (c:=c) (ver:=2) (h:=bu) ⟨ae.bc.mono (U _ J),ae.bf.mono (U _ J),ae.bo.mono (U _ J),ae.bx.mono (U _ J),ae.bk.mono (U _ J),J⟩ eU J (by rw[<-bB,dN b6,ar rfl]);have bH:∀g w,g<5->g≠1->L.get g=some w->Lb 1 bu g w:=λg w E P fe=>⟨(U g P).trans fe,λq=>by have:=eF g q;omega⟩;have l0:=bH 0 _ J J et;have l2:=bH 2 _ J J eu;have l3:=bH 3 _ J J ey;have l4:=bH 4 _ J J eA;clear bH bB U eF ae eB et b6 eu ey eA okB e9 R a0 a1 a2 a3 a4;have⟨hf,eH,eC,cb⟩:=(d.gr 6 rfl).mn (cx:=cx) (f:=T.int .i64) d.ok j9 rfl mY rfl dy (λ_=>rfl) u (by have:=b.hc.od;simp;omega);have⟨eb,gm,eW⟩:=d.app 6 rfl cb;have⟨aA,av⟩:=eW _ rfl;have dn:=d.get;simp only[wL,aP,bI,cw,cq]at eb aA av dn;simp[dn,eC,eb,dX,cb.1.iy,cb.1.cells];have e4:=av.cons (dE 2 0 [gu.t ⟨0,false⟩]);have ec:=Step.cons av.ok av.lt (dE 2 0 [gu.t ⟨0,false⟩]);have ap:=abI av (dE 2 0 [gu.t ⟨0,false⟩]);rw[fK]at ap;have z:=GC (y:=(dE 2 1 [gu.t ⟨0,false⟩])) ((l3.step aA).step ec) ap (by have:=(l3.step aA).lt;rw[fK]at this;omega);have s:=GC (y:=(dE 2 1 [gu.t ⟨0,false⟩])) ((l4.step aA).step ec) ap (by have:=(l4.step aA).lt;rw[fK]at this;omega);have N:=Vx ap (dE 2 1 [gu.t ⟨0,false⟩]);have e5:=e4.qx ap (dE 2 1 [gu.t ⟨0,false⟩]);generalize dZ (H.cons _ _) eH.size _=gZ at*
 generalize eH.size=m at*
 clear e4 ec ap av aA eb gm eW cb eC dn l0 l2 l3 l4 d eU gP;refine ll (λA h=>∃aX a6 a7 a8 bi e7,ny h 1 9 3 (wL {c with fj:=S,order:=c.order++[u]} aX a6 a7 a8 bi)/\Lb 1 h 3 qJ/\Lb 1 h 4 (dE 7 1 [a.t])/\Lb 1 h m (dE 2 e7 [(cont dm a.value).t])/\dF A 4 (.ptr 1 0 0 0)/\dF A 6 (.ptr 3 0 0 0)/\dF A 8 (Z u)/\dF A 9 (.ptr 4 0 0 0)/\dF A 12 (Z ca)/\dF A 14 (.ptr m 0 0 0)) (λea=>?_) (λea=>?_) ?_
 ·subst ea;have fL:(4=m)=False:=by have:=N.nf;have:=s;simp;intro q;subst q;have E:=N.get;rw[s.get]at E;simp at E
  simp[s.get,N.get];exact⟨⟨_,_,_,_,_,e5.qx N _⟩,GC z N (by intro q;subst q;have E:=N.get;rw[z.get]at E;simp[qJ]at E),GC s N (by simpa using fL),_,Vx N _⟩
 ·subst ea;simp;exact⟨⟨_,_,_,_,_,e5⟩,z,s,_,N⟩
 rintro A h ⟨aX,a6,a7,a8,bi,e7,d,l3,l4,eS,F,G,b8,bs,eL,eM⟩;simp[bs,l4.get];have ds:a.kind=3\/a.kind=4->iN a.obj c.cells.length=true:=λq=>by
  rw[b.hc.ce (pP M)];unfold jE at b7;rcases q with q|q<;>simpa[q]using b7
 have dv:a.kind=22\/a.kind=23->iN a.obj c.ee.length=true:=λq=>by
  rw[b.hc.fu (pP M)];unfold jE at b7;rcases q with q|q<;>simpa[q]using b7
 have eP:u.toNat<c.fixed.length:=by rw[b.hc.fx];exact(eZ.1 M).2
 have fB:u.toNat<c.qQ.length:=by rw[b.hc.wk];exact(eZ.1 M).2
 have x:=d.get;simp only[wL,aP,bI]at x;have eX:∀w y:Bool,mG (.bool w) 0 [.bool y]=some (.bool y):=λ_ _=>rfl;have e0:∀w y:Int,mG (Z w) 0 [Z y]=some (Z y):=λ_ _=>rfl;have k:=wJ.eq_1 j c u a e.dP e.vQ;rw[hr,fv]at k;generalize wJ j c u a e.dP e.vQ=K at*
 refine ll (λA h=>J19 K h/\dF A 4 (.ptr 1 0 0 0)/\dF A 6 (.ptr 3 0 0 0)) (λc6=>?_) (λc6=>?_) ?_
 ·have o:a.kind=3:=by simpa using c6
  have⟨w,bT,eh⟩:=iD (ds (.inl o));have v:=eZ.1 (ds (.inl o));have⟨q,di,ef,dk,er,bN,X,z,s⟩:=(d.gr 4 rfl).Bp (te:=Ff) rfl (i:=a.obj.toNat) (by simpa using v.2);have⟨eV,eD,e6,eE,e8,aE,aN,I,O⟩:=(d.gr 7 rfl).Bp (te:=V7) rfl (i:=u.toNat) (by simpa using eP);have eo:c.cells[a.obj.toNat]'v.2=w:=by rw[az v.2]at bT;simpa using bT
  simp[eo]at s O;simp[o,LT eh]at k;have⟨C,B⟩:=d.elem 7 rfl aE I u.toNat (.bool (w.known&&decide (w.value=a.value)));simp[F,G,b8,bs,x,l4.get,eG v.1,X,z,s,bn,aN,I,O,eX];exact⟨_,_,_,_,_,_,by rw[k];simpa[wL,br]using B,l3.step C⟩
 have gi:¬a.kind=3:=by simpa using c6
 simp;refine ej (λc4=>?_) (λc4=>?_)
 ·have o:a.kind=23:=by simpa using c4
  have⟨w,bT,eh⟩:=iD (dv (.inr o));have v:=eZ.1 (dv (.inr o));have⟨q,di,ef,dk,er,bN,X,z,s⟩:=(d.gr 5 rfl).Bp (te:=Ff) rfl (i:=a.obj.toNat) (by simpa using v.2);have⟨eV,eD,e6,eE,e8,aE,aN,I,O⟩:=(d.gr 7 rfl).Bp (te:=V7) rfl (i:=u.toNat) (by simpa using eP);have eo:c.ee[a.obj.toNat]'v.2=w:=by rw[az v.2]at bT;simpa using bT
  simp[eo]at s O;simp[o,LT eh]at k;have⟨C,B⟩:=d.elem 7 rfl aE I u.toNat (.bool (w.known&&decide (w.value=a.value)));simp[F,G,b8,bs,x,l4.get,eG v.1,X,z,s,bn,aN,I,O,eX];exact⟨_,_,_,_,_,_,by rw[k];simpa[wL,br]using B,l3.step C⟩
 have gg:¬a.kind=23:=by simpa using c4
 simp;refine ej (λc7=>?_) (λc7=>?_)
 ·have o:a.kind=4:=by simpa using c7
  have v:=eZ.1 (ds (.inr o));have⟨q,di,ef,dk,er,bN,X,z,s⟩:=(d.gr 4 rfl).Bp (te:=Ff) rfl (i:=a.obj.toNat) (by simpa using v.2);simp at s;simp[o]at k;have⟨C,B⟩:=d.elem 4 rfl bN z a.obj.toNat (cont dm a.value).t;simp[F,G,bs,eM,x,l4.get,eS.get,eG v.1,X,z,s];exact⟨_,_,_,_,_,_,by rw[k];simpa[wL,br]using B,l3.step C⟩
 have gj:¬a.kind=4:=by simpa using c7
 simp;refine ej (λc1=>?_) (λc1=>?_)
 ·have o:a.kind=22:=by simpa using c1
  have v:=eZ.1 (dv (.inl o));have⟨q,di,ef,dk,er,bN,X,z,s⟩:=(d.gr 5 rfl).Bp (te:=Ff) rfl (i:=a.obj.toNat) (by simpa using v.2);simp at s;simp[o]at k;have⟨C,B⟩:=d.elem 5 rfl bN z a.obj.toNat (cont dm a.value).t;simp[F,G,bs,eM,x,l4.get,eS.get,eG v.1,X,z,s];exact⟨_,_,_,_,_,_,by rw[k];simpa[wL,br]using B,l3.step C⟩
 have gd:¬a.kind=22:=by simpa using c1
 have⟨eV,eD,e6,eE,e8,aE,aN,I,O⟩:=(d.gr 8 rfl).Bp (te:=EM) rfl (i:=u.toNat) (by simpa using fB);simp at O;simp;refine ej (λcp=>?_) (λcp=>?_)
 ·have o:a.kind=18:=by simpa using cp
  simp[o]at k;simp[eL];refine ej (λc9=>?_) (λc9=>?_)
  ·have dd:0<=ca:=by simpa using c9
   rw[ar dd]at k;have⟨C,B⟩:=d.elem 8 rfl aE I u.toNat (Z 1);simp[F,G,b8,x,bn,aN,I,O,e0];exact⟨_,_,_,_,_,_,by rw[k];simpa[wL,br]using B,l3.step C⟩
  ·have dd:¬0<=ca:=by simpa using c9
   rw[aq dd]at k;simp[F,G];exact⟨_,_,_,_,_,_,by rw[k];exact d,l3⟩
 have fS:¬a.kind=18:=by simpa using cp
 simp;refine ej (λcL=>?_) (λcL=>?_)
 ·have o:a.kind=19:=by simpa using cL
  simp[o]at k;have⟨C,B⟩:=d.elem 8 rfl aE I u.toNat (Z ca);simp[F,G,b8,eL,x,bn,aN,I,O,e0];exact⟨_,_,_,_,_,_,by rw[k];simpa[wL,br]using B,l3.step C⟩
 ·have fY:¬a.kind=19:=by simpa using cL
  simp[gi,gg,gj,gd,fS,fY]at k;simp[F,G];exact⟨_,_,_,_,_,_,by rw[k];exact d,l3⟩
 rintro A h ⟨⟨ver,aX,a6,a7,a8,bi,d,l3⟩,F,G⟩;have x:=d.get;simp only[wL,aP,bI]at x;have eR:=l3.get;unfold qJ at eR;have bS:=d.qx l3 (dE 9 1 [.agg [sl (K.fj.ei.map dR.t),Z K.fj.tx,sl (K.fj.done.map T.bool),sl (K.fj.dH.map dJ.t),aX,a6,a7,a8,bi]]);have fb:=(dN l3.get (dE 9 1 [.agg [sl (K.fj.ei.map dR.t),Z K.fj.tx,sl (K.fj.done.map T.bool),sl (K.fj.dH.map dJ.t),aX,a6,a7,a8,bi]]) 3).trans (ar rfl);have gB:=(bS.gr 4 rfl).fz dy;have gD:=(bS.gr 5 rfl).fz dy;have gE:=(bS.gr 6 rfl).fz dy;have gI:=(bS.gr 7 rfl).fz dy;have gM:=(bS.gr 8 rfl).fz dy;simp[F,G,x,eR,dX,fb,gB,gD,gE,gI,gM,d.ok.hp]
def Ud{d:fJ}(ht:d.p 24=some xa)(b:dW)(a:eK)(c:fX)(e:tO b a):rl prog cx d 24 [b.t,a.t,c.t]=some (.tuple [(rZ b a c).1.t,.bool (rZ b a c).2]):=im ht PP (b,a,c) e
def G7{b:dW}{c:eK}{d:Int}(a:ji b c d=true):iN (fM b c d) b.dL.length=true:=by
 refine oK λe=>?_;unfold ji at a;rw[ar e]at a;simp at a
def Fd{b:dW}{a:eK}{c:Int}(d:tO b a)(e:ji b a c=true):(oc b a c).length<=5:=by
 have:=(d.l (pP (G7 e))).2.2;unfold oc;split
 ·have:=Fe (lq b.dL (fM b a c)).obj a.fj.dH 0;omega
 ·simp
def Eo(c:dW)(b:eK)(a:Nat):lN c b (a+1)=lN c b a++(if ji c b a=true then(oc c b a).map λd=>(⟨a,d⟩:fX)else []):=by
 unfold lN;rw[List.range_succ,List.flatMap_append];simp
def F2{c:dW}{b:eK}(d:tO c b):∀a,(lN c b a).length<=5*a:=by
 intro a;induction a with
 |zero=>simp[lN]
 |succ a f=>
  rw[Eo,bj];split
  ·rename_i e;have:=Fd d e;rw[aH];omega
  ·simp;omega
def A0{w:dW}{c:eK}{n:Nat}{ch:fX}(a:ch∈lN w c n):ji w c ch.dP=true:=by
 unfold lN at a;rw[List.mem_flatMap]at a;obtain⟨e,_,a⟩:=a;split at a
 ·rename_i b;obtain⟨d,_,rfl⟩:=List.mem_map.1 a;exact b
 ·simp at a
structure Mz(w:dW)(c:eK)(P L:List fX)(pv lv:T)(h:H):Prop where
 ok:il 3 h
 b0:h.get 0=some (dE 15 0 [w.t])
 b1:h.get 1=some qJ
 b2:∃ver,h.get 2=some (dE 9 ver [c.t])
 gp:Gr h pv 2 (P.map fX.t)
 gl:Gr h lv 2 (L.map fX.t)
 dp:∀b,dT pv=some b->3<=b/\dT lv≠some b
 dl:∀b,dT lv=some b->3<=b
def Mz.afE{n:dW}{j:eK}{i d:List fX}{m k l:T}{g h:H}{o:fX}(b:Mz n j i d m k g)(p:Xt g k 2 ((d++[o]).map fX.t) l h):Mz n j i (d++[o]) m l h:=by
 obtain⟨a1,a2,a3,a4⟩:=p;have u:=b.ok.sz;have e:∀a,a<3->h.get a=g.get a:=λa c=>a2 a J λq=>by have:=b.dl a q;omega
 have⟨s,r⟩:=b.b2;refine⟨⟨a4.hp,a4.low,by have:=a4.sz;omega⟩,(e 0 J).trans b.b0,(e 1 J).trans b.b1,⟨s,(e 2 J).trans r⟩,b.gp.mono λa c=>?_,a1,λa c=>⟨(b.dp a c).1,λq=>?_⟩,λa c=>?_⟩
 ·have⟨_,_,_,_,f,_⟩:=b.gp.box c;exact a2 a (H.fh f) (b.dp a c).2
 ·have⟨_,_,_,_,f,_⟩:=b.gp.box c;rcases a3 a q with q|q
  ·exact(b.dp a c).2 q
  ·have:=H.fh f;omega
 ·rcases a3 a c with q|q
  ·exact b.dl a q
  ·omega
def Mz.afD{k:dW}{h:eK}{d m:List fX}{i p j:T}{f g:H}{l:fX}(b:Mz k h d m i p f)(n:Xt f i 2 ((d++[l]).map fX.t) j g):Mz k h (d++[l]) [] j dD g:=by
 obtain⟨a1,a2,a3,a4⟩:=n;have s:=b.ok.sz;have e:∀a,a<3->g.get a=f.get a:=λa c=>a2 a J λq=>by have:=(b.dp a q).1;omega
 have⟨r,o⟩:=b.b2;refine⟨⟨a4.hp,a4.low,by have:=a4.sz;omega⟩,(e 0 J).trans b.b0,(e 1 J).trans b.b1,⟨r,(e 2 J).trans o⟩,a1,Gr.nil _ _,λa c=>⟨?_,dy⟩,λa c=>by simp at c⟩;rcases a3 a c with q|q
 ·exact(b.dp a q).1
 ·omega
def Mz.aez{l:dW}{m c':eK}{h g:List fX}{k j:T}{d:H}(b:Mz l m h g k j d)(f:Nat):Mz l c' h g k j (dZ d 2 (dE 9 f [c'.t])):=by
 have⟨n,i⟩:=b.b2;have e:∀a,a≠2->(dZ d 2 (dE 9 f [c'.t])).get a=d.get a:=λa c=>by rw[dN i,aq c]
 exact⟨b.ok.put _ _,(e 0 J).trans b.b0,(e 1 J).trans b.b1,⟨f,by rw[dN i,ar rfl]⟩,b.gp.mono λa c=>e a (by have:=(b.dp a c).1;omega),b.gl.mono λa c=>e a (by have:=b.dl a c;omega),b.dp,b.dl⟩
def Mz.fin{k:dW}{h:eK}{d f:List fX}{e j:T}{b:H}(a:Mz k h d f e j b)(c:iY):(dZ b 1 c).get 1=some c/\TI.rS (dZ b 1 c) e=some (sl (d.map fX.t)):=
 ⟨by rw[dN a.b1,ar rfl],(a.gp.mono λg i=>by rw[dN a.b1,aq (by have:=(a.dp g i).1;omega)]).rS dy⟩
def Fl:gG:=⟨dW×List Int,λa=>[a.1.t,sl (ge a.2)],λa=>lO a.1/\a.2.length<=40/\∀c∈a.2,0<=c/\c<=255,λa=> .tuple [sl ((m7 a.1 a.2 [] (kh a.1)).1.map fX.t),(m7 a.1 a.2 [] (kh a.1)).2.t],λa d b=>by simp at b;rw[show a=d from aC (dW.inj b.1) (jx dy b.2)]⟩
def WF:Fl.Ok prog cx 7:=by
 refine fZ [(21,wg),(22,pL),(23,C2),(24,xa)] (iX 36965550156818169847 [] func7) (λ_=>1000) (by simp[Fl]) ?_;rintro⟨c,s⟩ ⟨F,hl,W⟩ a S;simp only at F hl W;simp[Fl]at S|-;obtain⟨ap,e⟩:=S;have b6:=(kV F.wb).2.2.2.2.2;simp[f7,ap,Rr,F];refine fD s.length J (λi a u=>∃d z B,wX (1000+i) c d/\z.length<=i/\Mz c d z [] B dD u/\m7 c (s.drop i) z d=m7 c s [] (kh c)/\dF a 1 (sl (ge s))/\dF a 2 (.ptr 0 0 0 0)/\dF a 5 (.ptr 1 0 0 0)/\dF a 6 (.ptr 2 0 0 0)/\dF a 7 B/\dF a 8 (Z i)) ?_ ?_ J ?_
 ·rintro i a u I aE ⟨d,z,B,M,aA,b,v,e,j,o,h,p,r⟩;simp[e,r,I];have D:tO c d:=⟨F,M.up J⟩;have a7:=W s[i] (aF I);refine fD c.em.dH.length J (λm a u=>∃y,Mz c d z (lN c d m) B y u/\dF a 1 (sl (ge s))/\dF a 2 (.ptr 0 0 0 0)/\dF a 5 (.ptr 1 0 0 0)/\dF a 6 (.ptr 2 0 0 0)/\dF a 7 B/\dF a 8 (Z i)/\dF a 9 y/\dF a 10 (Z m)) ?_ ?_ J ⟨_,b,by simp[e,j,o,h,p,r]⟩
  ·rintro m a u bi X ⟨y,b,e,j,o,h,p,r,x,w⟩;have⟨Q,C⟩:=b.b2;have H:=Eo c d m;have aN:=F2 D m;simp[j,h,w,bi,b.b0,C,yE,D];refine ej (λA=>?_) (λA=>?_)
   ·rw[aq (by simpa using A),bQ]at H;simp[e,j,o,h,p,r,x,w,X,H,b]
   have T:ji c d m=true:=by simpa using A
   rw[ar T]at H;have b7:=Fd D T;simp[j,h,w,b.b0,C,X0,D];refine fD (oc c d m).length J (λL a u=>∃y,Mz c d z (lN c d m++((oc c d m).take L).map λk=>(⟨m,k⟩:fX)) B y u/\dF a 1 (sl (ge s))/\dF a 2 (.ptr 0 0 0 0)/\dF a 5 (.ptr 1 0 0 0)/\dF a 6 (.ptr 2 0 0 0)/\dF a 7 B/\dF a 8 (Z i)/\dF a 9 y/\dF a 10 (Z m)/\dF a 11 (sl (ge (oc c d m)))/\dF a 12 (Z L)) ?_ ?_ J ⟨_,by simpa using b,by simp[e,j,o,h,p,r,x,w]⟩
   ·rintro L a u U aX ⟨y,b,e,j,o,h,p,r,x,w,N,O⟩;have⟨cb,an,G,R⟩:=b.gl.mn (cx:=cx) (f:=fX.t) (b.ok.V1 (ax _)) KQ rfl KP rfl dy (λ_=>rfl) (⟨m,(oc c d m)[L]⟩:fX) dz;simp[e,j,o,h,p,r,x,w,N,O,U,G,aX];have:=b.afE R;rw[cO]at this;rw[aQ U,List.map_append];exact this
   ·rintro a u ⟨y,b,e,j,o,h,p,r,x,w,N,O⟩;rw[aK,<-H]at b;simp[e,j,o,h,p,r,x,w,N,O,X,b]
  ·rintro a u ⟨y,b,e,j,o,h,p,r,x,w⟩;have aN:=F2 D c.em.dH.length;rw[aI I]at v;simp only[m7]at v;generalize av:lN c d c.em.dH.length=g at*
   have P:=λe=>b.gl.len (cx:=cx) e V5 _ rfl;simp at P;have⟨Q,C⟩:=b.b2;have E:=b.b1;unfold qJ at E;simp[j,x,w,P,b.b0];refine ej (λA=>?_) (λA=>?_)
   ·rw[ar (by simpa using A)]at v;simp[o,h,p,C,E,(b.fin _).1,(b.fin _).2,b.ok.hp];rw[<-v];exact⟨rfl,rfl⟩
   rw[aq (by simpa using A)]at v;have bT:0<g.length:=List.length_pos_iff.2 (by simpa using A);have⟨l,V,K⟩:∃l:Nat,(s[i]% (g.length:Int))=l/\l<g.length:=⟨(s[i]% (g.length:Int)).toNat,by have:=Int.emod_nonneg s[i] (show(g.length:Int)≠0 by omega);omega,by have:=Int.emod_nonneg s[i] (show(g.length:Int)≠0 by omega);have:=Int.emod_lt_of_pos s[i] (show(0:Int)<g.length by omega);omega⟩;have a8:binop .rem (Z s[i]) (Z (g.length:Int))=some (Z (l:Int)):=by
    rw[CZ J,Int.tmod_eq_emod_of_nonneg a7.1,V]
   rw[V,cj,show g.getD l default=g[l]by simp[List.getD,K]]at v;have a6:ji c d g[l].dP=true:=A0 (n:=c.em.dH.length) (by rw[av];exact aF K);have al:=M.step g[l] a6;have⟨q,bC,cL,bN,c4,ca,bn,bs,Y⟩:=b.gl.Bp (te:=Sy) rfl (i:=l) (by simpa using K);have r2:=b.aez (c':=(rZ c d g[l]).1) (Q+1);have⟨b9,bH,c1,bS,c6,cp,bu,bB,ae⟩:=r2.gl.Bp (te:=Sy) rfl (i:=l) (by simpa using K);have⟨b8,an,G,R⟩:=r2.gp.mn (cx:=cx) (f:=fX.t) (r2.ok.V1 (ax _)) KQ rfl KP rfl dy (λ_=>rfl) g[l] dz;simp at Y ae G;simp[e,j,o,h,p,r,x,P,I,a8,show decide ((l:Int)<0)=false by simp,b.b0,C,bn,bs,Y,Ud,D,bu,bB,ae,G,aE];exact⟨_,al,z++[g[l]],dz,r2.afD R,v⟩
 ·rintro a u ⟨d,z,B,M,aA,b,v,e,j,o,h,p,r⟩;rw[bO]at v;simp only[m7]at v;have⟨Q,C⟩:=b.b2;have E:=b.b1;unfold qJ at E;simp[e,o,h,p,r,C,E,(b.fin _).1,(b.fin _).2,b.ok.hp];rw[<-v];exact⟨rfl,rfl⟩
 ·exact⟨_,_,_,wX.start F,aw _,⟨⟨dy,dy,dy⟩,dy,by simp[qJ],⟨1,dy⟩,Gr.nil _ _,Gr.nil _ _,dy,dy⟩,rfl,by simp[e]⟩
def acr{d:fJ}(ht:d.p 7=some Fl)(a:dW)(b:List Int)(f:lO a)(hl:b.length<=40)(e:∀c∈b,0<=c/\c<=255):rl prog cx d 7 [a.t,sl (ge b)]=some (.tuple [sl ((m7 a b [] (kh a)).1.map fX.t),(m7 a b [] (kh a)).2.t]):=im ht WF (a,b) ⟨f,hl,e⟩
end
section
attribute [-simp] size_cons
def Fm:gG:=⟨List Int,λa=>[sl (a.map (T.int .u8))],λa=>a.length<=1000000/\∀c∈a,Uj c,λa=>sl (ge a),λd e b=>by simp at b;rw[jx (λ_ _ b=>by simpa using b) b]⟩
def WK:Fm.Ok prog cx 8:=by
 refine fZ [] (iX 285 [] func8) (λ_=>1000005) (by simp[Fm]) ?_;rintro(a:List Int) ⟨hl,p⟩ c n;simp[Fm]at n|-;simp[f8];refine fD a.length J (λb c g=>∃e,Gr g e 1 (ge (a.take b))/\il 0 g/\dF c 0 (sl (a.map (T.int .u8)))/\dF c 3 e/\dF c 4 (Z b)) ?_ ?_ J ⟨dD,Gr.nil _ _,by exact⟨dy,dy,dy⟩,by simp[n]⟩
 ·rintro b c g k q ⟨e,d,l,h,i,j⟩;have r:=p a[b] (aF k);unfold Uj at r;have⟨t,s,o,m⟩:=d.mn (cx:=cx) (f:=T.int .i64) l j9 rfl mY rfl dy (λ_=>rfl) a[b] dz;simp[h,i,j,k,o,q,show-9223372036854775808<=a[b]by omega,show a[b]<9223372036854775808 by omega];exact⟨by rw[aQ k];exact m.1,⟨m.2.2.2.hp,m.2.2.2.low,ax _⟩⟩
 ·rintro c g ⟨e,d,l,h,i,j⟩;rw[aK]at d;simp[h,i,j,l.hp];rw[Q2 e d.iy,d.rS dy]
def act{b:fJ}(ht:b.p 8=some Fm)(a:List Int)(hl:a.length<=1000000)(c:∀d∈a,Uj d):rl prog cx b 8 [sl (a.map (T.int .u8))]=some (sl (ge a)):=im ht WK a ⟨hl,c⟩
def MK{w:dW}:∀(a:List Int) (d:List fX) (c:eK) (b:Nat),wX b w c->wX (b+a.length) w (m7 w a d c).2:=by
 intro a;induction a with
 |nil=>intro d c b e;exact e
 |cons n a i=>
  intro d c b e;simp only[m7];split
  ·exact e.up J
  ·rename_i g;have l:0<(lN w c w.em.dH.length).length:=List.length_pos_iff.2 g;have j:=Int.emod_nonneg n (show((lN w c w.em.dH.length).length:Int)≠0 by omega);have k:=Int.emod_lt_of_pos n (show(0:Int)<(lN w c w.em.dH.length).length by omega);have f:(n% ((lN w c w.em.dH.length).length:Int)).toNat<(lN w c w.em.dH.length).length:=J;have h:=A0 (w:=w) (c:=c) (n:=w.em.dH.length) (ch:=(lN w c w.em.dH.length).getD (n% ((lN w c w.em.dH.length).length:Int)).toNat default) (by
    rw[cE,az f];exact aF f)
   have:=i (d++[(lN w c w.em.dH.length).getD (n% ((lN w c w.em.dH.length).length:Int)).toNat default]) _ _ (e.step _ h);exact this.up dz 
end
end
noncomputable section
open Go Go.TI
def T8(a:Int):Int:=if a=1 then 0 else if a=4 then 3 else a
structure PE(u:Int)(s r:fq):Prop where
 cl:T8 (jS s u).ij=T8 (jS r u).ij
 am:(jS s u).atomic=(jS r u).atomic
 ow:(s.ei.map λl=>decide (l.iB=u))=r.ei.map λl=>decide (l.iB=u)
 rd:(s.ei.map λl=>decide (u∈l.ew))=r.ei.map λl=>decide (u∈l.ew)
def PE.refl(b:Int)(a:fq):PE b a a:=⟨rfl,rfl,rfl,rfl⟩
def PE.trans{c:Int}{f e d:fq}(a:PE c f e)(b:PE c e d):PE c f d:=⟨a.cl.trans b.cl,a.am.trans b.am,a.ow.trans b.ow,a.rd.trans b.rd⟩
def PE.symm{d:Int}{c b:fq}(a:PE d c b):PE d b c:=⟨a.cl.symm,a.am.symm,a.ow.symm,a.rd.symm⟩
def zp{b g:Type}{c:List b}{f:Nat}{e:b->b}{a:b->g}(h:∀d,c[f]? =some d->a (e d)=a d):(c.modify f e).map a=c.map a:=by
 apply cB;intro i;simp only[aS,cY];grind
def rK{b c:Type}{f:List b}{e:Nat}{d:b->b}{a:b->c}{F:c->c}(h:∀g,a (d g)=F (a g)):(f.modify e d).map a=(f.map a).modify e F:=by
 apply cB;intro i;simp only[aS,cY];grind
def OG{c:fq}{b a:Int}{d:dJ->dJ}(ht:0<=b)(e:0<=a)(f:b≠a):jS (c.nT b d) a=jS c a:=by
 have:b.toNat≠a.toNat:=J;simp only[jS,rf,fq.nT,ar e,cY,aq this];cases c.dH[a.toNat]? <;>rfl
def vS{b:fq}{a:Int}{c:dJ->dJ}(f:iN a b.dH.length=true):jS (b.nT a c) a=c (jS b a):=by
 have⟨d,e⟩:=eZ.1 f;simp[jS,rf,fq.nT,d,e]
def Cj{a:fq}{b:Int}{c:dJ->dJ}(f:iN b a.dH.length=true):jS {a with dH:=a.dH.map c} b=c (jS a b):=by
 have⟨d,e⟩:=eZ.1 f;simp[jS,rf,d,e]
def PE.EO{e:fq}{a b:Int}{f:dJ->dJ}(ht:0<=a)(d:0<=b)(c:a≠b):PE b (e.nT a f) e:=⟨by rw[OG ht d c],by rw[OG ht d c],rfl,rfl⟩
def PE.Xi{c:fq}{e b:Int}{d:dR->dR}(f:∀a,c.ei[e.toNat]? =some a->decide ((d a).iB=b)=decide (a.iB=b))(g:∀a,c.ei[e.toNat]? =some a->decide (b∈(d a).ew)=decide (b∈a.ew)):PE b (c.pw e d) c:=
 ⟨rfl,rfl,zp f,zp g⟩
def Kt{b:fq}{a:Int}{c:dR}(d:iN a b.ei.length=true)(e:b.ei[a.toNat]? =some c):j1 b a=c:=by
 unfold j1 rf;rw[ar (eZ.1 d).1,e];rfl
def wH{a:List Int}{c b:Int}:b∈lK a c↔b∈a\/b=c:=by
 induction a with
 |nil=>simp[lK]
 |cons e a d=>unfold lK;grind
def HC{a wk:Int}{b:List dJ}(c:¬iw a b 0=[]):vq a wk b∈iw a b 0:=by
 unfold vq;split
 ·assumption
 ·cases d:iw a b 0 with
  |nil=>exact absurd d c
  |cons e f=>simp
def HD{g:Int}:∀{b:List dJ} {c:Nat} {d:Int},d∈iw g b c->∃a:Nat,d=(c+a:Nat)/\∃e,b[a]? =some e/\e.ij=3:=by
 intro b;induction b with
 |nil=>intro c d h;simp[iw]at h
 |cons e b l=>
  intro c d h;have i:d∈iw g b (c+1)->∃a:Nat,d=(c+a:Nat)/\∃f,(e::b)[a]? =some f/\f.ij=3:=λh=>by
   obtain⟨a,n,f,j,k⟩:=l h;exact⟨a+1,J,f,by simpa using j,k⟩
  unfold iw at h;split at h
  ·rename_i m;rcases List.mem_cons.1 h with h|h
   ·exact⟨0,J,e,dy,m.1⟩
   ·exact i h
  ·exact i h
def Ma{a:dY}{c:fq}{b:Int}(d:kZ a c=true)(g:iN b a.gF.length=true):iN ((rf a.gF b).getD default).kv c.ei.length=true/\pj a c b=j1 c ((rf a.gF b).getD default).kv:=by
 have⟨h,e,f⟩:=iD g;refine⟨?_,rfl⟩;rw[f,(kr d).1];exact pV d e
def PE.other{p:dY}{d:fq}{o f u j wk:Int}(m:iG p d o u j=true)(t:iN f p.dH.length=true)(i:o≠f):PE f (eY p d o u j wk).1 d:=by
 unfold iG at m;simp only[aB]at m;obtain⟨⟨⟨r,ht⟩,k⟩,b⟩:=m;have hl:=kr r;have e:=(eZ.1 t).1;have t0:=(eZ.1 ht).1;have h:iN f d.dH.length=true:=by rw[hl.2.2];exact t
 have lk:∀l:Int,∀a,iN l d.ei.length=true->d.ei[l.toNat]? =some a->j1 d l=a:=λl a q n=>Kt q n;rcases pO k with rfl|rfl|rfl|rfl|rfl|rfl|rfl|rfl|rfl|hk|hk|hk|hk
 ·exact PE.EO t0 e i
 ·exact PE.EO t0 e i
 ·exact PE.refl _ _
 ·exact PE.refl _ _
 ·exact PE.refl _ _
 ·exact⟨rfl,rfl,rfl,rfl⟩
 ·exact⟨rfl,rfl,rfl,rfl⟩
 ·exact PE.EO t0 e i
 ·exact PE.EO t0 e i
 ·have s:=jY k hk;rw[<-hl.1]at s;rcases hk with rfl|rfl|rfl|rfl|rfl|rfl
  all_goals
   simp only[vJ,eY]at b|-;simp at b|-;refine PE.Xi (λa c=>?_) λa c=>?_
   all_goals
    have b:=lk j a s c▸b
    first
     |rfl
     |(simp[wH];done)
     |(simp[wH];grind)
 ·have y:=my k hk;obtain⟨v,w⟩:=Ma r y;rcases hk with rfl|rfl|rfl|rfl
  ·simp only[vJ,eY]at b|-;simp at b|-;refine(PE.EO t0 e i).trans (PE.Xi (λa c=>?_) λa c=>rfl);rw[w,lk _ a v c]at b;simp;grind
  ·simp only[vJ,eY]at b|-;simp at b|-;refine(PE.EO t0 e i).trans (PE.Xi (λa c=>?_) λa c=>rfl);rw[w,lk _ a v c]at b;simp;grind
  ·simp only[eY];simp;split
   ·exact PE.refl _ _
   ·rename_i A;obtain⟨B,q,a,n,x⟩:=HD (HC (wk:=wk) A);by_cases g:vq j wk d.dH=f
    ·rw[g];have c:jS d f=a:=by
      simp only[jS,rf,ar e];rw[show f.toNat=B by omega,n];rfl
     exact⟨by rw[vS h];simp[ka,c,x,T8],by rw[vS h];rfl,rfl,rfl⟩
    ·exact PE.EO J e g
  ·simp only[eY];simp;refine⟨?_,?_,rfl,rfl⟩
   ·rw[Cj h];split
    ·rename_i g;simp[ka,g.1,T8]
    ·rfl
   ·rw[Cj h];split<;>rfl
 ·rcases hk with rfl|rfl
  ·simp only[vJ,eY]at b|-;simp at b|-;have z:=pN k (.inl rfl);by_cases g:j=f
   ·subst g;exact⟨by rw[vS h];simp[ka,b,T8],by rw[vS h];rfl,rfl,rfl⟩
   ·exact PE.EO (eZ.1 z).1 e g
  ·exact PE.refl _ _
 ·rcases hk with rfl|rfl
  ·exact⟨rfl,rfl,rfl,rfl⟩
  ·exact PE.refl _ _
def tF{e d:fq}{b i:Int}{f g:dR->dR}{A B:Bool->Bool}(c:PE b e d)(h:∀a,decide ((f a).iB=b)=A (decide (a.iB=b)))(j:∀a,decide ((g a).iB=b)=A (decide (a.iB=b)))(k:∀a,decide (b∈(f a).ew)=B (decide (b∈a.ew)))(l:∀a,decide (b∈(g a).ew)=B (decide (b∈a.ew))):PE b (e.pw i f) (d.pw i g):=by
 refine⟨c.cl,c.am,?_,?_⟩
 ·show(e.ei.modify _ f).map _=(d.ei.modify _ g).map _;rw[rK (F:=A) h,rK (F:=A) j,c.ow]
 ·show(e.ei.modify _ f).map _=(d.ei.modify _ g).map _;rw[rK (F:=B) k,rK (F:=B) l,c.rd]
def yN{e d:fq}{a:Int}{f:dJ->dJ}{F:Int->Int}{A:Bool->Bool}(i:iN a e.dH.length=true)(hr:iN a d.dH.length=true)(c:PE a e d)(g:∀b,T8 (f b).ij=F (T8 b.ij))(h:∀b,(f b).atomic=A b.atomic):PE a (e.nT a f) (d.nT a f):=
 ⟨by rw[vS i,vS hr,g,g,c.cl],by rw[vS i,vS hr,h,h,c.am],c.ow,c.rd⟩
def PE.FL{j:dY}{c:fq}{a d i wk:Int}(e:iG j c a d i=true)(m:d=18\/d=19\/d=20):PE a (eY j c a d i wk).1 c:=by
 unfold iG at e;simp only[aB]at e;obtain⟨⟨⟨l,ht⟩,n⟩,b⟩:=e;have g:=(eZ.1 ht).1;have h:iN a c.dH.length=true:=by rw[(kr l).2.2];exact ht
 have k:(jS c a).ij=2:=by
  unfold vJ at b;rw[aq J,aq J]at b;by_cases f:(jS c a).ij=2
  ·exact f
  ·rw[ar f]at b;simp at b
 rcases m with rfl|rfl|rfl
 ·simp only[eY];simp;split
  ·exact PE.refl _ _
  ·rename_i o;obtain⟨p,s,r,q,t⟩:=HD (HC (wk:=wk) o);refine PE.EO J g λf=>?_;rw[show jS c a=r by simp only[jS,rf,ar g];rw[show a.toNat=p by omega,q];rfl]at k;omega
 ·simp only[eY];simp;exact⟨by rw[Cj h,aq J],by rw[Cj h,aq J],rfl,rfl⟩
 ·simp only[vJ,eY]at b|-;simp at b|-;exact PE.EO (eZ.1 (pN n (.inl rfl))).1 g b.2.1
def PE.own{e:dY}{k j:fq}{b n d wk wk':Int}(l:iG e k b n d=true)(m:iG e j b n d=true)(a:PE b k j):PE b (eY e k b n d wk).1 (eY e j b n d wk').1:=by
 have p:=l;have q:=m;unfold iG at l m;simp only[aB]at l m;have⟨⟨⟨u,ht⟩,x⟩,y⟩:=id l;have⟨⟨⟨v,_⟩,_⟩,z⟩:=id m;have hl:=kr u;have w:=kr v;have C:=(eZ.1 ht).1;have h:iN b k.dH.length=true:=by rw[hl.2.2];exact ht
 have hr:iN b j.dH.length=true:=by rw[w.2.2];exact ht
 have t:∀o:Int,PE b (k.nT b (ka o)) (j.nT b (ka o)):=λo=>yN (F:=λ_=>T8 o) (A:=id) h hr a (λ_=>rfl) λ_=>rfl;rcases pO x with rfl|rfl|rfl|rfl|rfl|rfl|rfl|rfl|rfl|hk|hk|hk|hk
 ·exact t 2
 ·exact t 5
 ·exact a
 ·exact a
 ·exact a
 ·exact⟨a.cl,a.am,a.ow,a.rd⟩
 ·exact⟨a.cl,a.am,a.ow,a.rd⟩
 ·exact yN (F:=id) (A:=λ_=>true) h hr a (λ_=>rfl) λ_=>rfl
 ·exact yN (F:=id) (A:=λ_=>false) h hr a (λ_=>rfl) λ_=>rfl
 ·rcases hk with rfl|rfl|rfl|rfl|rfl|rfl
  ·exact tF (A:=λ_=>true) (B:=id) a dy dy dy dy
  ·exact tF (A:=λ_=>false) (B:=id) a dz dz dy dy
  ·exact tF (A:=id) (B:=λ_=>true) a dy dy (by simp[wH]) (by simp[wH])
  ·exact tF (A:=id) (B:=λ_=>false) a dy dy dy dy
  ·exact tF (A:=λ_=>true) (B:=id) a dy dy dy dy
  ·exact tF (A:=λ_=>false) (B:=id) a dz dz dy dy
 ·rcases hk with rfl|rfl|rfl|rfl
  ·have r:=tF (i:=((rf e.gF d).getD default).kv) (f:=λc=>{c with iB:=-1}) (g:=λc=>{c with iB:=-1}) (A:=λ_=>false) (B:=id) a dz dz dy dy;exact yN (f:=λs=>{s with ij:=3,cond:=d}) (F:=λ_=>3) (A:=id) (by simpa[fq.pw]using h) (by simpa[fq.pw]using hr) r (λ_=>rfl) λ_=>rfl
  ·have r:=tF (i:=((rf e.gF d).getD default).kv) (f:=λc=>{c with iB:=b}) (g:=λc=>{c with iB:=b}) (A:=λ_=>true) (B:=id) a dy dy dy dy;exact yN (f:=λs=>{s with ij:=2,cond:=0}) (F:=λ_=>2) (A:=id) (by simpa[fq.pw]using h) (by simpa[fq.pw]using hr) r (λ_=>rfl) λ_=>rfl
  ·exact(PE.FL p J).trans (a.trans (PE.FL q J).symm)
  ·exact(PE.FL p J).trans (a.trans (PE.FL q J).symm)
 ·rcases hk with rfl|rfl
  ·exact(PE.FL p J).trans (a.trans (PE.FL q J).symm)
  ·exact a
 ·rcases hk with rfl|rfl
  ·exact⟨a.cl,a.am,a.ow,a.rd⟩
  ·exact a
def Kj(g:Int)(f:List Int):∀(e:List ez) (b:Nat),
 (rn g f e b=-1/\∀a c,e[a]? =some c->c.dP=g->((b+a:Nat):Int)∈f)\/
 ∃a c,rn g f e b=(b+a:Nat)/\e[a]? =some c/\c.dP=g/\((b+a:Nat):Int)∉f/\∀d h,d<a->e[d]? =some h->h.dP=g->((b+d:Nat):Int)∈f:=by
 intro e;induction e with
 |nil=>intro b;exact .inl ⟨rfl,λa c i=>by simp at i⟩
 |cons q e u=>
  intro b;simp only[rn];split
  ·rename_i j;exact .inr ⟨0,q,dy,dy,j.1,by simpa using j.2,λd h i=>by omega⟩
  ·rename_i j;have p:q.dP=g->(b:Int)∈f:=λi=>by
    by_cases o:(b:Int)∈f
    ·exact o
    ·exact absurd ⟨i,o⟩ j
   rcases u (b+1)with⟨k,l⟩|⟨a,c,k,l,r,s,t⟩
   ·refine .inl ⟨k,λa c n ht=>?_⟩;cases a with
    |zero=>simp at n;subst n;simpa using p ht
    |succ a=>have:=l a c (by simpa using n) ht;rwa[show b+1+a=b+(a+1)by omega]at this
   ·refine .inr ⟨a+1,c,by rw[k];congr 1;omega,by simpa using l,r,by rwa[show b+1+a=b+(a+1)by omega]at s,λd h v m ht=>?_⟩;cases d with
    |zero=>simp at m;subst m;simpa using p ht
    |succ d=>have:=t d h J (by simpa using m) ht;rwa[show b+1+d=b+(d+1)by omega]at this
def pA(a:dW)(b:eK)(c:Int):Nat:=if fM a b c<0 then a.dL.length else(fM a b c).toNat
def HW(a:dW)(b:Nat):fq:=(qM a.em a.jF (a.dL.take b)).fj
def sd(a:dW)(b:eK)(c:Int):pA a b c<=a.dL.length/\(∀(e:Nat) d,e<pA a b c->a.dL[e]? =some d->d.dP=c->(e:Int)∈b.order)/\
 (0<=fM a b c->fM a b c=pA a b c/\∃d,a.dL[pA a b c]? =some d/\d.dP=c/\((pA a b c:Nat):Int)∉b.order)/\(fM a b c<0->pA a b c=a.dL.length):=by
 have j:=Kj c b.order a.dL 0;simp only[cA]at j;unfold pA;rcases j with⟨g,f⟩|⟨e,d,g,f,l,m,n⟩
 ·have h:fM a b c=-1:=g;rw[h];exact⟨dy,λe d _ i ht=>f e d i ht,J,dy⟩
 ·have h:fM a b c=(e:Int):=g;have i:=(List.getElem?_eq_some_iff.1 f).1;rw[h,aq J];simp only[cj];exact⟨J,λq k p o ht=>n q k p o ht,λ_=>⟨trivial,d,f,l,m⟩,J⟩
def Av{a:dW}(d:lO a){n:Nat}{e:ez}(b:a.dL[n]? =some e):iG a.em (HW a n) e.dP e.kind e.obj=true/\HW a (n+1)=(eY a.em (HW a n) e.dP e.kind e.obj (kW e)).1:=by
 have c:=d.ok.ok b;have g:=(List.getElem?_eq_some_iff.1 b).1;refine⟨(oJ c).2.2,?_⟩;unfold HW;rw[dq,b];show(vL (λf e=>(jO a.em f e).1) a.jF (a.dL.take n++[e])).fj=_;rw[EC];show((jO a.em (qM a.em a.jF (a.dL.take n)) e).1).fj=_;rw[rN _ _ c];rfl
def HV{d:dW}(k:lO d){f:Int}(j:iN f d.em.dH.length=true){a:Nat}:∀b:Nat,a+b<=d.dL.length->(∀e c,a<=e->e<a+b->d.dL[e]? =some c->c.dP≠f)->PE f (HW d (a+b)) (HW d a):=by
 intro b;induction b with
 |zero=>intro _ _;exact PE.refl _ _
 |succ b l=>
  intro o g;have⟨c,h⟩:∃c,d.dL[a+b]? =some c:=⟨_,az J⟩;have⟨m,n⟩:=Av k h;rw[show a+(b+1)=a+b+1 by omega,n];exact(PE.other m j (g _ c J J h)).trans (l J λe c i p=>g e c i J)
structure Jl(w:dW)(c:eK):Prop where
 rg:∀x∈c.order,iN x w.dL.length=true
 px:∀(i j:Nat) e e',w.dL[j]? =some e->(j:Int)∈c.order->i<j->w.dL[i]? =some e'->e'.dP=e.dP->(i:Int)∈c.order
 pe:∀u,iN u w.em.dH.length=true->PE u c.fj (HW w (pA w c u))
def Jl.start{w:dW}(g:lO w):Jl w (kh w):=by
 refine⟨by simp[kh],by simp[kh],λb f=>?_⟩;have⟨k,d,_,_⟩:=sd w (kh w) b;have:=HV g f (a:=0) (pA w (kh w) b) J λi c _ l e j=>by have:=d i c J e j;simp[kh]at this
 rw[cA]at this;exact this.symm
def Jl.go{a:dW}{b:eK}(G:lO a)(q:Jl a b){c:Int}{e:ez}(wk:Int)(M:0<=fM a b c)(l:a.dL[(fM a b c).toNat]? =some e)(s:iG a.em b.fj c e.kind e.obj=true):Jl a (wJ a b (fM a b c) e c wk):=by
 have⟨aE,K,T,aN⟩:=sd a b c;have⟨R,ae,z,v,S⟩:=T M;generalize Q:pA a b c=d at*
 rw[R]at l|-;simp only[cj]at l;rw[l]at z;simp only[au]at z;subst z;have x:(wJ a b d e c wk).order=b.order++[(d:Int)]:=rfl;have av:=(List.getElem?_eq_some_iff.1 l).1;have ht:iN c a.em.dH.length=true:=by unfold iG at s;simp only[aB]at s;exact s.1.1.2
 refine⟨λY hx=>?_,λH f L j u o E k C=>?_,λg F=>?_⟩
 ·rw[x]at hx;rcases List.mem_append.1 hx with hx|hx
  ·exact q.rg Y hx
  ·simp at hx;subst hx;rw[eZ];omega
 ·rw[x]at o|-;rw[List.mem_append]at*
  rcases o with o|o
  ·exact .inl (q.px H f L j u o E k C)
  ·simp at o;have:f=d:=J;subst this;rw[l]at u;simp only[au]at u;subst u;exact .inl (K H j E k (C.trans v))
 ·have⟨t1,t2,t3,t4⟩:=sd a (wJ a b d e c wk) g;have⟨aX,V,W,X⟩:=sd a b g;rw[x]at t2 t3;show PE g (eY a.em b.fj c e.kind e.obj wk).1 _;generalize pA a (wJ a b d e c wk) g=i at*
  by_cases A:c=g
  ·subst A;have⟨r1,r2⟩:=Av G l;rw[v]at r1 r2;have B:=PE.own (wk:=wk) (wk':=kW e) s r1 (Q▸q.pe c ht);rw[<-r2]at B;have aA:d+1<=i:=by
    rcases aR d i with h|h
    ·exact h
    ·exfalso;by_cases t:fM a (wJ a b d e c wk) c<0
     ·have:=t4 t;omega
     ·have⟨_,r,m,n,p⟩:=t3 J;have P:((i:Nat):Int)∉b.order/\i≠d:=by
       constructor
       ·intro y;exact p (List.mem_append.2 (.inl y))
       ·intro y;exact p (List.mem_append.2 (.inr (by simp[y])))
      exact P.1 (K i r J m n)
   have⟨w,O⟩:∃w,i=d+1+w:=⟨i-(d+1),J⟩;rw[O];refine B.trans (HV G ht w J λf j al an k D=>?_).symm;have:=t2 f j J k D;rcases List.mem_append.1 this with y|y
   ·exact S (q.px d f j e k y J l (by rw[D];exact v))
   ·simp at y;omega
  ·have U:i=pA a b g:=by
    have I:∀(f:Nat) (j:ez),a.dL[f]? =some j->j.dP=g->((f:Int)∈b.order++[(d:Int)]↔(f:Int)∈b.order):=λf j k N=>by
     constructor
     ·intro y;rcases List.mem_append.1 y with y|y
      ·exact y
      ·simp at y;have:f=d:=J;subst this;rw[l]at k;simp only[au]at k;subst k;exact absurd (v.symm.trans N) A
     ·intro y;exact List.mem_append.2 (.inl y)
    generalize ap:pA a b g=p2 at*
    rcases dg i p2 with h|h|h
    ·exfalso;by_cases t:fM a (wJ a b d e c wk) g<0
     ·have:=t4 t;omega
     ·have⟨_,r,m,n,p⟩:=t3 J;exact p ((I _ _ m n).2 (V i r h m n))
    ·exact h
    ·exfalso;by_cases t:fM a b g<0
     ·have:=X t;omega
     ·have⟨_,r,m,n,p⟩:=W J;exact p ((I _ _ m n).1 (t2 p2 r h m n))
   rw[U];exact(PE.other s F A).trans (q.pe g F)
def Un(e:dY)(c:fq)(d b a:Int):List Int:=
 if b=6\/b=8 then [(j1 c a).iB]else if b=10 then(j1 c a).iB::(j1 c a).ew
 else if b=17 then [(pj e c a).iB]else if b=21 then(if a≠d/\(jS c a).ij≠5 then [a]else [])else []
def Wo(b:eK)(a:ez):Bool:=decide ((jS b.fj a.dP).ij=2)||(decide ((jS b.fj a.dP).ij=4)&&decide (a.kind=17))
def oe(a:dW)(c:eK)(b d:Int):Bool:=Wo c (lq a.dL b)&&(iN d a.em.dH.length&&decide (d∈Un a.em c.fj (lq a.dL b).dP (lq a.dL b).kind (lq a.dL b).obj))
def PE.lk{b a:Int}{d c:fq}(f:PE b d c)(k:iN a d.ei.length=true):(decide ((j1 d a).iB=b)=decide ((j1 c a).iB=b))/\decide (b∈(j1 d a).ew)=decide (b∈(j1 c a).ew):=by
 have⟨l,i⟩:=eZ.1 k;have l1:=bE List.length f.ow;simp only[aH]at l1;have g:=bE (λe=>e[a.toNat]?) f.ow;have h:=bE (λe=>e[a.toNat]?) f.rd;have j:a.toNat<c.ei.length:=J;simp only[aS,az i,az j,cT,au]at g h;simp only[j1,rf,ar l,az i,az j,Option.getD_some];exact⟨g,h⟩
def xp{a:dW}{c:eK}(k:lO a){b:Int}(j:0<=fM a c b):∃d,a.dL[(fM a c b).toNat]? =some d/\d.dP=b/\lq a.dL (fM a c b)=d/\a.gx.e (fM a c b)=d/\fM a c b=pA a c b/\a.gx.s (fM a c b)=HW a (pA a c b)/\iN (fM a c b) a.dL.length=true/\jE a.em d.kind d.obj=true:=by
 have⟨_,_,n,_⟩:=sd a c b;have⟨o,d,i,p,_⟩:=n j;have h:iN (fM a c b) a.dL.length=true:=oK J;have⟨q,g,_,l,_,m⟩:=k.at h;have f:(fM a c b).toNat=pA a c b:=J;rw[f,i]at g;simp only[au]at g;subst g;refine⟨d,by rw[f];exact i,p,qh j (by rw[f];exact i),l,o,?_,h,m⟩;rw[(k.ok.s h).1,f];rfl
def BA{b:dW}{d:eK}(k:tO b d)(s:Jl b d){j e:Int}(C:iN e b.em.dH.length=true)(G:j≠e)(B:0<=fM b d j)(D:0<=fM b d e)(i:oe b d (fM b d j) e=true):
 b.gx.E9 (fM b d e) (fM b d j)=true:=by
 have⟨f,H,n,t,u,I,K,v,h⟩:=xp k.hw B;have⟨L,M,x,N,y,O,z,P,Q⟩:=xp k.hw D;unfold oe at i;rw[t,n]at i;simp only[aB,aO]at i;have a:=i.2.2;unfold GX.E9;rw[u,y,z,n,x,aq G];have g:=s.pe e C;have o:=k.hc.ft (pP v);have hl:=kr o;unfold Un at a;by_cases E:f.kind=6
 ·have c:=jY h J;rw[<-hl.1]at c;rw[ar (.inl E)]at a|-;simp at a;rw[<-(g.lk c).1,aV a.symm];rfl
 by_cases m:f.kind=8
 ·have c:=jY h J;rw[<-hl.1]at c;rw[ar (.inr m)]at a;rw[aq J,ar m];simp only[List.mem_singleton]at a;rw[<-(g.lk c).1,aV a.symm]
 rw[aq J]at a;by_cases l:f.kind=10
 ·have c:=jY h J;rw[<-hl.1]at c;rw[ar l]at a;rw[ar (.inr l),<-(g.lk c).1,<-(g.lk c).2];rcases List.mem_cons.1 a with q|q
  ·rw[aV q.symm];rfl
  ·rw[aV q,Bool.or_true]
 rw[aq l]at a;rw[aq J,aq m];by_cases p:f.kind=17
 ·have A:=my h J;have⟨F,_⟩:=Ma o A;rw[ar p]at a|-;simp only[List.mem_singleton]at a;show decide ((j1 _ _).iB=e)=true;rw[show b.gx.w=b.em from rfl,<-(g.lk F).1];exact aV a.symm
 rw[aq p]at a|-;by_cases r:f.kind=21
 ·rw[ar r]at a|-;split at a
  ·simp only[List.mem_singleton]at a;exact aV a.symm
  ·simp at a
 ·rw[aq r]at a;simp at a
def C1{b:dW}{a:eK}(k:tO b a)(m:Jl b a){c r:Int}(ht:iN c b.em.dH.length=true)(p:0<=fM b a c)(f:oe b a (fM b a c) r=true):AX b a (fM b a c)=true:=by
 have⟨e,o,h,j,s,t,u,v,w⟩:=xp k.hw p;unfold AX;rw[j,h,aV rfl,aZ];by_cases l:e.kind=17
 ·have g:=(m.pe c ht).cl;have d:=(Av k.hw (n:=pA b a c) (e:=e) (by rw[show pA b a c=(fM b a c).toNat by omega];exact o)).1;rw[h]at d;unfold iG at d;simp only[aB]at d;have i:=d.2;rw[l]at i;simp[vJ]at i;unfold oe Wo at f;rw[j,h]at f;simp only[aB,bY,aO]at f;rw[i.1.1]at g;simp[T8]at g;have:(jS a.fj c).ij=4:=by
   rcases f.1 with q|q
   ·rw[q]at g;simp at g
   ·exact q.1
  rw[aV this,Bool.or_true]
 ·rw[aM l];rfl
end
noncomputable section
open Go Go.TI Tryz
attribute [-simp] List.map_take List.map_drop List.map_append fy fa eg Bool.not_or Bool.not_and
attribute [simp] fw fc
section
attribute [-simp] size_cons
def blP(a:dY×fq×Int×Int×Int):Prop:=kZ a.1 a.2.1=true/\iN a.2.2.1 a.1.dH.length=true/\jE a.1 a.2.2.2.1 a.2.2.2.2=true/\a.1.gF.length<=1000000/\∀b∈a.2.1.ei,b.ew.length<=1000000
def Um{a:dY×fq×Int×Int×Int}(b:blP a):(Un a.1 a.2.1 a.2.2.1 a.2.2.2.1 a.2.2.2.2).length<=1000001:=by
 obtain⟨c,ht,e,g,hr⟩:=b;unfold Un;split
 ·simp
 split
 ·rename_i h;have d:=jY e J;obtain⟨f,a1,a2,a3⟩:=tz c d;have:=hr f (ay a2);rw[a3];simp;omega
 split
 ·simp
 split
 ·split<;>simp
 ·simp
def Ym{cx:Ctx}{a:H}{e:T}{c:Nat}{i:List T}(j:Gr a e c i)(k:il 0 a){r s h:ab}{t v d:Ty}(l:cx.ty r=some t)(m:t.u= .slice h)(n:cx.ty h=some d)(o:cx.ty s=some v)(p:v.u= .slice h)(B:d.size=c)(y:1<=d.bytes)
 {x:T} {xs:List T} (q:a.jw x=some xs) (C:∀g∈xs,g.cells.length=c) (A:(i.length+xs.length)*d.bytes<=70368744177664):
 ∃f b,iU cx a r s e x=some (.val f b)/\Xt a e c (i++xs) f b:=by
 cases xs with
 |nil=>
  refine⟨e,a,?_,by rw[bQ];exact j,λ_ _ _=>rfl,λE z=> .inl z,k.hp,k.low,aw _⟩;unfold iU pX nc;rw[l,ed,o,ed];simp only[m,n,p,q,ed];rw[nq dy,iH];rcases j with⟨rfl,_⟩|⟨D,F,I,G,xs,rfl,_⟩<;>rfl
 |cons K L=>
  have⟨f,b,g,w⟩:=Gr.app (cx:=cx) j k l m n o p B y q C dy A;exact⟨f,b,g,w.xt⟩
def Dv:nS prog cx 32 (λk:dY×fq×Int×Int×Int=>[k.1.t,k.2.1.t,Z k.2.2.1,Z k.2.2.2.1,Z k.2.2.2.2]) blP (λk r=>∃d:List Int,r=sl (ge d)/\d.length<=2000000/\∀x,x∈d↔iN x k.1.dH.length=true/\x∈Un k.1 k.2.1 k.2.2.1 k.2.2.2.1 k.2.2.2.2):=by
 refine jh [(67,rG),(68,r8),(69,yh),(70,ET)] (iX 10151263083535647797312619560063 [] func32) (λk=>1000005) (λk b h=>by simp at h;exact aC (dY.inj h.1) (aC (fq.inj h.2.1) (aC h.2.2.1 (aC h.2.2.2.1 h.2.2.2.2)))) ?_;rintro⟨v,s,t,j,o⟩ a7 m a6;have b8:=Um a7;obtain⟨B,ht,E,b9,hr⟩:=a7;simp only at B ht E b9 hr b8;simp at a6;obtain⟨bT,ae,aX,b6,A⟩:=a6;have a:=Un.eq_1 v s t j o;generalize Un v s t j o=f at*
 simp[f32,bT,ae,aX,b6,A,tK,By,KX,B,ht,E,show v.gF.length<=1099511627776 by omega];have cL:∀e:dR,True:=λ_=>trivial;refine Js (λm h=>∃X,Gr h X 1 (ge f)/\il 2 h/\h.get 0=some (dE 6 0 [v.t])/\dF m 5 (.ptr 0 0 0 0)/\dF m 11 X) ?_ ?_
 ·have V:∀(h:H) (x:Int),Hp h->Gr (h.cons (dE 1 0 [Z x])) (.arr h.size 0 0 1 false) 1 (ge [x]):=λh x _=>Gr.new (ep:=0) (ver:=0) (ex:=true) (es:=ge [x]) dy;by_cases ap:j=6\/j=8
  ·rw[ar ap]at a;have⟨z,a1,a2,a3⟩:=tz B (jY E J);rw[a3]at a;rcases ap with rfl|rfl
   all_goals
    simp[A,a1,a2];exact⟨by rw[a];exact V _ _ rfl,⟨rfl,dy,dy⟩⟩
  rw[aq ap]at a;have M:decide (j=6)=false:=dz;have N:decide (j=8)=false:=dz;by_cases R:j=10
  ·rw[ar R]at a;have⟨z,a1,a2,a3⟩:=tz B (jY E J);rw[a3]at a;have cp:=hr z (ay a2);have F:decide (j=10)=true:=by simpa using R
   have bS:=V ((hE.cons (dE 6 0 [v.t])).cons (dE 4 0 [s.t])) z.iB rfl;have⟨c4,O,aN,ca,cb,c7,aE⟩:=Ym (cx:=cx) bS ⟨rfl,dy,dy⟩ (x:=sl (ge z.ew)) (xs:=ge z.ew) j9 rfl mY j9 rfl rfl dy dy (by simp[T.cells]) dz;simp at aN;simp[M,N,F,A,a1,a2,aN];exact⟨_,by rw[a];simpa using ca,⟨aE.hp,aE.low,by have:=aE.sz;simp[size_cons]at this;omega⟩,(cb 0 (by simp[size_cons]) dy).trans dy,rfl⟩
  rw[aq R]at a;have F:decide (j=10)=false:=by simpa using R
  by_cases S:j=17
  ·rw[ar S]at a;have⟨c,z,bu,bB,bC,bH,bN⟩:=Cx B (my E J);rw[bN]at a;have L:decide (j=17)=true:=by simpa using S
   simp[M,N,F,L,A,bu,bB,bC,bH];exact⟨by rw[a];exact V _ _ rfl,⟨rfl,dy,dy⟩⟩
  rw[aq S]at a;have L:decide (j=17)=false:=by simpa using S
  by_cases U:j=21
  ·rw[ar U]at a;have⟨z,a1,a2,a3⟩:=vU B (pN E J);rw[a3]at a;have Y:decide (j=21)=true:=by simpa using U
   simp[M,N,F,L,Y,aX,A,a1,a2];refine ej (λu=>?_) (λu=>?_)
   ·rw[ar (by simpa using u)]at a;simp[A];exact⟨by rw[a];exact V _ _ rfl,⟨rfl,dy,dy⟩⟩
   ·rw[aq (by simpa using u)]at a;simp;rw[a];exact Gr.nil _ _
  ·rw[aq U]at a;have Y:decide (j=21)=false:=by simpa using U
   simp[M,N,F,L,Y];rw[a];exact Gr.nil _ _
 rintro m h ⟨X,g,bi,bs,y,n⟩;have P:=λae=>g.len (cx:=cx) ae qm _ rfl;simp at P;simp;refine fD f.length J (λi m O=>O=h/\∃d:List Int,d.length<=i/\(∀x,x∈d↔iN x v.dH.length=true/\x∈f.take i)/\dF m 5 (.ptr 0 0 0 0)/\dF m 11 X/\(dF m 12 (sl (ge d))\/d=[]/\dF m 12 dD)/\dF m 13 (Z i)) ?_ ?_ J ⟨rfl,[],dy,dy,by simp[y,n]⟩
 ·rintro i m O an al ⟨rfl,d,b7,D,y,n,l,w⟩;have⟨q,ep,c6,ex,xs,c1,av,aA,W⟩:=g.Bp (te:=EM) rfl (i:=i) (by simpa using an);simp at W;have bn:f.take (i+1)=f.take i++[f[i]]:=aQ an;simp[y,n,w,P,an,av,aA,W,bs,By];refine ej (λu=>?_) (λu=>?_)
  ·have a8:=ze d f[i];have C:(rH d f[i]).length<=i+1/\∀x,x∈rH d f[i]↔iN x v.dH.length=true/\x∈f.take (i+1):=by
    refine⟨by rw[a8];have:=DJ d f[i];omega,λx=>?_⟩;rw[a8,wH,D,bn,List.mem_append];simp;constructor
    ·rintro(⟨G,I⟩|rfl)
     ·exact⟨G,.inl I⟩
     ·exact⟨u,.inr rfl⟩
    ·rintro⟨G,I|I⟩
     ·exact .inl ⟨G,I⟩
     ·exact .inr I
   have Q:∀{K:fJ},K.p 70=some ET->rl prog cx K 70 [sl (ge d),Z f[i]]=some (sl (ge (rH d f[i]))):=λht=>X3 ht d f[i] J;rcases l with l|⟨rfl,l⟩
   ·simp[y,n,l,w,av,aA,W,Q,al];exact⟨_,C.1,C.2,.inl rfl⟩
   ·have Q:∀{K:fJ},K.p 70=some ET->rl prog cx K 70 [.gX,Z f[i]]=some (sl (ge (rH [] f[i]))):=Q;simp[y,n,l,w,av,aA,W,Q,al];exact⟨_,C.1,C.2,.inl rfl⟩
  ·have C:∀x,x∈d↔iN x v.dH.length=true/\x∈f.take (i+1):=λx=>by
    rw[D,bn,List.mem_append];simp;rintro G rfl;rw[G]at u;simp at u
   simp[y,n,w,al];exact⟨d,J,C,l⟩
 ·rintro m O ⟨rfl,d,b7,D,y,n,l,w⟩;rw[aK]at D;rcases l with l|⟨rfl,l⟩
  ·simp[n,l,w,P,bi.hp];exact⟨_,rfl,J,D⟩
  ·simp[n,l,w,P,bi.hp];exact⟨[],rfl,dy,D⟩
def uM:gG:=⟨dW×eK×Int×Int,λa=>[a.1.t,a.2.1.t,Z a.2.2.1,Z a.2.2.2],λa=>tO a.1 a.2.1/\iN a.2.2.1 a.1.dL.length=true,λa=> .bool (oe a.1 a.2.1 a.2.2.1 a.2.2.2),λa c b=>by simp at b;rw[show a=c from aC (dW.inj b.1) (aC (eK.inj b.2.1) (aC b.2.2.1 b.2.2.2))]⟩
def PS:uM.Ok prog cx 13:=by
 refine fZ [(32,Dv.jv),(31,C6)] (iX 3903 [] func13) (λx=>5) (by simp[uM]) ?_;rintro⟨c,e,w,b⟩ ⟨d,f⟩ A l;simp only at d f;simp[uM]at l|-;obtain⟨r,s,t,u⟩:=l;have⟨a,h,p,y,i,q⟩:=d.hw.at f;have m:=d.hc.ft (pP f);have⟨o,t1,t2,t3⟩:=vU m i;have k:oe c e w b=((decide (o.ij=2)||(decide (o.ij=4)&&decide (a.kind=17)))&&(iN b c.em.dH.length&&decide (b∈Un c.em e.fj a.dP a.kind a.obj))):=by
  unfold oe Wo;rw[qh (eZ.1 f).1 h,t3]
 obtain⟨_,⟨g,rfl,z,n⟩,j⟩:=Dv.use (c.em,e.fj,a.dP,a.kind,a.obj) ⟨m,i,q,by have:=kV d.hw.wb;simp only;omega,d.hc.rd⟩;simp only at n j;have v:decide (b∈g)=(iN b c.em.dH.length&&decide (b∈Un c.em e.fj a.dP a.kind a.obj)):=by
  rw[bm];simp[n]
 rw[<-v]at k;simp[f13,r,s,t,u,h,p,t1,t2,j,RC,show g.length<=1099511627776 by omega,k]
def Mn{e:fJ}(ht:e.p 13=some uM)(a:dW)(b:eK)(c d:Int)(f:tO a b)(g:iN c a.dL.length=true):rl prog cx e 13 [a.t,b.t,Z c,Z d]=some (.bool (oe a b c d)):=im ht PS (a,b,c,d) ⟨f,g⟩
end
end
noncomputable section
open Go Go.TI
def Jl.step{b:dW}{c:eK}(g:lO b)(h:Jl b c){d:fX}(a:ji b c d.dP=true):Jl b (rZ b c d).1:=by
 unfold rZ;rw[ar a];unfold ji at a;split at a
 ·simp at a
 ·rename_i k;have f:0<=fM b c d.dP:=J;obtain⟨j,i,_,e,_⟩:=xp g f;rw[aB,e]at a;rw[e];exact h.go g _ f i a.1
def Jl.walk{a:dW}(g:lO a):∀(d:List Int) (e:List fX) (b:eK),Jl a b->Jl a (m7 a d e b).2:=by
 intro d;induction d with
 |nil=>intro e b c;exact c
 |cons n d h=>
  intro e b c;simp only[m7];split
  ·exact c
  ·rename_i f;have k:0<(lN a b a.em.dH.length).length:=List.length_pos_iff.2 f;have i:=Int.emod_nonneg n (show((lN a b a.em.dH.length).length:Int)≠0 by omega);have j:=Int.emod_lt_of_pos n (show(0:Int)<(lN a b a.em.dH.length).length by omega);exact h _ _ (c.step g (A0 (n:=a.em.dH.length) (by
    rw[cE,az (show(n% ((lN a b a.em.dH.length).length:Int)).toNat<_ by omega)];exact aF _)))
def Ew{a:dW}{b:eK}(e:tO a b)(f:Jl a b){c d:Int}(ht:iN c a.em.dH.length=true)(n:iN d a.em.dH.length=true)(i:c≠d)(g:0<=fM a b c)(h:0<=fM a b d)
 (o:oe a b (fM a b c) d=true) (p:oe a b (fM a b d) c=true) (B:fM a b c<=fM a b d):a.gx.vR ⟨2,0,0,0,0,[fM a b c,fM a b d]⟩=true/\oX a b ⟨2,0,0,0,0,[fM a b c,fM a b d]⟩=true:=by
 have q:=BA e f n i g h o;have r:=BA e f ht (aY i) h g p;have r1:=C1 e f ht g o;have r2:=C1 e f n h p;have⟨x,y,j,s,t,_,_,k,_⟩:=xp e.hw g;have⟨z,A,l,u,v,_,_,m,_⟩:=xp e.hw h;have w:a.gx.ev=a.dL:=rfl;refine⟨?_,?_⟩
 ·simp[GX.vR,GX.dead,GX.Or,List.range_succ,w,k,m,q,r,t,v,j,l,aY i];omega
 ·simp[oX,L3,sh,r1,r2,k,m,s,u,j,l]
def Jf{a:dW}{b:eK}(i:tO a b)(h:Jl a b){c d:Int}(ht:iN c a.em.dH.length=true)(k:iN d a.em.dH.length=true)(m:c≠d)(j:0<=fM a b c)(l:0<=fM a b d)
 (n:oe a b (fM a b c) d=true) (o:oe a b (fM a b d) c=true):∀e f:Int,(fM a b c<=fM a b d/\e=fM a b c/\f=fM a b d\/fM a b d<=fM a b c/\e=fM a b d/\f=fM a b c)->a.gx.vR ⟨2,0,0,0,0,[e,f]⟩=true/\oX a b ⟨2,0,0,0,0,[e,f]⟩=true:=by
 rintro e f (⟨g,rfl,rfl⟩|⟨g,rfl,rfl⟩)
 ·exact Ew i h ht k m j l n o g
 ·exact Ew i h k ht (aY m) l j o n g
end
noncomputable section
open Go Go.TI Tryz
attribute [-simp] List.map_take List.map_drop List.map_append fy fa eg Bool.not_or Bool.not_and
attribute [simp] fw fc
section
attribute [-simp] size_cons
def O9:gG:=⟨mZ×List Int,λa=>[a.1.t,sl (a.2.map (T.int .u8))],λa=>R4 a.1/\∀b∈a.2,Uj b,λ_=> .bool true,λ_ _ _=>rfl⟩
def WN:O9.Ok prog cx 4:=by
 refine fZ [(5,PL.jv),(8,Fm),(7,Fl),(12,oh),(13,uM),(14,uL),(9,xf),(10,JS)] (iX 309485600117155569164435383 [(4,[(0,2),(2,7),(3,7)]),(12,[(3,4),(3,5)])] func4) (λa=>1000005) (by simp[O9]) ?_;rintro⟨v,m⟩ ⟨Q,F⟩ g N;simp only at Q F;simp[O9]at N|-;obtain⟨U,M⟩:=N;obtain⟨_,⟨c,rfl,x⟩,S⟩:=PL.use v Q;simp[f4,U,M];refine ej (λO=>?_) (λO=>?_)
 ·simp
 have hl:m.length<=40:=by simp at O;omega
 have ae:m.length<=1000000:=J;have Y:∀D∈m,0<=D/\D<=255:=λD al=>by have:=F D al;unfold Uj at this;omega
 have z:tO c (m7 c m [] (kh c)).2:=⟨x,(MK m [] _ _ (wX.start x)).up J⟩;have R:Jl c (m7 c m [] (kh c)).2:=(Jl.start x).walk x m [] _;have aA:=λ{f:fJ} (ht:f.p 7=some Fl)=>acr ht c m x hl Y;generalize(m7 c m [] (kh c)).1=P at*
 generalize(m7 c m [] (kh c)).2=k at*
 have W:=λ{f:fJ} (ht:f.p 8=some Fm)=>act ht m ae F;have I:=λ{f:fJ} (ht:f.p 12=some oh) (u:Int)=>CA ht c k u z.ev z.od;have bu:c.em.dH.length<=4:=by have:=kV x.wb;omega
 simp[M,S,W,aA];refine fD c.em.dH.length J (λh g d=>il 3 d/\d.get 1=some (dE 15 1 [c.t])/\d.get 2=some (dE 9 1 [k.t])/\dF g 5 (.ptr 1 0 0 0)/\dF g 7 (.ptr 2 0 0 0)/\dF g 8 (Z c.em.dH.length)/\dF g 9 (Z h)) ?_ ?_ J ⟨⟨dy,dy,dy⟩,dy,dy,dy⟩
 ·rintro u g d bn a8 ⟨e,o,q,r,s,l,i⟩;simp[l,i,bn];refine fD u J (λA g d=>il 3 d/\d.get 1=some (dE 15 1 [c.t])/\d.get 2=some (dE 9 1 [k.t])/\dF g 5 (.ptr 1 0 0 0)/\dF g 7 (.ptr 2 0 0 0)/\dF g 8 (Z c.em.dH.length)/\dF g 9 (Z u)/\dF g 10 (Z A)) ?_ ?_ J ⟨e,o,q,by simp[r,s,l,i]⟩
  ·rintro A g d K E ⟨e,o,q,r,s,l,i,w⟩;have a6:=e.ne (b:=1) J;have a7:=e.ne (b:=2) J;have ht:iN u c.em.dH.length=true:=by rw[eZ];omega
   have av:iN A c.em.dH.length=true:=by rw[eZ];omega
   have two:=Jf z R ht av J;have bi:=λn:¬fM c k u<0=>oK n;have bs:=λn:¬fM c k A<0=>oK n;generalize G:fM c k u=h at*
   generalize H:fM c k A=j at*
   cases y:decide (h<0);rotate_left
   ·simp[o,q,r,s,l,i,w,K,I,G,H,y,E,e]
   cases B:decide (j<0);rotate_left
   ·simp[o,q,r,s,l,i,w,K,I,G,H,y,B,E,e]
   have an:=λ{f:fJ} (n:f.p 13=some uM)=>Mn n c k h A z (bi (by simpa using y));have ap:=λ{f:fJ} (n:f.p 13=some uM)=>Mn n c k j u z (bs (by simpa using B));simp at y B;have two:=two y B;simp[o,q,r,s,i,w,K,I,G,H,y,B,an,ap];refine ej (λC=>?_) (λC=>?_)
   ·simp[r,s,l,i,w,E,e,o,q]
   simp at C;have⟨L,T⟩:=two C.1.2 C.2 (min h j) (max h j) J;have X:∀{f:fJ},f.p 14=some uL->rl prog cx f 14 [c.t,.agg [Z 2,Z 0,Z 0,Z 0,Z 0,sl [Z (min h j),Z (max h j)]]]=some (.bool true):=λn=>by
    have:=Mj n c ⟨2,0,0,0,0,[min h j,max h j]⟩ x dy;rwa[L]at this
   have V:∀{f:fJ},f.p 9=some xf->rl prog cx f 9 [c.t,k.t,.agg [Z 2,Z 0,Z 0,Z 0,Z 0,sl [Z (min h j),Z (max h j)]]]=some (.bool true):=λn=>by
    have:=Uh n c k ⟨2,0,0,0,0,[min h j,max h j]⟩ z dy;rwa[L,T]at this
   have aX:d.low<=d.size+1:=by have:=e.low;omega
   have aE:(d.size=0)=False:=by have:=e.sz;simp;omega
   have aN:(d.size=1)=False:=by have:=e.sz;simp;omega
   simp[o,q,r,s,l,i,w,a6,a7,aE,aN,aX,ig,X,V,E];exact(e.cons _).cons _
  ·rintro g d ⟨e,o,q,r,s,l,i,w⟩;simp[o,q,r,s,l,i,w,e,a8]
 ·rintro g d ⟨e,o,q,r,s,l,i⟩;simp[l,i,e.hp,X8]
