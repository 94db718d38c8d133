/- W20m -/
import Derived.Test.YtajpdafdickapaaGreatDoorA30
set_option linter.all false
set_option maxRecDepth 100000
set_option maxHeartbeats 8000000
namespace Go.Proofs.YtajpdafdickapaaGreatDoor
noncomputable section
open Go Go.TI Tryz
attribute [-simp] List.map_take List.map_drop List.map_append fw eY eg Bool.not_or Bool.not_and
attribute [simp] fq eZ
def Ks:fP:=⟨Unit,λ_=>[],λ_=>True,λ_=> .bool true,λ_ _ _=>rfl⟩
def Ul:Ks.Ok prog cx 10:=λ_ _=>PS
def SD{a:fy}(ht:a.p 10=some Ks):rl prog cx a 10 []=some (.bool true):=gu ht Ul () trivial
def zg:fP:=⟨dR×im,λa=>[a.1.t,a.2.t],λa=>kl a.1/\a.2.iS.length<=1000000,λa=> .bool (a.1.gx.vR a.2),λa c b=>by simp at b;rw[dR.inj b.1,im.inj b.2]⟩
def OO{b:fy}(ht:b.p 33=some wD)(a:dR)(c:kl a):rl prog cx b 33 [a.t]=some (.tuple [fU.t ⟨a,a.gx.st⟩,.bool true]):=gu ht Oe a c
def Qt:zg.Ok prog cx 14:=by
 refine fM [(33,wD),(34,zh)] (iQ 127 [] func14) (λ_=>100) (by simp[zg]) ?_;rintro⟨c,d⟩ ⟨a,hl⟩ g b;simp only at a hl;simp[zg]at b|-;obtain⟨e,f⟩:=b;simp[f14,e,f,OO,a,U7,(⟨a,rfl⟩:Bn ⟨c,c.gx.st⟩),hl];exact GX.ae6 _ d
def u0:fP:=⟨fH,λa=>[a.t],λa=>a.ei.length<=1000000/\a.done.length<=1000000/\a.dH.length<=1000000/\∀c∈a.ei,c.eJ.length<=1000000,λa=>a.t,λd e b=>by simp at b;rw[fH.inj b]⟩
def Uk:u0.Ok prog cx 46:=by
 rintro(a:fH) d;have⟨q,h,l,k⟩:=Do [a.t] ⟨0,0,[]⟩ ⟨a,rfl,⟨rfl,au _,au _⟩,d⟩;obtain⟨e,f,g,p,rfl,b,n⟩:=l a ⟨rfl,⟨rfl,au _,au _⟩,d⟩;have m:TI.qP h (Nr a e f g)=some a.t:=by
  unfold Nr;rw[Mt];simp[b.fz.1,b.fz.2.1,b.fz.2.2]
 have⟨r,i,c⟩:=dI.1 m;simp only[ar]at c;have:=Jz k n.ok.hp (aw _) (λo s j=>by simp at j) i;rw[c]at this;exact It (ls _ (by simp[u0])) dy this
def SB{b:fy}(ht:b.p 46=some u0)(a:fH)(c:a.ei.length<=1000000/\a.done.length<=1000000/\a.dH.length<=1000000/\∀d∈a.ei,d.eJ.length<=1000000):rl prog cx b 46 [a.t]=some a.t:=gu ht Uk a c
section
attribute [-simp] size_cons
def vz{d:fy}(ht:d.p 22=some oI)(b:dR)(a:eK)(c:Int)(e:t8 b a):rl prog cx d 22 [b.t,a.t,Z c]=some (.bool (ju b a c)):=gu ht IK (b,a,c) e
def CW:fP:=⟨dR×eK×Int,λa=>[a.1.t,a.2.1.t,Z a.2.2],λa=>t8 a.1 a.2.1,λa=>sl ((ow a.1 a.2.1 a.2.2).map (T.int .i64)),λa c b=>by simp at b;rw[show a=c from aC (dR.inj b.1) (aC (eK.inj b.2.1) b.2.2)]⟩
def T5:CW.Ok prog cx 23:=by
 refine fM [(12,m9),(49,r8)] (iQ 34368127455 [] func23) (λy=>5) (by simp[CW]) ?_;rintro⟨b,a,d⟩ (k:t8 b a) C s;simp[CW]at s|-;obtain⟨g,h,i⟩:=s;have hE:=ow.eq_1 b a d;generalize ow b a d=x at*
 have j:=λ{r:fy} (ht:r.p 12=some m9)=>At ht b a d k.ev k.od;by_cases v:jl b a d<0
 ·rw[ao J]at hE;simp[f23,g,h,i,j,show¬0<=jl b a d by omega,hE]
  try rfl
 ·have q:=uB v;have⟨e,f,o,z,A,B⟩:=k.hw.at q;rw[qn (eQ.1 q).1 f]at hE;have u:a.fj.dH.length<=1099511627776:=by have:=k.l (rh q);omega
  have t:=λ{r:fy} (ht:r.p 49=some r8)=>Ar ht a.fj e.obj u;have m:0<=jl b a d:=J;cases c:decide (e.kind=18)
  ·rw[ao (by simp at c;simp[c])]at hE;simp[f23,g,h,i,j,m,f,o,c,hE]
   try rfl
  ·by_cases n:iA e.obj a.fj.dH 0=[]
   ·rw[ao (by simp[n])]at hE;simp[f23,g,h,i,j,m,f,o,c,t,n,hE]
    try rfl
   ·rw[aq ⟨m,by simpa using c,n⟩]at hE;have w:0<(iA e.obj a.fj.dH 0).length:=List.length_pos_iff.2 n;simp[f23,g,h,i,j,m,f,o,c,t,w,hE]
def YV{d:fy}(ht:d.p 23=some CW)(b:dR)(a:eK)(c:Int)(e:t8 b a):rl prog cx d 23 [b.t,a.t,Z c]=some (sl ((ow b a c).map (T.int .i64))):=gu ht T5 (b,a,c) e
def adA(g:H)(a:fH)(b:Nat)(c d:List gh):Prop:=∃h e f,nG g 4 9 h [(sl (a.ei.map dU.t),none),(Z a.tx,none),(sl (a.done.map T.bool),none),(sl (a.dH.map dM.t),none),(e,some (2,c.map gh.t)),(f,some (2,d.map gh.t)),(dD,none),(.arr 2 0 0 b false,some (1,(List.replicate b false).map T.bool)),(.arr 3 0 0 b false,some (1,(List.replicate b (0:Int)).map (T.int .i64)))]
def qR:iX:=(dE 9 0 [.agg [dD,Z 0,dD,dD,dD,dD,dD,dD,dD]])
def wu:fP:=⟨dR,λa=>[a.t],λa=>kl a,λa=>(lU a).t,λc d b=>by simp at b;rw[dR.inj b]⟩
def NU:wu.Ok prog cx 21:=by
 refine fM [(46,u0)] (iQ 17592202821695 [(1,[(3,5),(3,7),(3,9),(3,11),(3,13)])] func21) (λ_=>1000005) (by simp[wu]) ?_;rintro(a:dR) K d v;simp[wu]at v|-;have⟨l1,l2,l3,l4,l5,l6⟩:=K.sm.l;have a7:=K.ok.len;have S:a.dJ.length<=70368744177664:=J;have U:a.dJ.length*8<=70368744177664:=J;have al:=λ{av:fy} (ht:av.p 46=some u0)=>SB ht a.jG.fj ⟨J,J,J,λl D=>by have:=K.sm.r l D;omega⟩;have X:lU a=⟨a.jG.fj,a.jG.cells.map λi=>⟨i,true⟩,a.jG.d8.map λi=>⟨i,true⟩,[],List.replicate a.dJ.length false,List.replicate a.dJ.length 0⟩:=rfl;rw[X];simp[f21,v,al,S,U];generalize a.jG.fj=c at*
 refine fk a.jG.cells.length J (λm d g=>adA g c a.dJ.length ((a.jG.cells.take m).map λi=>⟨i,true⟩) []/\Lb 4 g 0 (dE 15 0 [a.t])/\Lb 4 g 1 qR/\dF d 1 (.ptr 0 0 0 0)/\dF d 2 (.ptr 1 0 0 0)/\dF d 3 (.ptr 4 0 0 0)/\dF d 4 (Z m)) ?_ ?_ J ?_
 ·rintro m d g C I ⟨⟨M,e,f,b⟩,h,q,j,o,s,u⟩;have n:=b.get;simp at n;have⟨aA,W,H,A⟩:=(b.gr 4 rfl).lP (cx:=cx) (f:=gh.t) b.ok Bg rfl Cs rfl dy (λ_=>rfl) ⟨a.jG.cells[m],true⟩ dz;have⟨y,ap,E⟩:=b.app 4 rfl A;have⟨z,F⟩:=E _ rfl;simp only[aP,bJ,cI,cB]at y z F;simp[j,o,s,u,C,h.get,n,H,y,dX,A.1.ir,A.1.cells,I];exact⟨⟨_,_,_,by rw[aR C,List.map_append];exact F⟩,h.step z,q.step z⟩
 ·rintro d g ⟨⟨M,e,f,b⟩,h,q,j,o,s,u⟩;rw[aK]at b;simp[j,u,h.get];refine fk a.jG.d8.length J (λm d g=>adA g c a.dJ.length (a.jG.cells.map λi=>⟨i,true⟩) ((a.jG.d8.take m).map λi=>⟨i,true⟩)/\Lb 4 g 0 (dE 15 0 [a.t])/\Lb 4 g 1 qR/\dF d 1 (.ptr 0 0 0 0)/\dF d 2 (.ptr 1 0 0 0)/\dF d 3 (.ptr 4 0 0 0)/\dF d 5 (Z m)) ?_ ?_ J ⟨⟨_,_,_,b⟩,h,q,by simp[j,o,s]⟩
  ·rintro m d g C I ⟨⟨M,e,f,b⟩,h,q,j,o,s,u⟩;have n:=b.get;simp at n;have⟨aA,W,H,A⟩:=(b.gr 5 rfl).lP (cx:=cx) (f:=gh.t) b.ok Bg rfl Cs rfl dy (λ_=>rfl) ⟨a.jG.d8[m],true⟩ dz;have⟨y,ap,E⟩:=b.app 5 rfl A;have⟨z,F⟩:=E _ rfl;simp only[aP,bJ,cI,cB]at y z F;simp[j,o,s,u,C,h.get,n,H,y,dX,A.1.ir,A.1.cells,I];exact⟨⟨_,_,_,by rw[aR C,List.map_append];exact F⟩,h.step z,q.step z⟩
  ·rintro d g ⟨⟨M,e,f,b⟩,h,q,j,o,s,u⟩;rw[aK]at b;have n:=b.get;simp at n;have L:=q.get;unfold qR at L;have G:=b.qD q (dE 9 1 [.agg [sl (c.ei.map dU.t),Z c.tx,sl (c.done.map T.bool),sl (c.dH.map dM.t),e,f,dD,.arr 2 0 0 a.dJ.length false,.arr 3 0 0 a.dJ.length false]]);have V:(dY g 1 (dE 9 1 [.agg [sl (c.ei.map dU.t),Z c.tx,sl (c.done.map T.bool),sl (c.dH.map dM.t),e,f,dD,.arr 2 0 0 a.dJ.length false,.arr 3 0 0 a.dJ.length false]])).get 1=_:=(dN L _ 1).trans (aq rfl);have aE:=(G.gr 4 rfl).fz dy;have aN:=(G.gr 5 rfl).fz dy;have aX:=(G.gr 7 rfl).fz dy;have a6:=(G.gr 8 rfl).fz dy;simp[j,o,s,u,h.get,n,L,dX,V,aE,aN,aX,a6,-List.map_replicate,-wQ];exact⟨b.ok.hp,by unfold eK.t eK.cs;simp[-List.map_replicate]⟩
 ·have Q:∀(w:Nat) (B:T×aa (Nat×List T)),([(sl (c.ei.map dU.t),none),(Z c.tx,none),(sl (c.done.map T.bool),none),(sl (c.dH.map dM.t),none),(dD,some (2,[])),(dD,some (2,[])),(dD,none),(.arr 2 0 0 a.dJ.length false,some (1,(List.replicate a.dJ.length false).map T.bool)),(.arr 3 0 0 a.dJ.length false,some (1,(List.replicate a.dJ.length (0:Int)).map (T.int .i64)))]:List (T×aa (Nat×List T)))[w]? =some B->∀e,dS B.1=some e->e+5=w:=by
   intro w B v e ae;rcases w with _|_|_|_|_|_|_|_|_|w<;>simp at v<;>subst v<;>simp at ae<;>omega
  refine⟨⟨1,dD,dD,⟨dy,dy,dy⟩,dy,λf N=>?_,λw k an B R v Y e y E=>an ?_⟩,⟨dy,?_⟩,⟨by simp[qR],?_⟩,dy⟩
  ·simp only[cr,cN,or_false,bJ,List.take_zero]at N;rcases N with rfl|rfl|rfl|rfl|rfl|rfl|rfl|rfl|rfl
   iterate 4 (show dS _=none;simp)
   ·exact⟨Gr.nil _ _,dB⟩
   ·exact⟨Gr.nil _ _,dB⟩
   ·show dS _=none;simp
   ·exact⟨.inr ⟨2,0,0,true,_,dy,by simp;rfl,dy⟩,show(1:Nat)≠9 by decide⟩
   ·exact⟨.inr ⟨3,0,0,true,_,dy,by simp;rfl,dy⟩,show(1:Nat)≠9 by decide⟩
  ·have j:=Q w B (by simpa using v) e y;have o:=Q k R (by simpa using Y) e E;omega
  all_goals
   rintro(D|⟨x,P,i,O,D⟩)
   ·simp at D
   ·simp at P;subst P;simp[fF,T.cells]at O;rcases O with rfl|rfl|rfl|rfl|rfl|rfl|rfl|rfl|rfl<;>simp at D
def Sj{b:fy}(ht:b.p 21=some wu)(a:dR)(c:kl a):rl prog cx b 21 [a.t]=some (lU a).t:=gu ht NU a c
def FB:fP:=⟨eK×Int,λa=>[a.1.t,Z a.2],λa=>a.1.order.length<=1000000,λa=> Z (place a.1 a.2),λa c b=>by simp at b;rw[show a=c from aC (eK.inj b.1) b.2]⟩
def XY:FB.Ok prog cx 30:=by
 refine fM [] (iQ 525367 [] func30) (λq=>1000005) (by simp[FB]) ?_;rintro⟨f,l⟩ hl b m;simp[FB]at hl m|-;obtain⟨o,c⟩:=m;simp[f30,o];refine fk f.order.length J (λi b g=>hU 1 g/\g.get 0=some (dE 9 0 [f.t])/\dF b 1 (Z l)/\dF b 2 (.ptr 0 0 0 0)/\dF b 5 (Z i)/\po (f.order.drop i) l i=place f l) ?_ ?_ J ⟨⟨dy,dy,dy⟩,dy,by simp[c,place]⟩
 ·rintro i b g n p ⟨j,e,c,h,d,a⟩;rw[aH n]at a;simp only[po]at a;simp[e,c,h,d,n];refine ee (λk=>?_) (λk=>?_)
  ·rw[aq (by simpa using k)]at a;simp[d,j.hp,<-a]
  ·rw[ao (by simpa using k)]at a;simp[e,c,h,d,p,j,a]
 ·rintro b g ⟨j,e,c,h,d,a⟩;rw[bO]at a;simp only[po]at a;simp[e,h,d,j.hp,<-a]
def adm{c:fy}(ht:c.p 30=some FB)(a:eK)(b:Int)(d:a.order.length<=1000000):rl prog cx c 30 [a.t,Z b]=some (Z (place a b)):=gu ht XY (a,b) d
def ul:fP:=⟨dR×eK×Int,λa=>[a.1.t,a.2.1.t,Z a.2.2],λa=>t8 a.1 a.2.1/\iP a.2.2 a.1.dJ.length=true,λa=> .bool (pi a.1 a.2.1 a.2.2),λa c b=>by simp at b;rw[show a=c from aC (dR.inj b.1) (aC (eK.inj b.2.1) b.2.2)]⟩
def NZ:ul.Ok prog cx 29:=by
 refine fM [(12,m9),(22,oI)] (iQ 223 [] func29) (λr=>5) (by simp[ul]) ?_;rintro⟨d,b,g⟩ ⟨a,f⟩ v m;simp only at a f;simp[ul]at m|-;obtain⟨j,k,l⟩:=m;have⟨h,e,i,s,t,u⟩:=a.hw.at f;have hE:=pi.eq_1 d b g;rw[qn (eQ.1 f).1 e]at hE;generalize pi d b g=q at*
 have n:=λ{o:fy} (ht:o.p 12=some m9)=>At ht d b h.dP a.ev a.od;cases c:decide (jl d b h.dP=g)
 ·rw[c]at hE;simp[f29,j,k,l,e,i,n,c,hE]
 ·rw[c,aU]at hE;simp[f29,j,k,l,e,i,n,c,vz,a,hE]
def Sk{d:fy}(ht:d.p 29=some ul)(a:dR)(b:eK)(c:Int)(e:t8 a b)(f:iP c a.dJ.length=true):rl prog cx d 29 [a.t,b.t,Z c]=some (.bool (pi a b c)):=gu ht NZ (a,b,c) ⟨e,f⟩
def VC{h:GX}{f:im}(e:h.vR f=true):(f.kind=2/\∀i∈f.iS,iP i h.ev.length=true)\/((f.kind=1\/f.kind=3\/f.kind=4)/\h.yc f.a=true/\h.yc f.b=true/\h.yc f.c=true/\h.yc f.d=true):=by
 unfold GX.vR at e;split at e
 ·rename_i g;refine .inl ⟨g,λi j=>?_⟩;unfold GX.dead GX.Ga at e;simp only[ax,bW]at e;exact e.2.1.2 i j
 ·split at e
  ·rename_i g;simp only[ax]at g;refine .inr ⟨?_,g.1.1.1,g.1.1.2,g.1.2,g.2⟩;split at e
   ·omega
   ·split at e
    ·omega
    ·split at e
     ·omega
     ·simp at e
  ·simp at e
def tZ(b:dR)(c:eK)(a:Int):Bool:=decide (jl b c (lq b.dJ a).dP=a)&&(!decide ((lq b.dJ a).kind=17)||decide ((nS c.fj (lq b.dJ a).dP).iE=4))
def Mq{a:List Int}{c:Int}(b:a.getLast?=some c):0<a.length/\a[a.length-1]? =some c:=by
 rw[List.getLast?_eq_getElem?]at b;refine⟨?_,b⟩;cases a with
 |nil=>simp at b
 |cons=>simp
def uq:fP:=⟨dR×eK×im,λa=>[a.1.t,a.2.1.t,a.2.2.t],λa=>t8 a.1 a.2.1/\a.2.2.iS.length<=1000000,λa=> .bool (a.1.gx.vR a.2.2&&xg a.1 a.2.1 a.2.2),λa c b=>by simp at b;rw[show a=c from aC (dR.inj b.1) (aC (eK.inj b.2.1) (im.inj b.2.2))]⟩
def N6:uq.Ok prog cx 11:=by
 refine fM [(28,oo),(29,ul),(12,m9),(30,FB)] (iQ 28334198897252767945215 [(11,[(4,6),(4,8),(4,9)]),(16,[(9,10),(9,12)])] func11) (λa=>1000005) (by simp[uq]) ?_;rintro⟨e,d,c⟩ ⟨g,hl⟩ w E;simp only at g hl;simp[uq]at E|-;obtain⟨q,r,s⟩:=E;have u:=λ{v:fy} (ht:v.p 28=some oo)=>Ed ht e c g.hw hl;cases o:e.gx.vR c with
 |false=>simp[f11,q,r,s,u,o]
 |true=>
  have hE:=xg.eq_1 e d c;rw[aU];generalize xg e d c=X at*
  have aX:=g.od;have S:=λ{v:fy} (ht:v.p 30=some FB) (n:Int)=>adm ht d n aX;rcases VC o with⟨k,z⟩|⟨k,E,aA,bu,bB⟩
  ·have h:decide (c.kind=1)=false:=by simp[k]
   have y:decide (c.kind=2)=true:=by simp[k]
   rw[ao J,aq k]at hE;simp[f11,q,r,s,u,o,h,y];refine fk c.iS.length J (λi w x=>hU 3 x/\x.get 0=some (dE 15 0 [e.t])/\x.get 1=some (dE 9 0 [d.t])/\x.get 2=some (dE 6 0 [c.t])/\dF w 3 (.ptr 0 0 0 0)/\dF w 4 (.ptr 1 0 0 0)/\dF w 5 (.ptr 2 0 0 0)/\dF w 7 (Z i)/\(c.iS.drop i).all (tZ e d)=X) ?_ ?_ J ⟨⟨dy,dy,dy⟩,dy,dy,dy,by simp[hE];rfl⟩
   ·rintro i w x A av ⟨m,M,N,B,O,P,C,D,f⟩;rw[aH A,bZ]at f;have⟨j,R,Y,bn,ae,bs⟩:=g.hw.at (z _ (aD A));have ap:tZ e d c.iS[i]=(decide (jl e d j.dP=c.iS[i])&&(!decide (j.kind=17)||decide ((nS d.fj j.dP).iE=4))):=by
     unfold tZ;rw[qn (eQ.1 (z _ (aD A))).1 R]
    rw[ap]at f;have⟨l,t1,t2,t3⟩:=uT (g.hc.ft (rh (z _ (aD A)))) ae;rw[t3]at f;have U:=m.ne (b:=0) J;have I:=m.ne (b:=1) J;have K:=m.ne (b:=2) J;have aN:=λ{v:fy} (ht:v.p 12=some m9)=>At ht e d j.dP g.ev g.od;simp[M,N,B,O,P,C,D,A,U,I,K,m.low,R,Y,aN,t1,t2];refine ee (λaE=>?_) (λaE=>?_)
    ·rw[show(decide (jl e d j.dP=c.iS[i])&&(!decide (j.kind=17)||decide (l.iE=4)))=false by grind]at f;simp at f;simp[m.hp,f]
    ·rw[show(decide (jl e d j.dP=c.iS[i])&&(!decide (j.kind=17)||decide (l.iE=4)))=true by grind]at f;simp at f;simp[M,N,B,O,P,C,D,U,I,K,av,m.cons,f]
   ·rintro w x ⟨m,M,N,B,O,P,C,D,f⟩;rw[bO]at f;simp at f;simp[B,C,D,m.hp,f]
  ·have Q:=λ{v:fy} (ht:v.p 29=some ul) (i:Int) (z:iP i e.dJ.length=true)=>Sk ht e d i g z;have F:iP c.a e.dJ.length=true:=E;have T:iP c.b e.dJ.length=true:=aA;rcases k with k|k|k
   ·have h:decide (c.kind=1)=true:=by simp[k]
    rw[aq k]at hE;cases L:pi e d c.a
    ·rw[L]at hE;simp[f11,q,r,s,u,o,h,Q,F,L,hE]
    ·rw[L,aU]at hE;simp[f11,q,r,s,u,o,h,Q,F,T,L,hE]
   ·have h:decide (c.kind=1)=false:=by simp[k]
    have y:decide (c.kind=2)=false:=by simp[k]
    have H:decide (c.kind=3)=true:=by simp[k]
    rw[ao J,ao J,aq k]at hE;have⟨W,al,an⟩:=iD (l:=d.qt) (i:=c.a) (by rw[g.hc.wk];exact F);have a8:=em (eQ.1 F).1;have a6:Bo d c.a=decide (W=0):=by unfold Bo;rw[an];simp
    rw[a6]at hE;cases G:d.order.getLast? with
    |none=>
     have:d.order=[]:=by simpa using G
     rw[G]at hE;simp at hE;simp[f11,q,r,s,u,o,h,y,H,this,hE]
    |some V=>
     have⟨I,K⟩:=Mq G;rw[G]at hE;have bi:decide (some V=some c.b)=decide (V=c.b):=dy;rw[bi]at hE;have a7:binop .sub (Z (d.order.length:Int)) (Z 1)=some (Z ((d.order.length-1:Nat):Int)):=by rw[kx J J,show(d.order.length:Int)-1=((d.order.length-1:Nat):Int)by omega]
     simp[f11,q,r,s,u,o,h,y,H,I,K,a7,S,a8,al,hE]
   ·have h:decide (c.kind=1)=false:=by simp[k]
    have y:decide (c.kind=2)=false:=by simp[k]
    have H:decide (c.kind=3)=false:=by simp[k]
    rw[ao J,ao J,ao J]at hE;simp[f11,q,r,s,u,o,h,y,H,S,Q,T,hE]
def Sz{d:fy}(ht:d.p 11=some uq)(b:dR)(c:eK)(a:im)(e:t8 b c)(hl:a.iS.length<=1000000):rl prog cx d 11 [b.t,c.t,a.t]=some (.bool (b.gx.vR a&&xg b c a)):=gu ht N6 (b,c,a) ⟨e,hl⟩
def U6{c:fy}(ht:c.p 14=some zg)(b:dR)(a:im)(d:kl b)(hl:a.iS.length<=1000000):rl prog cx c 14 [b.t,a.t]=some (.bool (b.gx.vR a)):=gu ht Qt (b,a) ⟨d,hl⟩
def sd(b:dR)(c:eK)(a:Int):Bool:=iP a b.dJ.length&&decide (jl b c (lq b.dJ a).dP=a)
def uW(b:dR)(c:eK)(a:Int):Bool:=iP a b.dJ.length&&pi b c a
def xm:fP:=⟨dR×eK×Int,λa=>[a.1.t,a.2.1.t,Z a.2.2],λa=>t8 a.1 a.2.1,λa=> .bool (sd a.1 a.2.1 a.2.2),λa c b=>by simp at b;rw[show a=c from aC (dR.inj b.1) (aC (eK.inj b.2.1) b.2.2)]⟩
def QF:xm.Ok prog cx 53:=by
 refine fM [(98,wy)] (iQ 95 [] func53) (λr=>5) (by simp[xm]) ?_;rintro⟨c,g,a⟩ (j:t8 c g) x i;simp[xm]at i|-;obtain⟨d,e,f⟩:=i;cases b:iP a c.dJ.length with
 |false=>
  have v:=pY b;by_cases k:0<=a
  ·simp[f53,d,e,f,sd,b,show decide (0<=a)=true by simpa using k,show decide (a<(c.dJ.length:Int))=false by simp;omega]
  ·simp[f53,d,e,f,sd,b,show decide (0<=a)=false by simpa using k]
 |true=>
  have⟨m,h,n,s,t,u⟩:=j.hw.at b;have⟨l,w⟩:=eQ.1 b;have o:=λ{q:fy} (ht:q.p 98=some wy)=>Sr ht c g m.dP j;simp[f53,d,e,f,sd,b,show decide (0<=a)=true by simpa using l,show decide (a<(c.dJ.length:Int))=true by simp;omega,h,n,o,qn l h]
def Cu{d:fy}(ht:d.p 53=some xm)(b:dR)(a:eK)(c:Int)(e:t8 b a):rl prog cx d 53 [b.t,a.t,Z c]=some (.bool (sd b a c)):=gu ht QF (b,a,c) e
def zj:fP:=⟨dR×eK×Int,λa=>[a.1.t,a.2.1.t,Z a.2.2],λa=>t8 a.1 a.2.1,λa=> .bool (uW a.1 a.2.1 a.2.2),λa c b=>by simp at b;rw[show a=c from aC (dR.inj b.1) (aC (eK.inj b.2.1) b.2.2)]⟩
def QB:zj.Ok prog cx 52:=by
 refine fM [(53,xm),(97,us)] (iQ 95 [] func52) (λo=>5) (by simp[zj]) ?_;rintro⟨a,b,c⟩ (e:t8 a b) s k;simp[zj]at k|-;obtain⟨g,h,i⟩:=k;have j:uW a b c=(sd a b c&&ju a b (lq a.dJ c).dP):=by unfold uW sd pi;rw[Bool.and_assoc]
 cases d:sd a b c
 ·simp[f52,g,h,i,Cu,e,j,d]
 ·have l:iP c a.dJ.length=true:=by unfold sd at d;simp only[ax]at d;exact d.1
  have⟨p,f,m,q,n,r⟩:=e.hw.at l;simp[f52,g,h,i,Cu,e,j,d,f,m,ON,n,qn (eQ.1 l).1 f]
def MW{d:fy}(ht:d.p 52=some zj)(b:dR)(a:eK)(c:Int)(e:t8 b a):rl prog cx d 52 [b.t,a.t,Z c]=some (.bool (uW b a c)):=gu ht QB (b,a,c) e
def F9(c:dR)(a:eK)(b:Int):Bool:=sd c a b&&tZ c a b
def qy(g:dR)(f:eK)(e:im):Bool:=
 if e.kind=1 then uW g f e.a&&uW g f e.b
 else if e.kind=2 then e.iS.all (F9 g f)
 else if e.kind=3 then decide (f.order.getLast?=some e.b)&&decide (e.a∈f.order)&&Bo f e.a
 else if e.kind=4 then decide (0<=place f e.a)&&decide (place f e.a<place f e.c)&&decide (e.d∈f.order)&&uW g f e.b
 else false
def wv:fP:=⟨dR×eK×im,λa=>[a.1.t,a.2.1.t,a.2.2.t],λa=>t8 a.1 a.2.1/\a.2.2.iS.length<=1000000,λa=> .bool (qy a.1 a.2.1 a.2.2),λa c b=>by simp at b;rw[show a=c from aC (dR.inj b.1) (aC (eK.inj b.2.1) (im.inj b.2.2))]⟩
def N1:wv.Ok prog cx 25:=by
 refine fM [(52,zj),(53,xm),(54,nK),(55,uY)] (iQ 332306998946231919705005790102318975 [] func25) (λa=>1000005) (by simp[wv]) ?_;rintro⟨h,d,c⟩ ⟨k,hl⟩ q N;simp only at k hl;simp[wv]at N|-;obtain⟨m,n,o⟩:=N;have hE:=qy.eq_1 h d c;generalize qy h d c=S at*
 have F:=k.od;by_cases e:c.kind=1
 ·rw[aq e]at hE;simp[f25,m,n,o,show decide (c.kind=1)=true by simpa using e,MW,k,hE]
 rw[ao e]at hE;have r:decide (c.kind=1)=false:=by simpa using e
 by_cases e:c.kind=2
 ·rw[aq e]at hE;have l:decide (c.kind=2)=true:=by simpa using e
  simp[f25,m,n,o,r,l];refine fk c.iS.length J (λi q w=>hU 3 w/\w.get 0=some (dE 15 0 [h.t])/\w.get 1=some (dE 9 0 [d.t])/\dF q 3 (.ptr 0 0 0 0)/\dF q 4 (.ptr 1 0 0 0)/\dF q 31 (sl (c.iS.map (T.int .i64)))/\dF q 32 (Z c.iS.length)/\dF q 33 (Z i)/\(c.iS.drop i).all (F9 h d)=S) ?_ ?_ J ⟨⟨dy,dy,dy⟩,dy,dy,by simp[hE]⟩
  ·rintro i q w H al ⟨p,z,A,B,D,C,x,y,f⟩;rw[aH H,bZ]at f;have Y:F9 h d c.iS[i]=(sd h d c.iS[i]&&tZ h d c.iS[i]):=rfl;rw[Y]at f;have aE:=p.ne (b:=0) J;have v:=p.ne (b:=1) J;cases g:sd h d c.iS[i]with
   |false=>
    rw[g]at f;simp at f;simp[z,A,B,D,C,x,y,H,Cu,k,g,p.hp,f]
   |true=>
   rw[g,aU]at f;have j:iP c.iS[i] h.dJ.length=true:=by unfold sd at g;simp only[ax]at g;exact g.1
   have⟨u,G,V,aX,M,a6⟩:=k.hw.at j;have ae:tZ h d c.iS[i]=(decide (jl h d u.dP=c.iS[i])&&(!decide (u.kind=17)||decide ((nS d.fj u.dP).iE=4))):=by
    unfold tZ;rw[qn (eQ.1 j).1 G]
   have aA:decide (jl h d u.dP=c.iS[i])=true:=by unfold sd at g;simp only[ax]at g;rw[qn (eQ.1 j).1 G]at g;exact g.2
   rw[ae,aA,aU]at f;have O:=k.hc.ft (rh j);have⟨P,t1,t2,t3⟩:=uT O M;have an:decide ((d.fj.dH.length:Int)<=u.dP)=false:=by rw[(mT O).2.2];have:=eQ.1 M;simp;omega
   rw[t3]at f;simp[z,A,B,D,C,x,y,H,Cu,k,g,G,V,v,p.low,t1,t2,an];refine ee (λap=>?_) (λap=>?_)
   ·rw[show(!decide (u.kind=17)||decide (P.iE=4))=false by grind]at f;simp at f;simp[p.hp,f]
   ·rw[show(!decide (u.kind=17)||decide (P.iE=4))=true by grind]at f;simp at f;simp[z,A,B,D,C,x,y,aE,v,al,p.cons,f]
  ·rintro q w ⟨p,z,A,B,D,C,x,y,f⟩;rw[bO]at f;simp at f;simp[x,y,p.hp,f]
 rw[ao e]at hE;have l:decide (c.kind=2)=false:=by simpa using e
 by_cases e:c.kind=3
 ·rw[aq e]at hE;have s:decide (c.kind=3)=true:=by simpa using e
  have a8:d.qt.length=h.dJ.length:=k.hc.wk;cases E:d.order.getLast? with
  |none=>
   have av:d.order=[]:=by simpa using E
   rw[E]at hE;simp at hE;simp[f25,m,n,o,r,l,s,av,hE]
  |some Q=>
   have⟨v,I⟩:=Mq E;rw[E]at hE;have aN:decide (some Q=some c.b)=decide (Q=c.b):=dy;rw[aN]at hE;have K:binop .sub (Z (d.order.length:Int)) (Z 1)=some (Z ((d.order.length-1:Nat):Int)):=by rw[kx J J,show(d.order.length:Int)-1=((d.order.length-1:Nat):Int)by omega]
   cases j:iP c.a d.qt.length with
   |false=>
    have a7:=pY j;have L:Bo d c.a=false:=by unfold Bo;rw[nQ j];rfl
    rw[L,Bool.and_false]at hE;by_cases g:0<=c.a
    ·simp[f25,m,n,o,r,l,s,v,I,K,oY,F,show decide (0<=c.a)=true by simpa using g,show decide (c.a<(d.qt.length:Int))=false by simp;omega,hE]
    ·simp[f25,m,n,o,r,l,s,v,I,K,oY,F,show decide (0<=c.a)=false by simpa using g,hE]
   |true=>
    have⟨R,W,X⟩:=iD j;have⟨p1,p2⟩:=eQ.1 j;have L:Bo d c.a=decide (R=0):=by unfold Bo;rw[X];simp
    rw[L]at hE;simp[f25,m,n,o,r,l,s,v,I,K,oY,F,show decide (0<=c.a)=true by simpa using p1,show decide (c.a<(d.qt.length:Int))=true by simp;omega,em p1,W,hE]
 rw[ao e]at hE;have s:decide (c.kind=3)=false:=by simpa using e
 by_cases e:c.kind=4
 ·rw[aq e]at hE;have U:decide (c.kind=4)=true:=by simpa using e
  simp[f25,m,n,o,r,l,s,U,MY,oY,MW,k,F,hE];rfl
 ·rw[ao e]at hE;simp[f25,m,n,o,r,l,s,show decide (c.kind=4)=false by simpa using e,hE]
def So{d:fy}(ht:d.p 25=some wv)(c:dR)(a:eK)(b:im)(e:t8 c a)(hl:b.iS.length<=1000000):rl prog cx d 25 [c.t,a.t,b.t]=some (.bool (qy c a b)):=gu ht N1 (c,a,b) ⟨e,hl⟩
def uZ:fP:=⟨dR×eK×im,λa=>[a.1.t,a.2.1.t,a.2.2.t],λa=>t8 a.1 a.2.1/\a.2.2.iS.length<=1000000,λa=> .bool (qy a.1 a.2.1 a.2.2&&a.1.gx.vR a.2.2),λa c b=>by simp at b;rw[show a=c from aC (dR.inj b.1) (aC (eK.inj b.2.1) (im.inj b.2.2))]⟩
def QT:uZ.Ok prog cx 9:=by
 refine fM [(25,wv),(14,zg)] (iQ 127 [] func9) (λf=>5) (by simp[uZ]) ?_;rintro⟨j,g,h⟩ ⟨a,hl⟩ i b;simp only at a hl;simp[uZ]at b|-;obtain⟨c,d,e⟩:=b;simp[f9,c,d,e,So,U6,a,a.hw,hl]
def MZ{d:fy}(ht:d.p 9=some uZ)(b:dR)(c:eK)(a:im)(e:t8 b c)(hl:a.iS.length<=1000000):rl prog cx d 9 [b.t,c.t,a.t]=some (.bool (qy b c a&&b.gx.vR a)):=gu ht QT (b,c,a) ⟨e,hl⟩
@[simp]def ahm (a:Nat):(a+1+1=a)=False:=dz 
@[simp]def ahl (a:Nat):(a+1+1+1=a)=False:=dz 
@[simp]def ahk (a:Nat):(a+1+1+1+1=a)=False:=dz 
@[simp]def ahj (a:Nat):(a+1+1+1+1+1=a)=False:=dz 
@[simp]def ahi (a:Nat):(a+1+1+1+1+1+1=a)=False:=dz 
@[simp]def ahc (a:Nat):(a=a+1+1+1+1+1+1)=False:=dz 
@[simp]def ahb (a:Nat):(a=a+1+1+1+1+1+1+1)=False:=dz 
def Bx(e:H)(a b f:Nat)(c:List T):Prop:=∃g d,e.get a=some ⟨f,b,g,d,false,c⟩
def Bx.mono{d h':H}{a b e:Nat}{c:List T}(j:Bx d a b e c)(g:h'.get a=d.get a):Bx h' a b e c:=by obtain⟨i,f,h⟩:=j;exact⟨i,f,g.trans h⟩
def Bx.gr{d:H}{b c e:Nat}{a:List T}(g:Bx d b c e a):Gr d (.arr b c 0 a.length false) e a:=by obtain⟨i,h,f⟩:=g;exact Gr.new f
def P5(a:eK)(b:List T)(c:H):Prop:=b=[a.t]/\hU 0 c/\(a.fj.ei.length<=1000000/\a.fj.done.length<=1000000/\a.fj.dH.length<=1000000/\∀d∈a.fj.ei,d.eJ.length<=1000000)/\a.cells.length<=1000000/\a.d8.length<=1000000/\a.order.length<=1000000/\a.fixed.length<=1000000/\a.qt.length<=1000000
def WI(a:eK)(b c d e f g:Nat):T:= .agg [sl (a.fj.ei.map dU.t),Z a.fj.tx,sl (a.fj.done.map T.bool),sl (a.fj.dH.map dM.t),.arr b c 0 a.cells.length false,.arr (b+1) d 0 a.d8.length false,.arr (b+1+1) e 0 a.order.length false,.arr (b+1+1+1) f 0 a.fixed.length false,.arr (b+1+1+1+1) g 0 a.qt.length false]
structure To(c:eK)(n e1 e2 e3 e4 e5:Nat)(h':H):Prop where
 bc:Bx h' n e1 2 (c.cells.map gh.t)
 bf:Bx h' (n+1) e2 2 (c.d8.map gh.t)
 bo:Bx h' (n+1+1) e3 1 (gG c.order)
 bx:Bx h' (n+1+1+1) e4 1 (c.fixed.map T.bool)
 bk:Bx h' (n+1+1+1+1) e5 1 (gG c.qt)
 bz:n+5<=h'.size
def Ma(b:eK)(k:List T)(h:H)(j:T)(i:H):Prop:=∃a c d e f g,h.size<=a/\Nb h i/\j=WI b a c d e f g/\To b a c d e f g i
def wg{b c:H}{x:iX}(e:∀a,a<b.size->c.get a=b.get a)(f:c.size=b.size+1)(a:Nat)(d:(a=b.size)=False):fh (b.cons x) c a=true:=by
 rcases Nat.lt_trichotomy a b.size with q|q|q
 ·exact fD ((e a q).trans (by rw[dT,ao J]))
 ·exact(d▸q:False).elim
 ·exact iU (lj _ dz)
def Q4:(jI eK P5 Ma).Ok prog cx 50:=by
 refine jx (tb:=⟨pt [(46,u0)],ht []⟩) iL iB (iQ 7 [(1,[(2,3),(2,5),(2,7),(6,7),(2,9),(6,9),(2,11),(6,11),(10,11),(2,13),(6,13),(10,13),(2,15),(6,15),(10,15),(14,15),(2,17),(6,17),(10,17),(14,17),(2,19),(6,19),(10,19),(14,19),(18,19),(2,21),(6,21),(10,21),(14,21),(18,21)])] func50) (λ_ _=>20) (λi a b a7=>by obtain⟨rfl,_⟩:=a7;simp[f50]) ?_;rintro c _ b ⟨rfl,bH,a8,l1,l2,l3,l4,l5⟩ c6 L;simp at L;have A:=bH.hr;have aX:=λ{tb:fy} (ht:tb.p 46=some u0)=>SB ht c.fj a8;have⟨f,g⟩:∃f:H,f=((TI.hr b).cons (dE 9 0 [c.t])).cons qR:=⟨_,rfl⟩;have bX:hU 0 f:=by subst g;exact(A.cons _).cons _
 have X:f.size=b.size+1+1:=by subst g;rfl
 have bC:Nb b f:=by subst g;exact⟨(((Nb.refl A).cons _).cons _).ok,λc aN=>((((Nb.refl A).cons _).cons _).get c aN).trans (gU b c)⟩
 have av:f.get b.size=some (dE 9 0 [c.t]):=by subst g;simp
 have aA:f.get (b.size+1)=some qR:=by subst g;simp
 have⟨Y,c7,B,⟨b7,cp,gA⟩,n,u,bN⟩:=jV (cx:=cx) (sz:=2) bX (x:=sl (c.cells.map gh.t)) (xs:=c.cells.map gh.t) Bg rfl Cs Bg rfl rfl dy dy dy dz;have⟨ae,c9,C,⟨b8,cy,G⟩,o,m,okB⟩:=jV (cx:=cx) (sz:=2) bN (x:=sl (c.d8.map gh.t)) (xs:=c.d8.map gh.t) Bg rfl Cs Bg rfl rfl dy dy dy dz;have⟨al,dd,D,⟨b9,cL,gC⟩,q,k,bS⟩:=jV (cx:=cx) (sz:=1) okB (x:=sl (gG c.order)) (xs:=gG c.order) jQ rfl mz jQ rfl rfl dy dy (by simp[T.cells]) dz;have⟨an,de,E,⟨ca,c1,I⟩,r,h,N7⟩:=jV (cx:=cx) (sz:=1) bS (x:=sl (c.fixed.map T.bool)) (xs:=c.fixed.map T.bool) Bh rfl MF Bh rfl rfl dy dy (λe a6=>by obtain⟨d,_,rfl⟩:=List.mem_map.1 a6;rfl) dz;have⟨ap,V,F,⟨cb,c4,K⟩,W,j,bT⟩:=jV (cx:=cx) (sz:=1) N7 (x:=sl (gG c.qt)) (xs:=gG c.qt) jQ rfl mz jQ rfl rfl dy dy (by simp[T.cells]) dz;have Q:=wg (x:=(dE 2 0 [])) u n;have R:=wg (x:=(dE 2 0 [])) m o;have S:=wg (x:=(dE 1 0 [])) k q;have U:=wg (x:=(dE 1 0 [])) h r;have b6:=wg (x:=(dE 1 0 [])) j W;rw[X]at n;rw[n]at o;rw[o]at q;rw[q]at r;rw[r]at W;have M:=(u b.size J).trans av;have N:=(m b.size J).trans M;have O:=(k b.size J).trans N;have bi:=(h b.size J).trans O;have bn:=(u (b.size+1) J).trans aA;have bs:=(m (b.size+1) J).trans bn;have bu:=(k (b.size+1) J).trans bs;have bB:=(h (b.size+1) J).trans bu;have s:=(j (b.size+1) J).trans bB;simp only[X,aG]at B gA Q;simp only[n,aG]at C G R;simp only[o,aG]at D gC S;simp only[q,aG]at E I U;simp only[r,aG]at F K b6;unfold qR at g s;simp[f50,L,aX];rw[<-g];have aE:=λy=>(dN s y (b.size+1)).trans (aq rfl);simp[M,N,O,bi,B,C,D,E,F,Q,R,S,U,n,o,q,r,s,aE];generalize w:dY V (b.size+1) _=v;have l:∀d,d≠b.size+1->(lO b v).get d=V.get d:=λd z=>by rw[fW,<-w,dN s,ao z]
 have P:hU 0 v:=by rw[<-w];exact bT.put _ _
 have di:(lO b v).size=b.size+7:=by rw[uy,<-w,fJ];omega
 exact⟨b.size+1+1,Y,ae,al,an,ap,J,⟨⟨(P.out b).hp,(P.out b).low,J⟩,λd z=>(l d J).trans ((j d J).trans ((h d J).trans ((k d J).trans ((m d J).trans ((u d J).trans (bC.get d z))))))⟩,rfl,
  ⟨b7,cp,(l _ J).trans ((j _ J).trans ((h _ J).trans ((k _ J).trans ((m _ J).trans gA))))⟩,
  ⟨b8,cy,(l _ J).trans ((j _ J).trans ((h _ J).trans ((k _ J).trans G)))⟩,
  ⟨b9,cL,(l _ J).trans ((j _ J).trans ((h _ J).trans gC))⟩,⟨ca,c1,(l _ J).trans ((j _ J).trans I)⟩,⟨cb,c4,(l _ J).trans K⟩,J⟩
def wS(a:eK)(b c d e f:T):List (T×aa (Nat×List T)):=[(sl (a.fj.ei.map dU.t),none),(Z a.fj.tx,none),(sl (a.fj.done.map T.bool),none),(sl (a.fj.dH.map dM.t),none),(b,some (2,a.cells.map gh.t)),(c,some (2,a.d8.map gh.t)),(d,some (1,gG a.order)),(e,some (1,a.fixed.map T.bool)),(f,some (1,gG a.qt))]
def To.iv{c:eK}{S:fH}{a i j k l m ver:Nat}{h:H}(g:To c a i j k l m h)(C:hU 0 h)(I:1<a)(z:h.get 1=some (dE 9 ver [.agg [sl (S.ei.map dU.t),Z S.tx,sl (S.done.map T.bool),sl (S.dH.map dM.t),.arr a i 0 c.cells.length false,.arr (a+1) j 0 c.d8.length false,.arr (a+1+1) k 0 c.order.length false,.arr (a+1+1+1) l 0 c.fixed.length false,.arr (a+1+1+1+1) m 0 c.qt.length false]])):
 nG h 1 9 ver (wS {c with fj:=S} (.arr a i 0 c.cells.length false) (.arr (a+1) j 0 c.d8.length false) (.arr (a+1+1) k 0 c.order.length false) (.arr (a+1+1+1) l 0 c.fixed.length false) (.arr (a+1+1+1+1) m 0 c.qt.length false))/\∀d,Fp h 1 d->d=1\/(a<=d/\d<a+5):=by
 have s:∀(b:Nat) (f:T×aa (Nat×List T)),(wS {c with fj:=S} (.arr a i 0 c.cells.length false) (.arr (a+1) j 0 c.d8.length false) (.arr (a+1+1) k 0 c.order.length false) (.arr (a+1+1+1) l 0 c.fixed.length false) (.arr (a+1+1+1+1) m 0 c.qt.length false))[b]? =some f->∀d,dS f.1=some d->d+4=a+b/\b<9:=by
  intro b f n d q;unfold wS at n;rcases b with _|_|_|_|_|_|_|_|_|b<;>simp at n<;>subst n<;>simp at q<;>omega
 have w:nG h 1 9 ver (wS {c with fj:=S} (.arr a i 0 c.cells.length false) (.arr (a+1) j 0 c.d8.length false) (.arr (a+1+1) k 0 c.order.length false) (.arr (a+1+1+1) l 0 c.fixed.length false) (.arr (a+1+1+1+1) m 0 c.qt.length false)):=by
  refine⟨C,z,λu o=>?_,λb B A f x n y d e D=>A ?_⟩
  ·simp only[wS,cr,cN,or_false]at o;rcases o with rfl|rfl|rfl|rfl|rfl|rfl|rfl|rfl|rfl
   iterate 4 (show dS _=none;simp)
   ·exact⟨by simpa using g.bc.gr,show(2:Nat)≠9 by decide⟩
   ·exact⟨by simpa using g.bf.gr,show(2:Nat)≠9 by decide⟩
   ·exact⟨by simpa using g.bo.gr,show(1:Nat)≠9 by decide⟩
   ·exact⟨by simpa using g.bx.gr,show(1:Nat)≠9 by decide⟩
   ·exact⟨by simpa using g.bk.gr,show(1:Nat)≠9 by decide⟩
  ·have E:=s b f n d e;have F:=s B x y d D;omega
 refine⟨w,λd q=>?_⟩;rcases q with e|⟨L,r,K,v,e⟩
 ·exact .inl e
 ·rw[w.get]at r;simp only[ar]at r;subst r;simp only[fF,br,cK,bP,T.cells]at v;obtain⟨u,o,rfl⟩:=List.mem_map.1 v;have⟨b,p⟩:=cM o;have:=s b u p d e;have G:4<=b:=by
   rcases b with _|_|_|_|b
   iterate 4 (simp[wS]at p;subst p;simp at e)
   omega
  omega
def acx{b a:Nat}{c:H}{f:iX}(d:Lb b c a f):b≠a:=λe=>d.nf (.inl e.symm)
def GW{e d a:Nat}{b:H}{i y f:iX}(h:Lb e b a f)(c:Lb e b d i)(g:a≠d):Lb e (dY b d y) a f:=
 h.kU (by rw[dN c.get,ao (acx c)]) (by rw[dN c.get,ao g])
def Ws{d c:Nat}{a:H}{g:iX}(b:Lb d a c g)(e:iX):Lb d (dY a c e) c e:=
 ⟨by rw[dN b.get,aq rfl],by
   have f:(dY a c e).get d=a.get d:=by rw[dN b.get,ao (acx b)]
   rw[iT f];exact b.nf⟩
def acw{b h i:Nat}{f:List (T×aa (Nat×List T))}{a:H}(e:nG a b h i f)(c:iX):Lb b (a.cons c) a.size c:=
 ⟨dy,λd=>by
   have g:(a.cons c).get b=a.get b:=by rw[dT,ao (by have:=e.lt;omega)]
   rw[iT g]at d;have:=e.fp _ d;omega⟩
def Mx{b:List gh}{c d:Int}{a:gh}(f:uR b c=some a):fixC b c d=(a.known&&decide (a.value=d)):=by
 unfold fixC;rw[f];obtain⟨g,e⟩:=a;cases e<;>simp
def xj:fP:=⟨dR×eK×gF,λa=>[a.1.t,a.2.1.t,a.2.2.t],λa=>t8 a.1 a.2.1,λa=> .tuple [(uU a.1 a.2.1 a.2.2).1.t,.bool (uU a.1 a.2.1 a.2.2).2],λa c b=>by simp at b;rw[show a=c from aC (dR.inj b.1) (aC (eK.inj b.2.1) (gF.inj b.2.2))]⟩
def J19(b:eK)(a:H):Prop:=∃h c d e f g,nG a 1 9 h (wS b c d e f g)/\Lb 1 a 3 qR
def Qw:xj.Ok prog cx 24:=by
 refine yW (tb:=⟨pt [(22,oI),(12,m9),(48,oO),(51,rf)],ht [(50,jI eK P5 Ma)]⟩) iL iB (iQ 184680779068091373590541728903436752898777087 [] func24) (λ_=>100) (by simp[xj]) nl9 ?_;rintro⟨j,c,e⟩ (b:t8 j c) A eL;simp[xj]at eL|-;obtain⟨eF,E,P⟩:=eL;have bC:=uU.eq_1 j c e;cases an:ju j c e.dP with
 |false=>
  rw[an,ao dy]at bC;simp[f24,eF,E,P,vz,b,an,bC];rfl
 |true=>
 rw[aq an]at bC;have hE:=ju.eq_1 j c e.dP;have eM:¬jl j c e.dP<0:=λq=>by rw[aq q,an]at hE;simp at hE
 rw[ao eM,an]at hE;have M:=uB eM;have⟨a,c9,bn,gM,gP,b6⟩:=b.hw.at M;rw[qn (eQ.1 M).1 c9]at bC hE;have fi:js j.ez c.fj e.dP a.kind a.obj=true:=by
  cases q:js j.ez c.fj e.dP a.kind a.obj
  ·rw[q]at hE;simp at hE
  ·rfl
 have fl:=b.hw.ev a (ay c9);have fA:=λ{tb:fy} (ht:tb.p 12=some m9)=>At ht j c e.dP b.ev b.od;have fs:=λ{tb:fy} (ht:tb.p 48=some oO)=>Gh ht j c e.dP a.uN b.ev fl.2;have gZ:=b.l (rh M);have ff:j.ez.gJ.length<=1099511627776:=by have:=lx b.hw.wb;omega
 have fb:=λ{tb:fy} (ht:tb.p 51=some rf)=>JH ht j.ez c.fj e.dP a.kind a.obj e.wc ff ⟨J,J,J,b.hc.rd,b.hc.BS⟩ fi;rw[bC];generalize gV:jl j c e.dP=u at*
 generalize fo:mZ j c e.dP a.uN=di at*
 simp[f24,eF,E,P,vz,b,an,fA,c9,bn,fs];generalize Q:H.cons _ _=W;have gg:hU 0 W:=by rw[<-Q];exact⟨dy,dy,dy⟩
 have gI:W.size=5:=by rw[<-Q];rfl
 have gj:W.get 0=some (dE 15 0 [j.t]):=by rw[<-Q];simp
 have gk:W.get 1=some (dE 9 0 [c.t]):=by rw[<-Q];simp
 have gm:W.get 2=some (dE 2 0 [e.t]):=by rw[<-Q];simp
 have gn:W.get 3=some qR:=by rw[<-Q];simp[qR]
 have gv:W.get 4=some (dE 7 1 [a.t]):=by rw[<-Q];simp
 clear Q;refine iy Q4 dy c ⟨rfl,gg,⟨J,J,J,b.hc.rd⟩,by have:=b.hc.ce (rh M);have:=lx b.hw.wb;omega,by have:=b.hc.fu (rh M);have:=lx b.hw.wb;omega,b.od,by have:=b.hc.fx;have:=b.ev;omega,by have:=b.hc.wk;have:=b.ev;omega⟩ ?_;rintro _ V ⟨n,p1,p2,p3,p4,p5,fB,Y,rfl,R⟩;rw[gI]at fB;have a0:=(Y.get 0 J).trans gj;have a1:=(Y.get 1 J).trans gk;have a2:=(Y.get 2 J).trans gm;have a3:=(Y.get 3 J).trans gn;have a4:=(Y.get 4 J).trans gv;have x:=λy=>(dN a1 y 1).trans (aq rfl);have go:=λy g (fe:(g=1)=False)=>(dN a1 y g).trans (ao (by simp[fe]));simp[WI,a0,a1,a2,a4,x,go,dX,fb];generalize al:dY (H.cons _ _) V.size _=L;have b8:hU 0 V:=⟨Y.ok.hp,Y.ok.low,aw _⟩;have hb:=R.bz;have okB:hU 0 L:=by rw[<-al];exact((b8.put _ _).cons _).put _ _
 have e7:L.size=V.size+1:=by rw[<-al,fJ];simp[size_cons]
 have ey:L.get V.size=some (dE 4 1 [(fg j.ez c.fj e.dP a.kind a.obj e.wc).1.t]):=by rw[<-al,mr ((b8.put _ _).cons _).hp (by simp[size_cons]),aq rfl]
 have D:∀g,g<V.size->g≠1->L.get g=V.get g:=λg E P=>by
  rw[<-al,mr ((b8.put _ _).cons _).hp (by simp[size_cons]),ao J,dT,ao dz,dN a1,ao P]
 have bX:L.get 1=some (dE 9 1 [.agg [sl (c.fj.ei.map dU.t),Z c.fj.tx,sl (c.fj.done.map T.bool),sl (c.fj.dH.map dM.t),.arr n p1 0 c.cells.length false,.arr (n+1) p2 0 c.d8.length false,.arr (n+1+1) p3 0 c.order.length false,.arr (n+1+1+1) p4 0 c.fixed.length false,.arr (n+1+1+1+1) p5 0 c.qt.length false]]):=by
  rw[<-al,mr ((b8.put _ _).cons _).hp (by simp[size_cons]),ao J,dT,ao dz];exact x _
 have eo:=(D 0 J J).trans a0;have er:=(D 2 J J).trans a2;have et:=(D 3 J J).trans a3;have eu:=(D 4 J J).trans a4;have ae:To c n p1 p2 p3 p4 p5 L:=⟨R.bc.mono (D _ J J),R.bf.mono (D _ J J),R.bo.mono (D _ J J),R.bx.mono (D _ J J),R.bk.mono (D _ J J),J⟩;clear al x go D;have gS:DV j c u a e.dP e.wc=DV j c u a e.dP e.wc:=rfl;generalize hr:fg j.ez c.fj e.dP a.kind a.obj e.wc=r at*
 obtain⟨S,b9⟩:=r;simp[ey,bX,dX];generalize bB:dY L 1 _=bu;have gE:bu.size=V.size+1:=by rw[<-bB,fJ,e7]
 have eR:hU 0 bu:=by rw[<-bB];exact okB.put _ _
 have U:∀g,g≠1->bu.get g=L.get g:=λg P=>by rw[<-bB,dN bX,ao P]
 have⟨d,eD⟩:=To.iv (S:=S) (c:=c) (ver:=2) (h:=bu) ⟨ae.bc.mono (U _ J),ae.bf.mono (U _ J),ae.bo.mono (U _ J),ae.bx.mono (U _ J),ae.bk.mono (U _ J),J⟩ eR J (by rw[<-bB,dN bX,aq rfl]);have bH:∀g w,g<5->g≠1->L.get g=some w->Lb 1 bu g w:=λg w E P e9=>⟨(U g P).trans e9,λq=>by have:=eD g q;omega⟩;have l0:=bH 0 _ J J eo;have l2:=bH 2 _ J J er;have l3:=bH 3 _ J J et;have l4:=bH 4 _ J J eu;clear bH bB U eD ae ey eo bX er et eu okB e7 R a0 a1 a2 a3 a4;have⟨ha,eE,eA,ca⟩:=(d.gr 6 rfl).lP (cx:=cx) (f:=T.int .i64) d.ok jQ rfl mz rfl dy (λ_=>rfl) u (by have:=b.hc.od;simp;omega);have⟨dv,gi,eU⟩:=d.app 6 rfl ca;have⟨aA,av⟩:=eU _ rfl;have dk:=d.get;simp only[wS,aP,bJ,cI,cB]at dv aA av dk;simp[dk,eA,dv,dX,ca.1.ir,ca.1.cells];have eX:=av.cons (dE 2 0 [gh.t ⟨0,false⟩]);have ea:=Step.cons av.ok av.lt (dE 2 0 [gh.t ⟨0,false⟩]);have ap:=acw av (dE 2 0 [gh.t ⟨0,false⟩]);rw[fJ]at ap;have z:=GW (y:=(dE 2 1 [gh.t ⟨0,false⟩])) ((l3.step aA).step ea) ap (by have:=(l3.step aA).lt;rw[fJ]at this;omega);have s:=GW (y:=(dE 2 1 [gh.t ⟨0,false⟩])) ((l4.step aA).step ea) ap (by have:=(l4.step aA).lt;rw[fJ]at this;omega);have N:=Ws ap (dE 2 1 [gh.t ⟨0,false⟩]);have e0:=eX.qD ap (dE 2 1 [gh.t ⟨0,false⟩]);generalize dY (H.cons _ _) eE.size _=gQ at*
 generalize eE.size=m at*
 clear eX ea ap av aA dv gi eU ca eA dk l0 l2 l3 l4 d eR gE;refine kQ (λA h=>∃aX a6 a7 a8 bi e5,nG h 1 9 3 (wS {c with fj:=S,order:=c.order++[u]} aX a6 a7 a8 bi)/\Lb 1 h 3 qR/\Lb 1 h 4 (dE 7 1 [a.t])/\Lb 1 h m (dE 2 e5 [(cont di a.value).t])/\dF A 4 (.ptr 1 0 0 0)/\dF A 6 (.ptr 3 0 0 0)/\dF A 8 (Z u)/\dF A 9 (.ptr 4 0 0 0)/\dF A 12 (Z b9)/\dF A 14 (.ptr m 0 0 0)) (λds=>?_) (λds=>?_) ?_
 ·subst ds;have fC:(4=m)=False:=by have:=N.nf;have:=s;simp;intro q;subst q;have E:=N.get;rw[s.get]at E;simp at E
  simp[s.get,N.get];exact⟨⟨_,_,_,_,_,e0.qD N _⟩,GW z N (by intro q;subst q;have E:=N.get;rw[z.get]at E;simp[qR]at E),GW s N (by simpa using fC),_,Ws N _⟩
 ·subst ds;simp;exact⟨⟨_,_,_,_,_,e0⟩,z,s,_,N⟩
 rintro A h ⟨aX,a6,a7,a8,bi,e5,d,l3,l4,eP,F,G,b7,bs,eH,eI⟩;simp[bs,l4.get];have dm:a.kind=3\/a.kind=4->iP a.obj c.cells.length=true:=λq=>by
  rw[b.hc.ce (rh M)];unfold jN at b6;rcases q with q|q<;>simpa[q]using b6
 have dn:a.kind=22\/a.kind=23->iP a.obj c.d8.length=true:=λq=>by
  rw[b.hc.fu (rh M)];unfold jN at b6;rcases q with q|q<;>simpa[q]using b6
 have eN:u.toNat<c.fixed.length:=by rw[b.hc.fx];exact(eQ.1 M).2
 have fv:u.toNat<c.qt.length:=by rw[b.hc.wk];exact(eQ.1 M).2
 have x:=d.get;simp only[wS,aP,bJ]at x;have eV:∀w y:Bool,mK (.bool w) 0 [.bool y]=some (.bool y):=λ_ _=>rfl;have eW:∀w y:Int,mK (Z w) 0 [Z y]=some (Z y):=λ_ _=>rfl;have k:=DV.eq_1 j c u a e.dP e.wc;rw[hr,fo]at k;generalize DV j c u a e.dP e.wc=K at*
 refine kQ (λA h=>J19 K h/\dF A 4 (.ptr 1 0 0 0)/\dF A 6 (.ptr 3 0 0 0)) (λc1=>?_) (λc1=>?_) ?_
 ·have o:a.kind=3:=by simpa using c1
  have⟨w,bT,ec⟩:=iD (dm (.inl o));have v:=eQ.1 (dm (.inl o));have⟨q,dd,eb,de,eh,bN,X,z,s⟩:=(d.gr 4 rfl).B0 (te:=Fk) rfl (i:=a.obj.toNat) (by simpa using v.2);have⟨eS,eB,e4,eC,e6,aE,aN,I,O⟩:=(d.gr 7 rfl).B0 (te:=Xh) rfl (i:=u.toNat) (by simpa using eN);have ef:c.cells[a.obj.toNat]'v.2=w:=by rw[az v.2]at bT;simpa using bT
  simp[ef]at s O;simp[o,Mx ec]at k;have⟨C,B⟩:=d.elem 7 rfl aE I u.toNat (.bool (w.known&&decide (w.value=a.value)));simp[F,G,b7,bs,x,l4.get,em v.1,X,z,s,bn,aN,I,O,eV];exact⟨_,_,_,_,_,_,by rw[k];simpa[wS,bA]using B,l3.step C⟩
 have fY:¬a.kind=3:=by simpa using c1
 simp;refine ee (λcL=>?_) (λcL=>?_)
 ·have o:a.kind=23:=by simpa using cL
  have⟨w,bT,ec⟩:=iD (dn (.inr o));have v:=eQ.1 (dn (.inr o));have⟨q,dd,eb,de,eh,bN,X,z,s⟩:=(d.gr 5 rfl).B0 (te:=Fk) rfl (i:=a.obj.toNat) (by simpa using v.2);have⟨eS,eB,e4,eC,e6,aE,aN,I,O⟩:=(d.gr 7 rfl).B0 (te:=Xh) rfl (i:=u.toNat) (by simpa using eN);have ef:c.d8[a.obj.toNat]'v.2=w:=by rw[az v.2]at bT;simpa using bT
  simp[ef]at s O;simp[o,Mx ec]at k;have⟨C,B⟩:=d.elem 7 rfl aE I u.toNat (.bool (w.known&&decide (w.value=a.value)));simp[F,G,b7,bs,x,l4.get,em v.1,X,z,s,bn,aN,I,O,eV];exact⟨_,_,_,_,_,_,by rw[k];simpa[wS,bA]using B,l3.step C⟩
 have fX:¬a.kind=23:=by simpa using cL
 simp;refine ee (λc4=>?_) (λc4=>?_)
 ·have o:a.kind=4:=by simpa using c4
  have v:=eQ.1 (dm (.inr o));have⟨q,dd,eb,de,eh,bN,X,z,s⟩:=(d.gr 4 rfl).B0 (te:=Fk) rfl (i:=a.obj.toNat) (by simpa using v.2);simp at s;simp[o]at k;have⟨C,B⟩:=d.elem 4 rfl bN z a.obj.toNat (cont di a.value).t;simp[F,G,bs,eI,x,l4.get,eP.get,em v.1,X,z,s];exact⟨_,_,_,_,_,_,by rw[k];simpa[wS,bA]using B,l3.step C⟩
 have gd:¬a.kind=4:=by simpa using c4
 simp;refine ee (λcy=>?_) (λcy=>?_)
 ·have o:a.kind=22:=by simpa using cy
  have v:=eQ.1 (dn (.inl o));have⟨q,dd,eb,de,eh,bN,X,z,s⟩:=(d.gr 5 rfl).B0 (te:=Fk) rfl (i:=a.obj.toNat) (by simpa using v.2);simp at s;simp[o]at k;have⟨C,B⟩:=d.elem 5 rfl bN z a.obj.toNat (cont di a.value).t;simp[F,G,bs,eI,x,l4.get,eP.get,em v.1,X,z,s];exact⟨_,_,_,_,_,_,by rw[k];simpa[wS,bA]using B,l3.step C⟩
 have fS:¬a.kind=22:=by simpa using cy
 have⟨eS,eB,e4,eC,e6,aE,aN,I,O⟩:=(d.gr 8 rfl).B0 (te:=Ev) rfl (i:=u.toNat) (by simpa using fv);simp at O;simp;refine ee (λcb=>?_) (λcb=>?_)
 ·have o:a.kind=18:=by simpa using cb
  simp[o]at k;simp[eH];refine ee (λc6=>?_) (λc6=>?_)
  ·have c7:0<=b9:=by simpa using c6
   rw[aq c7]at k;have⟨C,B⟩:=d.elem 8 rfl aE I u.toNat (Z 1);simp[F,G,b7,x,bn,aN,I,O,eW];exact⟨_,_,_,_,_,_,by rw[k];simpa[wS,bA]using B,l3.step C⟩
  ·have c7:¬0<=b9:=by simpa using c6
   rw[ao c7]at k;simp[F,G];exact⟨_,_,_,_,_,_,by rw[k];exact d,l3⟩
 have fE:¬a.kind=18:=by simpa using cb
 simp;refine ee (λcp=>?_) (λcp=>?_)
 ·have o:a.kind=19:=by simpa using cp
  simp[o]at k;have⟨C,B⟩:=d.elem 8 rfl aE I u.toNat (Z b9);simp[F,G,b7,eH,x,bn,aN,I,O,eW];exact⟨_,_,_,_,_,_,by rw[k];simpa[wS,bA]using B,l3.step C⟩
 ·have fL:¬a.kind=19:=by simpa using cp
  simp[fY,fX,gd,fS,fE,fL]at k;simp[F,G];exact⟨_,_,_,_,_,_,by rw[k];exact d,l3⟩
 rintro A h ⟨⟨ver,aX,a6,a7,a8,bi,d,l3⟩,F,G⟩;have x:=d.get;simp only[wS,aP,bJ]at x;have eO:=l3.get;unfold qR at eO;have bS:=d.qD l3 (dE 9 1 [.agg [sl (K.fj.ei.map dU.t),Z K.fj.tx,sl (K.fj.done.map T.bool),sl (K.fj.dH.map dM.t),aX,a6,a7,a8,bi]]);have e8:=(dN l3.get (dE 9 1 [.agg [sl (K.fj.ei.map dU.t),Z K.fj.tx,sl (K.fj.done.map T.bool),sl (K.fj.dH.map dM.t),aX,a6,a7,a8,bi]]) 3).trans (aq rfl);have gw:=(bS.gr 4 rfl).fz dy;have gy:=(bS.gr 5 rfl).fz dy;have gz:=(bS.gr 6 rfl).fz dy;have gB:=(bS.gr 7 rfl).fz dy;have gD:=(bS.gr 8 rfl).fz dy;simp[F,G,x,eO,dX,e8,gw,gy,gz,gB,gD,d.ok.hp]
def U8{d:fy}(ht:d.p 24=some xj)(b:dR)(a:eK)(c:gF)(e:t8 b a):rl prog cx d 24 [b.t,a.t,c.t]=some (.tuple [(uU b a c).1.t,.bool (uU b a c).2]):=gu ht Qw (b,a,c) e
def HB{b:dR}{c:eK}{d:Int}(a:ju b c d=true):iP (jl b c d) b.dJ.length=true:=by
 refine uB λe=>?_;unfold ju at a;rw[aq e]at a;simp at a
def Fi{b:dR}{a:eK}{c:Int}(d:t8 b a)(e:ju b a c=true):(ow b a c).length<=5:=by
 have:=(d.l (rh (HB e))).2.2;unfold ow;split
 ·have:=Fj (lq b.dJ (jl b a c)).obj a.fj.dH 0;omega
 ·simp
def Ea(c:dR)(b:eK)(a:Nat):nd c b (a+1)=nd c b a++(if ju c b a=true then(ow c b a).map λd=>(⟨a,d⟩:gF)else []):=by
 unfold nd;rw[List.range_succ,List.flatMap_append];simp
def Gf{c:dR}{b:eK}(d:t8 c b):∀a,(nd c b a).length<=5*a:=by
 intro a;induction a with
 |zero=>simp[nd]
 |succ a f=>
  rw[Ea,aS];split
  ·rename_i e;have:=Fi d e;rw[aG];omega
  ·simp;omega
def Ge{w:dR}{c:eK}{n:Nat}{ch:gF}(a:ch∈nd w c n):ju w c ch.dP=true:=by
 unfold nd at a;rw[cD]at a;obtain⟨e,_,a⟩:=a;split at a
 ·rename_i b;obtain⟨d,_,rfl⟩:=List.mem_map.1 a;exact b
 ·simp at a
structure M7(w:dR)(c:eK)(P L:List gF)(pv lv:T)(h:H):Prop where
 ok:hU 3 h
 b0:h.get 0=some (dE 15 0 [w.t])
 b1:h.get 1=some qR
 b2:∃ver,h.get 2=some (dE 9 ver [c.t])
 gp:Gr h pv 2 (P.map gF.t)
 gl:Gr h lv 2 (L.map gF.t)
 dp:∀b,dS pv=some b->3<=b/\dS lv≠some b
 dl:∀b,dS lv=some b->3<=b
def M7.agu{n:dR}{j:eK}{i d:List gF}{m k l:T}{g h:H}{o:gF}(b:M7 n j i d m k g)(p:Xt g k 2 ((d++[o]).map gF.t) l h):M7 n j i (d++[o]) m l h:=by
 obtain⟨a1,a2,a3,a4⟩:=p;have u:=b.ok.sz;have e:∀a,a<3->h.get a=g.get a:=λa c=>a2 a J λq=>by have:=b.dl a q;omega
 have⟨s,r⟩:=b.b2;refine⟨⟨a4.hp,a4.low,by have:=a4.sz;omega⟩,(e 0 J).trans b.b0,(e 1 J).trans b.b1,⟨s,(e 2 J).trans r⟩,b.gp.mono λa c=>?_,a1,λa c=>⟨(b.dp a c).1,λq=>?_⟩,λa c=>?_⟩
 ·have⟨_,_,_,_,f,_⟩:=b.gp.box c;exact a2 a (H.fa f) (b.dp a c).2
 ·have⟨_,_,_,_,f,_⟩:=b.gp.box c;rcases a3 a q with q|q
  ·exact(b.dp a c).2 q
  ·have:=H.fa f;omega
 ·rcases a3 a c with q|q
  ·exact b.dl a q
  ·omega
def M7.agt{k:dR}{h:eK}{d m:List gF}{i p j:T}{f g:H}{l:gF}(b:M7 k h d m i p f)(n:Xt f i 2 ((d++[l]).map gF.t) j g):M7 k h (d++[l]) [] j dD g:=by
 obtain⟨a1,a2,a3,a4⟩:=n;have s:=b.ok.sz;have e:∀a,a<3->g.get a=f.get a:=λa c=>a2 a J λq=>by have:=(b.dp a q).1;omega
 have⟨r,o⟩:=b.b2;refine⟨⟨a4.hp,a4.low,by have:=a4.sz;omega⟩,(e 0 J).trans b.b0,(e 1 J).trans b.b1,⟨r,(e 2 J).trans o⟩,a1,Gr.nil _ _,λa c=>⟨?_,dy⟩,λa c=>by simp at c⟩;rcases a3 a c with q|q
 ·exact(b.dp a q).1
 ·omega
def M7.afq{l:dR}{m c':eK}{h g:List gF}{k j:T}{d:H}(b:M7 l m h g k j d)(f:Nat):M7 l c' h g k j (dY d 2 (dE 9 f [c'.t])):=by
 have⟨n,i⟩:=b.b2;have e:∀a,a≠2->(dY d 2 (dE 9 f [c'.t])).get a=d.get a:=λa c=>by rw[dN i,ao c]
 exact⟨b.ok.put _ _,(e 0 J).trans b.b0,(e 1 J).trans b.b1,⟨f,by rw[dN i,aq rfl]⟩,b.gp.mono λa c=>e a (by have:=(b.dp a c).1;omega),b.gl.mono λa c=>e a (by have:=b.dl a c;omega),b.dp,b.dl⟩
def M7.fin{k:dR}{h:eK}{d f:List gF}{e j:T}{b:H}(a:M7 k h d f e j b)(c:iX):(dY b 1 c).get 1=some c/\TI.qP (dY b 1 c) e=some (sl (d.map gF.t)):=
 ⟨by rw[dN a.b1,aq rfl],(a.gp.mono λg i=>by rw[dN a.b1,ao (by have:=(a.dp g i).1;omega)]).qP dy⟩
def Ft:fP:=⟨dR×List Int,λa=>[a.1.t,sl (gG a.2)],λa=>kl a.1/\a.2.length<=40/\∀c∈a.2,0<=c/\c<=255,λa=> .tuple [sl ((oZ a.1 a.2 [] (lU a.1)).1.map gF.t),(oZ a.1 a.2 [] (lU a.1)).2.t],λa d b=>by simp at b;rw[show a=d from aC (dR.inj b.1) (jz dy b.2)]⟩
def XL:Ft.Ok prog cx 7:=by
 refine fM [(21,wu),(22,oI),(23,CW),(24,xj)] (iQ 36965550156818169847 [] func7) (λ_=>1000) (by simp[Ft]) ?_;rintro⟨c,s⟩ ⟨F,hl,W⟩ a S;simp only at F hl W;simp[Ft]at S|-;obtain⟨ap,e⟩:=S;have bX:=(lx F.wb).2.2.2.2.2;simp[f7,ap,Sj,F];refine fk s.length J (λi a u=>∃d z B,xc (1000+i) c d/\z.length<=i/\M7 c d z [] B dD u/\oZ c (s.drop i) z d=oZ c s [] (lU c)/\dF a 1 (sl (gG s))/\dF a 2 (.ptr 0 0 0 0)/\dF a 5 (.ptr 1 0 0 0)/\dF a 6 (.ptr 2 0 0 0)/\dF a 7 B/\dF a 8 (Z i)) ?_ ?_ J ?_
 ·rintro i a u I aE ⟨d,z,B,M,aA,b,v,e,j,o,h,p,r⟩;simp[e,r,I];have D:t8 c d:=⟨F,M.up J⟩;have a7:=W s[i] (aD I);refine fk c.ez.dH.length J (λm a u=>∃y,M7 c d z (nd c d m) B y u/\dF a 1 (sl (gG s))/\dF a 2 (.ptr 0 0 0 0)/\dF a 5 (.ptr 1 0 0 0)/\dF a 6 (.ptr 2 0 0 0)/\dF a 7 B/\dF a 8 (Z i)/\dF a 9 y/\dF a 10 (Z m)) ?_ ?_ J ⟨_,b,by simp[e,j,o,h,p,r]⟩
  ·rintro m a u bi X ⟨y,b,e,j,o,h,p,r,x,w⟩;have⟨Q,C⟩:=b.b2;have H:=Ea c d m;have aN:=Gf D m;simp[j,h,w,bi,b.b0,C,vz,D];refine ee (λA=>?_) (λA=>?_)
   ·rw[ao (by simpa using A),bP]at H;simp[e,j,o,h,p,r,x,w,X,H,b]
   have T:ju c d m=true:=by simpa using A
   rw[aq T]at H;have b6:=Fi D T;simp[j,h,w,b.b0,C,YV,D];refine fk (ow c d m).length J (λL a u=>∃y,M7 c d z (nd c d m++((ow c d m).take L).map λk=>(⟨m,k⟩:gF)) B y u/\dF a 1 (sl (gG s))/\dF a 2 (.ptr 0 0 0 0)/\dF a 5 (.ptr 1 0 0 0)/\dF a 6 (.ptr 2 0 0 0)/\dF a 7 B/\dF a 8 (Z i)/\dF a 9 y/\dF a 10 (Z m)/\dF a 11 (sl (gG (ow c d m)))/\dF a 12 (Z L)) ?_ ?_ J ⟨_,by simpa using b,by simp[e,j,o,h,p,r,x,w]⟩
   ·rintro L a u U aX ⟨y,b,e,j,o,h,p,r,x,w,N,O⟩;have⟨ca,an,G,R⟩:=b.gl.lP (cx:=cx) (f:=gF.t) (b.ok.Xa (aw _)) Lq rfl Lp rfl dy (λ_=>rfl) (⟨m,(ow c d m)[L]⟩:gF) dz;simp[e,j,o,h,p,r,x,w,N,O,U,G,aX];have:=b.agu R;rw[aZ]at this;rw[aR U,List.map_append];exact this
   ·rintro a u ⟨y,b,e,j,o,h,p,r,x,w,N,O⟩;rw[aK,<-H]at b;simp[e,j,o,h,p,r,x,w,N,O,X,b]
  ·rintro a u ⟨y,b,e,j,o,h,p,r,x,w⟩;have aN:=Gf D c.ez.dH.length;rw[aH I]at v;simp only[oZ]at v;generalize av:nd c d c.ez.dH.length=g at*
   have P:=λe=>b.gl.len (cx:=cx) e Xf _ rfl;simp at P;have⟨Q,C⟩:=b.b2;have E:=b.b1;unfold qR at E;simp[j,x,w,P,b.b0];refine ee (λA=>?_) (λA=>?_)
   ·rw[aq (by simpa using A)]at v;simp[o,h,p,C,E,(b.fin _).1,(b.fin _).2,b.ok.hp];rw[<-v];exact⟨rfl,rfl⟩
   rw[ao (by simpa using A)]at v;have bT:0<g.length:=List.length_pos_iff.2 (by simpa using A);have⟨l,V,K⟩:∃l:Nat,(s[i]% (g.length:Int))=l/\l<g.length:=⟨(s[i]% (g.length:Int)).toNat,by have:=Int.emod_nonneg s[i] (show(g.length:Int)≠0 by omega);omega,by have:=Int.emod_nonneg s[i] (show(g.length:Int)≠0 by omega);have:=Int.emod_lt_of_pos s[i] (show(0:Int)<g.length by omega);omega⟩;have a8:binop .rem (Z s[i]) (Z (g.length:Int))=some (Z (l:Int)):=by
    rw[BY J,Int.tmod_eq_emod_of_nonneg a7.1,V]
   rw[V,cz,show g.getD l default=g[l]by simp[List.getD,K]]at v;have a6:ju c d g[l].dP=true:=Ge (n:=c.ez.dH.length) (by rw[av];exact aD K);have al:=M.step g[l] a6;have⟨q,bC,cp,bN,cL,b9,bn,bs,Y⟩:=b.gl.B0 (te:=TK) rfl (i:=l) (by simpa using K);have r2:=b.afq (c':=(uU c d g[l]).1) (Q+1);have⟨b8,bH,cy,bS,c1,cb,bu,bB,ae⟩:=r2.gl.B0 (te:=TK) rfl (i:=l) (by simpa using K);have⟨b7,an,G,R⟩:=r2.gp.lP (cx:=cx) (f:=gF.t) (r2.ok.Xa (aw _)) Lq rfl Lp rfl dy (λ_=>rfl) g[l] dz;simp at Y ae G;simp[e,j,o,h,p,r,x,P,I,a8,show decide ((l:Int)<0)=false by simp,b.b0,C,bn,bs,Y,U8,D,bu,bB,ae,G,aE];exact⟨_,al,z++[g[l]],dz,r2.agt R,v⟩
 ·rintro a u ⟨d,z,B,M,aA,b,v,e,j,o,h,p,r⟩;rw[bO]at v;simp only[oZ]at v;have⟨Q,C⟩:=b.b2;have E:=b.b1;unfold qR at E;simp[e,o,h,p,r,C,E,(b.fin _).1,(b.fin _).2,b.ok.hp];rw[<-v];exact⟨rfl,rfl⟩
 ·exact⟨_,_,_,xc.start F,au _,⟨⟨dy,dy,dy⟩,dy,by simp[qR],⟨1,dy⟩,Gr.nil _ _,Gr.nil _ _,dy,dy⟩,rfl,by simp[e]⟩
def adh{d:fy}(ht:d.p 7=some Ft)(a:dR)(b:List Int)(f:kl a)(hl:b.length<=40)(e:∀c∈b,0<=c/\c<=255):rl prog cx d 7 [a.t,sl (gG b)]=some (.tuple [sl ((oZ a b [] (lU a)).1.map gF.t),(oZ a b [] (lU a)).2.t]):=gu ht XL (a,b) ⟨f,hl,e⟩
def o7{a b:Nat}(c:a<b)(d:b<=16):binop .add (Z (a:Int)) (Z 1)=some (Z ((a:Int)+1)):=iz J J 
def Gr.age{a:H}{h:Nat->Prop}{g:T}{j c:Nat}{d e:List T}(f:Gr a g j d)(i:c<=11)(b:iF (FT a h c) d e):TI.qP a g=some (sl e):=by
 have:=f.Jl i b;rcases f with⟨rfl,rfl⟩|⟨k,l,p,m,q,rfl,n,o⟩
 ·cases b;rfl
 ·rwa[UC]
def acN{b:dR}{a:Nat}(c:a<b.dJ.length):b.gx.e (a:Int)=b.dJ[a]:=by
 unfold GX.e lq uR dR.gx;simp[c]
def CA.nb{l:dR}{i j:H}{k:T}{f:List T}{h:List im}(b:CA l i k f h)(c:Nb i j):CA l j k f h:=by
 have o:=b.ok.sz;have p:=c.ok.sz;exact⟨b.g.mono λe d=>by have⟨_,_,_,_,n,_⟩:=b.g.box d;exact c.get e (H.fa n),b.a.imp λ_ _ m=>m.mono λe d=>⟨⟨d.1,J,d.2.2⟩,c.get e d.2.1⟩,⟨c.ok.hp,c.ok.low,J⟩,(c.get 0 J).trans b.b0,b.v0⟩
def h1E:H:=hE.cons (dE 0 0 [])
def gcT(a:T):T:= .agg [Z 2,Z 0,Z 0,Z 0,Z 0,a]
def CA.Ga{j:dR}{f b:H}{g i a:T}{e:List T}{h:List im}{c:List Int}(o:CA j f g e h)(p:JT h1E f g a c)(k:Xt f g 6 (e++[gcT a]) i b):CA j b i (e++[gcT a]) (h++[gC c]):=by
 refine o.step k (.cons (.inr (.inr ⟨_,_,rfl,.cons (fV ..) (.cons (fV ..) (.cons (fV ..) (.cons (fV ..) (.cons (fV ..) (.cons (?_:FT b _ 3 a (sl (A1 c))) .nil))))),rfl⟩)) .nil);have r2:=p.xt k;exact(show pK b 1 a (A1 c)from .inr r2.1).ft (d:=1) (λr n=>by obtain⟨q,_,rfl⟩:=List.mem_map.1 n;simp) λl m=>r2.2 l m
def QO:xn.Ok prog cx 6:=by
 refine yW (tb:=⟨pt [(20,C5)],ht [(18,jI IPt V8 GE),(19,jI Zm (λI m s=>PY I m s/\5-I.p.length<6) Ky)]⟩) iL iB (iQ 43282986612756070113897410875122319359 [] func6) (λ_=>10000) (by simp[xn]) nl9 ?_;rintro(b:dR) O c bN;replace O:kl b:=O;simp[xn]at bN|-;have V:=O.ok.len;have⟨n,dm⟩:∃n,n=b.dJ.length:=⟨_,rfl⟩;have an:b.gx.mO=((jF 0 n).flatMap λ(m:Nat)=>(jF 0 n).flatMap λ(d:Nat)=>kr b.gx.vR (gR m d))++(((jF 0 n).flatMap λ(m:Nat)=>(b.gx.Bf m).map gC)++(((jF 0 n).flatMap λ(m:Nat)=>(jF 0 n).flatMap λ(d:Nat)=>kr b.gx.vR (gL m d))++
  ((jF 0 n).flatMap λ(m:Nat)=>(jF (m+1) n).flatMap λ(d:Nat)=>if(b.gx.e m).dP=(b.gx.e d).dP/\m6 (b.gx.e m)=true/\m6 (b.gx.e d)=true then(jF 0 n).flatMap λ(o:Nat)=>(jF o n).flatMap λ(z:Nat)=>kr b.gx.vR (gA m d o z)else []))):=by
  unfold GX.mO;rw[show b.gx.n=n from dm.symm,J9];simp only[aZ]
 generalize c4:((jF 0 n).flatMap λ(m:Nat)=>(jF (m+1) n).flatMap λ(d:Nat)=>if(b.gx.e m).dP=(b.gx.e d).dP/\m6 (b.gx.e m)=true/\m6 (b.gx.e d)=true then(jF 0 n).flatMap λ(o:Nat)=>(jF o n).flatMap λ(z:Nat)=>kr b.gx.vR (gA m d o z)else [])=aX at an;generalize c1:((jF 0 n).flatMap λ(m:Nat)=>(jF 0 n).flatMap λ(d:Nat)=>kr b.gx.vR (gL m d))++aX=aN at an;generalize cL:((jF 0 n).flatMap λ(m:Nat)=>(b.gx.Bf m).map gC)++aN=bs at an;have dk:(b.dJ.length:Int)=n:=J;simp[f6,bN,dk];refine rO n (λk c s=>∃h l j,CA b s h l j/\j++(((jF k n).flatMap λ(m:Nat)=>(jF 0 n).flatMap λ(d:Nat)=>kr b.gx.vR (gR m d))++bs)=b.gx.mO/\dF c 1 (.ptr 0 0 0 0)/\dF c 3 h/\dF c 4 (Z n)/\dF c 5 (Z k)) ?_ J (k:=0) J ?_
 ·rintro k c s a8 ⟨h,l,j,i,f,u,w,q,t⟩;by_cases A:k<n
  ·have K:=o7 A J;rw[nH A,br,aZ]at f;simp[q,t,A];refine rO n (λv c s=>∃h l j,CA b s h l j/\j++(((jF v n).flatMap λ(d:Nat)=>kr b.gx.vR (gR k d))++(((jF (k+1) n).flatMap λ(m:Nat)=>(jF 0 n).flatMap λ(d:Nat)=>kr b.gx.vR (gR m d))++bs))=b.gx.mO/\dF c 1 (.ptr 0 0 0 0)/\dF c 3 h/\dF c 4 (Z n)/\dF c 5 (Z k)/\dF c 6 (Z v)) ?_ J (k:=0) J ⟨h,l,j,i,f,by simp[u,w,q,t]⟩;rintro v c s bT ⟨h,l,j,i,f,u,w,q,t,B⟩;have U:=i.len V f;by_cases C:v<n
   ·have T:=o7 C J;rw[nH C,br,aZ,<-aZ]at f;simp[u,w,q,t,B,C,i.b0];refine iy GM dy ⟨b,gR k v,h,l⟩ ⟨rfl,i.g,⟨i.ok.hp,i.ok.low,aw _⟩,O,U,rfl⟩ ?_;rintro r G x;have⟨Ey,F⟩:=i.put rfl x;simp[u,q,t,B,T];exact⟨v+1,J,J,r,Ey,_,F,f,rfl,dy⟩
   ·rw[o6 (show n<=v by omega)]at f;simp[u,w,q,t,B,C,K];exact⟨k+1,J,J,h,l,j,i,f,rfl,dy⟩
  ·rw[o6 (show n<=k by omega)]at f;simp[q,t,A];clear A t;rw[<-cL]at f;refine rO n (λk c s=>∃h l j,CA b s h l j/\j++(((jF k n).flatMap λ(m:Nat)=>(b.gx.Bf m).map gC)++aN)=b.gx.mO/\dF c 1 (.ptr 0 0 0 0)/\dF c 3 h/\dF c 4 (Z n)/\dF c 7 (Z k)) ?_ J (k:=0) J ⟨h,l,j,i,by simpa using f,by simp[u,w,q]⟩;rintro k c s a8 ⟨h,l,j,i,f,u,w,q,t⟩;by_cases A:k<n
   ·have K:=o7 A J;rw[nH A,br,aZ]at f;simp[u,q,t,A,i.b0];have er:=i.ok.sz;have b8:=i.ok.cons (dE 1 0 [Z k]);refine iy (ab3 6) dy ⟨b,[(k:Int)],.arr s.size 0 0 1 false,dD,[]⟩ ⟨⟨rfl,.inr ⟨s.size,0,0,true,[Z k],rfl,dy,rfl⟩,Gr.nil _ _,λd D=>by simp,⟨b8.hp,b8.low,aw _⟩,O,dy,dy,λy Y=>?_,?_⟩,dy⟩ ?_
    ·rw[List.mem_singleton.1 Y];exact eQ.2 ⟨J,dA⟩
    ·have:=HD (n:=b.gx.ev.length) V (ok:=λp=>b.gx.vR (gC p)) (go:=λp v=> !decide (v∈p)&&b.gx.nW v (pO p)) 3 [(k:Int)];exact aO (Nat.add_le_add_left (show _<=4913 from this) 0) J
    rintro P G ⟨S,x,X⟩;replace X:iF (JT (s.cons (dE 1 0 [Z k])) G P) S (b.gx.Bf k):=X;have eh:(b.gx.Bf k).length<=4913:=HD (show b.gx.ev.length<=16 from V) 3 _;generalize b.gx.Bf k=R at*
    have ca:=x.2.2.2.sz;simp at ca;have b7:Nb s G:=⟨⟨x.2.2.2.hp,x.2.2.2.low,J⟩,λo ap=>(x.2.1 o dz dy).trans (by rw[dT,ao J])⟩;have F:=i.nb b7;have bn:∀d,dS h=some d->d<s.size:=λd D=>by have⟨_,_,_,_,Y,_⟩:=i.g.box D;exact H.fa Y
    have b6:S.length=R.length:=X.length;have W:iF (JT h1E G h) S R:=X.imp λe E y=>⟨y.1,λo ap=>⟨by have:=(y.2 o ap).1;simp at this;show 1<=o;omega,(y.2 o ap).2.1,λbi=>by have:=(y.2 o ap).1;have:=bn o bi;simp at*;omega⟩⟩;simp;have Q:Gr G P 1 S:=x.1;have L:∀d,dS P=some d->d<G.size/\dS h≠some d:=λd D=>⟨by have⟨_,_,_,_,Y,_⟩:=x.1.box D;exact H.fa Y,λbi=>(x.2.2.1 d D).elim dy (λE=>by have:=bn d bi;simp at E;omega)⟩;clear x X i b7 bn ca;refine fk R.length J (λI c s=>∃h l j,CA b s h l j/\j++((R.drop I).map gC++(((jF (k+1) n).flatMap λ(m:Nat)=>(b.gx.Bf m).map gC)++aN))=b.gx.mO/\Gr s P 1 S/\(∀d,dS P=some d->d<s.size/\dS h≠some d)/\iF (JT h1E s h) S R/\dF c 1 (.ptr 0 0 0 0)/\dF c 3 h/\dF c 4 (Z n)/\dF c 7 (Z k)/\dF c 8 P/\dF c 9 (Z I)) ?_ ?_ J ⟨h,l,j,F,f,Q,L,W,by simp[u,w,q,t]⟩
    ·rintro I c s a7 de ⟨h,l,j,i,f,Q,L,W,u,w,q,t,N,a6⟩;have U:=i.len V f;rw[aH a7,aP,cE,<-List.singleton_append,<-aZ]at f;have⟨e,di,aE⟩:=W.get (k:=I) (y:=R[I]) (az a7);have ae:=λu:H=>Q.len (cx:=cx) u Kc _ rfl;rw[b6]at ae;have⟨b9,cp,cy⟩:=(show pK s 1 P S from .inr Q).idx (te:=pS) rfl rfl di aE.1.cells;have dn:hU 0 s:=⟨i.ok.hp,i.ok.low,aw _⟩;have⟨ea,G,bC,al⟩:=i.g.yQ (cx:=cx) dn RU rfl RS rfl dy (x:=gcT e) rfl dz;have F:=i.Ga aE al;unfold gcT at bC;have eo:=i.ok.low;simp[u,w,q,t,N,a6,ae,a7,cp,cy,aE.1.ir,aE.1.cells,bC,de];rw[aZ]at f;exact⟨ea,l++[gcT e],j++[gC R[I]],F,by simpa using f,Q.mono λd D=>al.2.1 d (L d D).1 (L d D).2,λd D=>⟨by have:=al.2.2.2.sz;have:=(L d D).1;omega,λE=>(al.2.2.1 d E).elim (L d D).2 (by have:=(L d D).1;omega)⟩,W.imp λ_ _ y=>y.xt al,rfl⟩
    ·rintro c s ⟨h,l,j,i,f,Q,L,W,u,w,q,t,N,a6⟩;have ae:=λu:H=>Q.len (cx:=cx) u Kc _ rfl;rw[b6]at ae;simp[u,w,q,t,N,a6,ae,K];refine⟨k+1,J,J,h,l,j,i,by simpa using f,rfl,dy⟩
   ·rw[o6 (show n<=k by omega)]at f;simp[q,t,A];clear A t;rw[<-c1]at f;refine rO n (λk c s=>∃h l j,CA b s h l j/\j++(((jF k n).flatMap λ(m:Nat)=>(jF 0 n).flatMap λ(d:Nat)=>kr b.gx.vR (gL m d))++aX)=b.gx.mO/\dF c 1 (.ptr 0 0 0 0)/\dF c 3 h/\dF c 4 (Z n)/\dF c 10 (Z k)) ?_ J (k:=0) J ⟨h,l,j,i,by simpa using f,by simp[u,w,q]⟩;rintro k c s a8 ⟨h,l,j,i,f,u,w,q,t⟩;by_cases A:k<n
    ·have K:=o7 A J;rw[nH A,br,aZ]at f;simp[q,t,A];refine rO n (λv c s=>∃h l j,CA b s h l j/\j++(((jF v n).flatMap λ(d:Nat)=>kr b.gx.vR (gL k d))++(((jF (k+1) n).flatMap λ(m:Nat)=>(jF 0 n).flatMap λ(d:Nat)=>kr b.gx.vR (gL m d))++aX))=b.gx.mO/\dF c 1 (.ptr 0 0 0 0)/\dF c 3 h/\dF c 4 (Z n)/\dF c 10 (Z k)/\dF c 11 (Z v)) ?_ J (k:=0) J ⟨h,l,j,i,f,by simp[u,w,q,t]⟩;rintro v c s bT ⟨h,l,j,i,f,u,w,q,t,B⟩;have U:=i.len V f;by_cases C:v<n
     ·have T:=o7 C J;rw[nH C,br,aZ,<-aZ]at f;simp[u,w,q,t,B,C,i.b0];refine iy GM dy ⟨b,gL k v,h,l⟩ ⟨rfl,i.g,⟨i.ok.hp,i.ok.low,aw _⟩,O,U,rfl⟩ ?_;rintro r G x;have⟨Ey,F⟩:=i.put rfl x;simp[u,q,t,B,T];exact⟨v+1,J,J,r,Ey,_,F,f,rfl,dy⟩
     ·rw[o6 (show n<=v by omega)]at f;simp[u,w,q,t,B,C,K];exact⟨k+1,J,J,h,l,j,i,f,rfl,dy⟩
    ·rw[o6 (show n<=k by omega)]at f;simp[q,t,A];clear A t;rw[<-c4]at f;refine rO n (λk c s=>∃h l j,CA b s h l j/\j++((jF k n).flatMap λ(m:Nat)=>(jF (m+1) n).flatMap λ(d:Nat)=>if(b.gx.e m).dP=(b.gx.e d).dP/\m6 (b.gx.e m)=true/\m6 (b.gx.e d)=true then(jF 0 n).flatMap λ(o:Nat)=>(jF o n).flatMap λ(z:Nat)=>kr b.gx.vR (gA m d o z)else [])=b.gx.mO/\dF c 1 (.ptr 0 0 0 0)/\dF c 3 h/\dF c 4 (Z n)/\dF c 12 (Z k)) ?_ J (k:=0) J ⟨h,l,j,i,by simpa using f,by simp[u,w,q]⟩;rintro k c s a8 ⟨h,l,j,i,f,u,w,q,t⟩;by_cases A:k<n
     ·have K:=o7 A J;rw[nH A,br]at f;simp[q,t,A,K];generalize c7:((jF (k+1) n).flatMap λ(m:Nat)=>(jF (m+1) n).flatMap λ(d:Nat)=>if(b.gx.e m).dP=(b.gx.e d).dP/\m6 (b.gx.e m)=true/\m6 (b.gx.e d)=true then(jF 0 n).flatMap λ(o:Nat)=>(jF o n).flatMap λ(z:Nat)=>kr b.gx.vR (gA m d o z)else [])=bB at f;refine rO n (λv c s=>k<v/\∃h l j,CA b s h l j/\j++(((jF v n).flatMap λ(d:Nat)=>if(b.gx.e k).dP=(b.gx.e d).dP/\m6 (b.gx.e k)=true/\m6 (b.gx.e d)=true then(jF 0 n).flatMap λ(o:Nat)=>(jF o n).flatMap λ(z:Nat)=>kr b.gx.vR (gA k d o z)else [])++bB)=b.gx.mO/\dF c 1 (.ptr 0 0 0 0)/\dF c 3 h/\dF c 4 (Z n)/\dF c 12 (Z k)/\dF c 13 (Z v)) ?_ J (k:=k+1) J ⟨J,h,l,j,i,f,by simp[u,w,q,t]⟩;rintro v c s bT ⟨ef,h,l,j,i,f,u,w,q,t,B⟩;by_cases C:v<n
      ·have T:=o7 C J;have bX:k<b.dJ.length:=J;have bS:v<b.dJ.length:=J;rw[nH C,br,aZ]at f;generalize bH:((jF (v+1) n).flatMap λ(d:Nat)=>if(b.gx.e k).dP=(b.gx.e d).dP/\m6 (b.gx.e k)=true/\m6 (b.gx.e d)=true then(jF 0 n).flatMap λ(o:Nat)=>(jF o n).flatMap λ(z:Nat)=>kr b.gx.vR (gA k d o z)else [])++bB=bu at f;rw[acN bX,acN bS]at f;simp[u,q,t,B,C,i.b0,bX,bS,HP];refine ee (λE=>?_) (λE=>?_)
       ·rw[ao (by rintro⟨b9,ds,dv⟩;simp[b9,ds,dv]at E)]at f;simp[u,w,q,t,B,T];rw[List.nil_append,<-bH]at f;exact⟨v+1,J,J,J,h,l,j,i,f,rfl,dy⟩
       ·rw[aq (by simp at E;exact⟨E.1.1,E.1.2,E.2⟩)]at f;simp;refine rO n (λo c s=>∃h l j,CA b s h l j/\j++(((jF o n).flatMap λ(o:Nat)=>(jF o n).flatMap λ(z:Nat)=>kr b.gx.vR (gA k v o z))++bu)=b.gx.mO/\dF c 1 (.ptr 0 0 0 0)/\dF c 3 h/\dF c 4 (Z n)/\dF c 12 (Z k)/\dF c 13 (Z v)/\dF c 14 (Z o)) ?_ J (k:=0) J ⟨h,l,j,i,f,by simp[u,w,q,t,B]⟩;rintro o c s eb ⟨h,l,j,i,f,u,w,q,t,B,M⟩;by_cases av:o<n
        ·have c9:=o7 av J;rw[nH av,br,aZ]at f;simp[q,M,av];generalize c6:((jF (o+1) n).flatMap λ(o:Nat)=>(jF o n).flatMap λ(z:Nat)=>kr b.gx.vR (gA k v o z))++bu=cb at f;refine rO n (λz c s=>∃h l j,CA b s h l j/\j++(((jF z n).flatMap λ(z:Nat)=>kr b.gx.vR (gA k v o z))++cb)=b.gx.mO/\dF c 1 (.ptr 0 0 0 0)/\dF c 3 h/\dF c 4 (Z n)/\dF c 12 (Z k)/\dF c 13 (Z v)/\dF c 14 (Z o)/\dF c 15 (Z z)) ?_ J (k:=o) J ⟨h,l,j,i,f,by simp[u,w,q,t,B,M]⟩;rintro z c s ec ⟨h,l,j,i,f,u,w,q,t,B,M,N⟩;have U:=i.len V f;by_cases aA:z<n
         ·have dd:=o7 aA J;rw[nH aA,br,aZ,<-aZ]at f;simp[u,w,q,t,B,M,N,aA,i.b0];refine iy GM dy ⟨b,gA k v o z,h,l⟩ ⟨rfl,i.g,⟨i.ok.hp,i.ok.low,aw _⟩,O,U,rfl⟩ ?_;rintro r G x;have⟨Ey,F⟩:=i.put rfl x;simp[u,q,t,B,M,N,dd];exact⟨z+1,J,J,r,Ey,_,F,f,rfl,dy⟩
         ·rw[o6 (show n<=z by omega)]at f;simp[u,w,q,t,B,M,N,aA,c9];exact⟨o+1,J,J,h,l,j,i,by rw[c6];exact f,rfl,dy⟩
        ·rw[o6 (show n<=o by omega)]at f;simp[u,w,q,t,B,M,av,T];exact⟨v+1,J,J,J,h,l,j,i,by rw[bH];exact f,rfl,dy⟩
      ·rw[o6 (show n<=v by omega)]at f;simp[u,w,q,t,B,C,K];exact⟨k+1,J,J,h,l,j,i,by rw[c7];exact f,rfl,dy⟩
     ·rw[o6 (show n<=k by omega)]at f;simp[w,q,t,A];rw[cK,bP]at f;rw[Le h i.g.ir,Gr.age i.g J i.a,f];exact⟨i.ok.hp,rfl⟩
 ·exact⟨dD,[],[],⟨Gr.nil _ _,.nil,by exact⟨dy,dy,dy⟩,dy,dy⟩,an.symm,dy⟩
end
def Xc{f:GX}{b:im}(a:f.vR b=true):b.iS.length<=4:=by
 unfold GX.vR at a;split at a
 ·unfold GX.dead GX.Ga at a;simp only[ax,aI]at a;exact a.2.1.1.2
 split at a;rotate_left
 ·simp at a
 have e:∀{d:Bool},(decide (b.iS=[])&&d)=true->b.iS.length<=4:=λc=>by
  simp only[ax,aI]at c;rw[c.1];simp
 split at a
 ·simp only[ax,aI]at a;rw[a.1.2];simp
 split at a
 ·simp only[ax,aI]at a;rw[a.1.2];simp
 split at a
 ·exact e a
 ·simp at a
section
attribute [-simp] size_cons
def Fv:fP:=⟨List Int,λa=>[sl (a.map (T.int .u8))],λa=>a.length<=1000000/\∀c∈a,Vd c,λa=>sl (gG a),λd e b=>by simp at b;rw[jz (λ_ _ b=>by simpa using b) b]⟩
def XP:Fv.Ok prog cx 8:=by
 refine fM [] (iQ 285 [] func8) (λ_=>1000005) (by simp[Fv]) ?_;rintro(a:List Int) ⟨hl,p⟩ c n;simp[Fv]at n|-;simp[f8];refine fk a.length J (λb c g=>∃e,Gr g e 1 (gG (a.take b))/\hU 0 g/\dF c 0 (sl (a.map (T.int .u8)))/\dF c 3 e/\dF c 4 (Z b)) ?_ ?_ J ⟨dD,Gr.nil _ _,by exact⟨dy,dy,dy⟩,by simp[n]⟩
 ·rintro b c g k q ⟨e,d,l,h,i,j⟩;have r:=p a[b] (aD k);unfold Vd at r;have⟨t,s,o,m⟩:=d.lP (cx:=cx) (f:=T.int .i64) l jQ rfl mz rfl dy (λ_=>rfl) a[b] dz;simp[h,i,j,k,o,q,show-9223372036854775808<=a[b]by omega,show a[b]<9223372036854775808 by omega];exact⟨by rw[aR k];exact m.1,⟨m.2.2.2.hp,m.2.2.2.low,aw _⟩⟩
 ·rintro c g ⟨e,d,l,h,i,j⟩;rw[aK]at d;simp[h,i,j,l.hp];rw[Le e d.ir,d.qP dy]
def adk{b:fy}(ht:b.p 8=some Fv)(a:List Int)(hl:a.length<=1000000)(c:∀d∈a,Vd d):rl prog cx b 8 [sl (a.map (T.int .u8))]=some (sl (gG a)):=gu ht XP a ⟨hl,c⟩
def Nj{w:dR}:∀(a:List Int) (d:List gF) (c:eK) (b:Nat),xc b w c->xc (b+a.length) w (oZ w a d c).2:=by
 intro a;induction a with
 |nil=>intro d c b e;exact e
 |cons n a i=>
  intro d c b e;simp only[oZ];split
  ·exact e.up J
  ·rename_i g;have l:0<(nd w c w.ez.dH.length).length:=List.length_pos_iff.2 g;have j:=Int.emod_nonneg n (show((nd w c w.ez.dH.length).length:Int)≠0 by omega);have k:=Int.emod_lt_of_pos n (show(0:Int)<(nd w c w.ez.dH.length).length by omega);have f:(n% ((nd w c w.ez.dH.length).length:Int)).toNat<(nd w c w.ez.dH.length).length:=J;have h:=Ge (w:=w) (c:=c) (n:=w.ez.dH.length) (ch:=(nd w c w.ez.dH.length).getD (n% ((nd w c w.ez.dH.length).length:Int)).toNat default) (by
    rw[cS,az f];exact aD f)
   have:=i (d++[(nd w c w.ez.dH.length).getD (n% ((nd w c w.ez.dH.length).length:Int)).toNat default]) _ _ (e.step _ h);exact this.up dz 
def AJ{b:dR}{c:eK}{a:Int}(d:iP a b.dJ.length=true):uW b c a=pi b c a:=by unfold uW;rw[d];rfl
def In{b:dR}{c:eK}{d:im}(e:b.gx.vR d=true):qy b c d=xg b c d:=by
 have h:∀a:Int,decide (a∈c.order)=decide (0<=place c a):=λa=>by unfold place;simp[Dd]
 unfold qy xg;rcases VC e with⟨k,j⟩|⟨k,i,g,m,n⟩
 ·rw[ao J,aq k,ao J,aq k];have:∀a∈d.iS,F9 b c a=tZ b c a:=λa l=>by
   unfold F9 tZ sd;rw[show iP a b.dJ.length=true from j a l];cases decide (jl b c (lq b.dJ a).dP=a)<;>simp
  show d.iS.all (F9 b c)=d.iS.all (tZ b c);rw[bp,bW,bW];exact⟨λe a f=>this a f▸e a f,λe a f=>(this a f).symm▸e a f⟩
 ·rcases k with k|k|k
  ·rw[aq k,aq k,AJ i,AJ g]
  ·rw[ao J,ao J,aq k,ao J,ao J,aq k,h]
  ·rw[ao J,ao J,ao J,aq k,ao J,ao J,ao J,AJ g,h]
def PO:fP:=⟨ng×List Int×Int,λa=>[a.1.t,sl (a.2.1.map (T.int .u8)),.int .u16 a.2.2],λa=>Tb a.1/\(∀b∈a.2.1,Vd b)/\0<=a.2.2/\a.2.2<65536,λ_=> .bool true,λ_ _ _=>rfl⟩
def XS:PO.Ok prog cx 3:=by
 refine fM [(5,Qr.jA),(6,xn),(8,Fv),(7,Ft),(9,uZ),(11,uq),(10,Ks)] (iQ 268455375 [(5,[(0,2),(2,7),(3,7)]),(9,[(3,4),(3,5),(3,6)])] func3) (λS=>1) (by simp[PO]) ?_;rintro⟨Q,d,e⟩ ⟨f,m,x,O⟩ W u;simp only at f m x O;simp[PO]at u|-;obtain⟨A,r,B⟩:=u;obtain⟨_,⟨a,rfl,i⟩,z⟩:=Qr.use Q f;simp[f3,A,r];refine ee (λw=>?_) (λw=>?_)
 ·simp
 have hl:d.length<=40:=by simp at w;omega
 have I:d.length<=1000000:=J;have F:∀l∈d,0<=l/\l<=255:=λl L=>by have:=m l L;unfold Vd at this;omega
 have y:∀{b:fy},b.p 6=some xn->rl prog cx b 6 [a.t]=some (sl (a.gx.mO.map im.t)):=λht=>gu ht QO a i;have o:t8 a (oZ a d [] (lU a)).2:=⟨i,(Nj d [] _ _ (xc.start i)).up J⟩;have N:=λ{b:fy} (ht:b.p 7=some Ft)=>adh ht a d i hl F;generalize(oZ a d [] (lU a)).1=R at*
 generalize(oZ a d [] (lU a)).2=j at*
 have H:∀h∈a.gx.mO,a.gx.vR h=true:=λh n=>GX.KZ n;have E:∀h,a.gx.vR h=true->h∈a.gx.mO:=λh n=>GX.On n;have V:=FX a.gx i.ok.len;generalize a.gx.mO=c at*
 have C:=λ{b:fy} (ht:b.p 8=some Fv)=>adk ht d I m;simp[r,z,y,C,N];refine ee (λq=>?_) (λq=>?_)
 ·have D:c=[]:=by simpa using q
  have G:a.gx.vR ⟨1,0,0,0,0,[]⟩=false:=by
   cases P:a.gx.vR ⟨1,0,0,0,0,[]⟩
   ·rfl
   ·have:=E _ P;rw[D]at this;simp at this
  have k:∀{b:fy},b.p 9=some uZ->rl prog cx b 9 [a.t,j.t,.agg [Z 1,Z 0,Z 0,Z 0,Z 0,.gW]]=some (.bool false):=λht=>by
   have:=MZ ht a j ⟨1,0,0,0,0,[]⟩ o dy;rw[G,Bool.and_false]at this;exact this
  simp[k,SD]
 ·have T:0<c.length:=List.length_pos_iff.2 (by simpa using q);have⟨g,K,v⟩:∃g:Nat,(e% (c.length:Int))=g/\g<c.length:=⟨(e% (c.length:Int)).toNat,by have:=Int.emod_nonneg e (show(c.length:Int)≠0 by omega);omega,by have:=Int.emod_nonneg e (show(c.length:Int)≠0 by omega);have:=Int.emod_lt_of_pos e (show(0:Int)<c.length by omega);omega⟩;have M:binop .rem (Z e) (Z (c.length:Int))=some (Z (g:Int)):=by
   rw[BY J,Int.tmod_eq_emod_of_nonneg x,K]
  have f:=H c[g] (aD v);have U:=Xc f;have k:=λ{b:fy} (ht:b.p 9=some uZ)=>MZ ht a j c[g] o J;have s:=λ{b:fy} (ht:b.p 11=some uq)=>Sz ht a j c[g] o J;rw[f,Bool.and_true,In f]at k;rw[f,aU]at s;simp[B,show-9223372036854775808<=e by omega,show e<9223372036854775808 by omega,M,v,k,s,SD]
