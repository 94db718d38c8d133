/- X12 -/
import Derived.Test.YtalknpnbaceflaaGreatDoorA17
set_option linter.all false
set_option maxRecDepth 100000
set_option maxHeartbeats 0
namespace Go.Proofs.YtalknpnbaceflaaGreatDoor
noncomputable section
open Go Go.TI Tryz
attribute [-simp] List.map_take List.map_drop List.map_append ij gG fK Bool.not_or Bool.not_and
attribute [simp] ig gJ
section
attribute [-simp] size_cons
def J6.fits{a:gH}(h:J6 a):oc kj a=true:=by
 have⟨b,c,d,e,f,g⟩:=h.n;unfold oc mK;rw[b,c,d,e,f,g];decide
def J6.sm{d:gH}(b:J6 d):u5 1000 d:=by
 have⟨g,h,i,j,k,l⟩:=b.n;refine⟨B,λa hl=>by have:=(b.r a hl).1;omega,λa hl=>?_,λe f=>by have:=b.c e f;omega⟩;have:=(b.r a hl).1
 match hr:a.fO with
 | []=>exact List.Pairwise.nil
 | [x]=>exact List.pairwise_singleton _ _
 |x::o::m=>rw[hr]at this;simp at this
def J6.ask{c:gH}(b:J6 c){a:List fR}(hl:a.length<=16)(d:NK a)(e:Int):agj ⟨kj,e,c,a⟩:=by
 have⟨f,g,h,i,j,k⟩:=b.n;exact⟨dS,dS,dS,dS,dS,dS,λa hl=>by have:=(b.r a hl).1;omega,b.sm,ML,d⟩
def J6.win{c:gH}(d:J6 c){b:List fR}(hl:b.length<=16)(f:NK b)(hr:runs kj c b=true)(g:Int)(e:wt kj c.gu):lj ⟨kj,g,c,b⟩:=
 ⟨⟨hl,(by decide:kj.ee.length<=4),hr,d.sm.a⟩,ML,d.sm,f,λb hl=>(d.r b hl).2,e⟩
def Z0(b:Int):lj ⟨kj,b,kA kj,[]⟩:=
 ⟨⟨G,(by decide:kj.ee.length<=4),rfl,vj _⟩,ML,(xd kj dT).up B,λc a=>by simp at a,yo 4 kj,ES _ _⟩
abbrev wT(c:Int)(a:gH)(b:T):T:= .eZ [sl (kj.cells.map iY.t),sl (kj.fI.map jq.t),sl (kj.iL.map jG.t),sl (kj.fH.map T.str),sl (kj.ee.map T.str),sl (kj.jy.map js.t),C c,sl (a.gu.fI.map fa.t),C a.gu.tx,sl (a.gu.done.map T.ez),sl (a.gu.ee.map ei.t),sl (a.cells.map (T.int .i64)),sl (a.fH.map (T.int .i64)),sl (a.count.map (T.int .i64)),b]
structure ZC(L:List Int)(s:gH)(n:Int)(e:T)(y:H):Prop where
 g0:y.get 0=some (X 15 0 [.eZ [dV,dV,dV,dV,dV,dV,C 0,dV,C 0,dV,dV,dV,dV,dV,dV]])
 g2:∃ver,y.get 2=some (X 15 ver [wT n s e])
 tp:yj 0 L 1 y
 ok:iQ 3 y
def ZC.tape{b:List Int}{g:gH}{f:Int}{e:T}{h d:H}(c:ZC b g f e h)(j:yj 0 b 1 d)(a:Sm 1 h d):ZC b g f e d:=by
 have⟨k,i⟩:=c.g2;exact⟨(a.get 0 B).trans c.g0,⟨k,(a.get 2 B).trans i⟩,j,a.ok.hp,a.ok.low,by rw[a.size];exact c.ok.sz⟩
theorem ZC.put{i:List Int}{d:gH}{n:Int}{k:T}{j:H}(a:ZC i d n k j)(h:Nat)(g:Int)(f:T):ZC i d g f (fJ j 2 (X 15 h [wT g d f])):=by
 have e:=ou (b:=2) a.ok.hp (by have:=a.ok.sz;omega) (X 15 h [wT g d f]);exact⟨(e 0).trans ((Z B).trans a.g0),⟨h,(e 2).trans (au rfl)⟩,a.tp.eq ((e 1).trans (Z B)),a.ok.put _ _⟩
def Ys(b:T):Prop:=∃a:fg,b=a.t/\lj a
def IY:pM prog cx 17 (λs:List Int×Nat=>[sl (s.1.map (T.int .u8)),C s.2]) (λs=>okB s.1/\s.2<=16) (λ_=>Ys):=by
 refine Bg (tb:=⟨pt [(40,IN),(44,sR),(43,HS.kc)],ht [(41,km IBg Zd MX),(42,km IPl Y4 S7)]⟩) jv jl (jF 1125900913478003 [] func17) (λ_=>10) (λs b A=>by simp at A;exact aD (jV (λ_ _ A=>by simpa using A) A.1) (by have:=A.2;omega)) G nl9 ?_;rintro⟨H,E⟩ ⟨L,ae⟩ e U;simp only at L ae;simp at U;obtain⟨r,h⟩:=U;simp[f17,r];refine lV (λe k=>(∃i:List Int,okB i/\i.length<=400/\Y e 0 (sl (i.map (T.int .u8))))/\k=hE.cons (X 15 0 [.eZ [dV,dV,dV,dV,dV,dV,C 0,dV,C 0,dV,dV,dV,dV,dV,dV]])/\Y e 1 (C E)/\Y e 4 (.fc 0 0 0 0)) (λw=>?_) (λw=>?_) ?_
 ·simp at w;simp[r,h,show 400<=H.length by omega];refine⟨H.take 400,⟨dR,λx bi=>L.2 x (bO bi)⟩,dR,rfl⟩
 ·simp at w;simp[r,h];exact⟨H,L,B,rfl⟩
 rintro e _ ⟨⟨i,S,aX,r⟩,rfl,h,m⟩;simp[r,PI];generalize v:((hE.cons _).cons _).cons _=z;have bT:z.size=3:=by rw[<-v];rfl
 have bu:iQ 0 z:=by rw[<-v];exact⟨G,by simp[size_cons],G⟩
 have bA:z.get 0=some (X 15 0 [.eZ [dV,dV,dV,dV,dV,dV,C 0,dV,C 0,dV,dV,dV,dV,dV,dV]]):=by rw[<-v];simp[size_cons]
 have bB:z.get 1=some (X 2 0 [.eZ [sl (i.map (T.int .u8)),C 0]]):=by rw[<-v];simp[size_cons]
 have bC:z.get 2=some (X 15 1 [.eZ [sl (kj.cells.map iY.t),sl (kj.fI.map jq.t),sl (kj.iL.map jG.t),sl (kj.fH.map T.str),sl (kj.ee.map T.str),sl (kj.jy.map js.t),C 0,dV,C 0,dV,dV,dV,dV,dV,dV]]):=by rw[<-v];simp[size_cons]
 clear v;refine jB ah3 G ⟨i,1⟩ ⟨rfl,⟨0,0,bB,G⟩,bu,S⟩ ?_;rintro _ k ⟨g,rfl,j,t1,q⟩;simp only at t1 q;have bN:=(q.get 2 B).trans bC;have bH:=(q.get 0 B).trans bA;have c1:k.size=3:=by rw[q.size,bT]
 have aN:=λd=>(ou (b:=2) q.ok.hp B d 2).trans (au rfl);simp[bN,aN];have F:ZC i g 0 dV (fJ k 2 (X 15 2 [wT 0 g dV])):=by
  have y:=ou (b:=2) q.ok.hp B (X 15 2 [wT 0 g dV]);exact⟨(y 0).trans ((Z B).trans bH),⟨2,(y 2).trans (au rfl)⟩,t1.eq ((y 1).trans (Z B)),iQ.put ⟨q.ok.hp,q.ok.low,B⟩ _ _⟩
 generalize fJ k 2 _=bX at*
 refine ik 4 B (λo e k=>(∃f:Int,ZC i g f dV k/\0<=f/\f<=4*o)/\Y e 1 (C E)/\Y e 4 (.fc 0 0 0 0)/\Y e 5 (.fc 1 0 0 0)/\Y e 6 (.fc 2 0 0 0)/\Y e 26 (sl (g.count.map (T.int .i64)))/\Y e 27 (C 4)/\Y e 28 (C o)) ?_ ?_ B ⟨⟨0,F,B,B⟩,by simp[h,m,j.n.2.2.2.2.2]⟩
 ·clear F r h m;rintro o e k b8 a7 ⟨⟨f,a,bn,bp⟩,h,m,K,D,R,I,J⟩;have a8:(o:Int)<4:=B;have ab:o<g.count.length:=by have:=j.n.2.2.2.2.2;omega
  have⟨O,u⟩:=a.g2;have b7:=j.c g.count[o] (aG ab);have ap:binop .add (C f) (C g.count[o])=some (C (f+g.count[o])):=Cs rfl B B;simp[h,m,K,D,R,I,J,a8,ab,u,ap,a7];exact⟨_,a.put _ _ _,B,B⟩
 clear F r h m;rintro e k ⟨⟨f,a,bn,bp⟩,h,m,K,D,R,I,J⟩;have⟨O,u⟩:=a.g2;have bs:min (E:Int) 16=E:=B;simp[h,K,D,I,J,u,bs];have⟨ca,cb,cd,cp,cF,cL⟩:=j.n;refine jB ah0 G ⟨i,1,g,kj,E,true⟩ ⟨rfl,a.tp,⟨a.ok.hp,a.ok.low,ay _⟩,S,aX,ae,(by decide:kj.ee.length=4),(by decide:kj.cells.length=5),(by decide:kj.iL.length<=1000),j.fits,j.sm,dS⟩ ?_;rintro _ cX ⟨l,rfl,hl,W,hr,t2,an⟩;simp only at hl hr t2 an;replace a:=a.tape t2 an;clear u;have⟨O,u⟩:=a.g2;have bW:=a.put (O+1) f (sl (l.map fR.t));have Q:=λd=>(ou (b:=2) a.ok.hp (by have:=a.ok.sz;omega) d 2).trans (au rfl);have bg:=j.win B W hr f;obtain⟨_,⟨b6,rfl,a6⟩,aE⟩:=HS.use ⟨kj,f,g,l⟩ ⟨j.ask B W f,j.fits,dS⟩;simp[D,u,Q,aE];have y:=λd av=>ou (b:=2) a.ok.hp (by have:=a.ok.sz;omega) d av;have P:=λd=>(y d 0).trans ((Z B).trans a.g0);have KN:=λd=>a.ok.put 2 d;have bS:=λd=>(KN d).sz;have al:=λd N=>(ou (b:=0) (KN d).hp (by have:=bS d;omega) N 0).trans (au rfl);have b9:=λd N=>((KN d).put 0 N).hp;refine fN (λw=>?_) (λw=>?_)
 ·have aA:=λ{tb:io} (ht:tb.p 44=some sR)=>GG ht kj dT dT dT dT;simp[m,PI,aA,P,al];exact⟨⟨⟨kj,0,kA kj,[]⟩,rfl,Z0 0⟩,a.ok.hp⟩
 ·simp[m,D,Q,P,al];exact⟨⟨_,rfl,bg (a6 (by simpa using w))⟩,a.ok.hp⟩
end
def zj:iK:=⟨Bool,λa=>[.ez a],λ_=>True,λa=> C (if a then 1 else 0),λc a b=>by simp at b;rw[b]⟩
def Tu:zj.Ok prog cx 254:=by
 refine iF [] (jF 13 [] func254) (λ_=>5) (by simp[zj]) ?_;rintro b _ c a;cases b<;>(simp[zj]at a|-;simp[f254,a])
def PM{b:io}(ht:b.p 254=some zj)(a:Bool):rl prog cx b 254 [.ez a]=some (C (if a then 1 else 0)):=iN ht Tu a trivial
def dW(c:T):Prop:=∃(b:Int) (a:Bool),c= .tuple [C b,.ez a]
def Jb(b:Int)(a:Bool):dW (.tuple [C b,.ez a]):=⟨b,a,rfl⟩
def aec{b:ao}{c a:Int}(e:¬a=0):binop .quo (.int b c) (.int b a)=some (.int b (b.wrap (c.tdiv a))):=by
 have d:VW a 0=false:=by rw[AZ];simp[e]
 unfold binop;simp[Aa,d]
def aik{a:ao}{b:Int}:unop .neg (.int a b)=some (.int a (a.wrap (0-b))):=by
 show sP a (0-b)=_;simp
def KK:pM prog cx 237 (λa:Int×Int=>[C a.1,C a.2]) (λ_=>True) (λ_=>dW):=by
 refine jU [(254,zj)] (jF 2291 [] func237) (λ_=>5) (λa e b=>by simp at b;exact aD b.1 b.2) ?_;rintro⟨f,a⟩ _ g c;simp at c;simp[f237,c]
 repeat' (refine fN (λd=>?_) (λd=>?_)<;>simp[d,c,PM,Jb,aik])
def H5:pM prog cx 239 (λa:Int×Int×Int=>[C a.1,C a.2.1,C a.2.2]) (λ_=>True) (λ_=>dW):=by
 refine jU [(254,zj)] (jF 9690595855641090246329287 [] func239) (λ_=>5) (λa e b=>by simp at b;exact aD b.1 (aD b.2.1 b.2.2)) ?_;rintro⟨g,a,e⟩ _ h c;simp at c;simp[f239,c]
 repeat' (refine fN (λd=>?_) (λd=>?_)<;>simp[d,c,PM,Jb,qm,uf,aeL])
 all_goals (have f:¬e=0:=by simpa using d)
 all_goals simp [aec f,D1 f,Jb]
def AN:pM prog cx 238 (λa:Int=>[C a]) (λ_=>True) (λ_=>Ik):=by
 refine jU [] (jF 261 [] func238) (λ_=>5) (λa e d=>by simpa using d) ?_;rintro a _ f b;simp at b;simp[f238,b]
 repeat' (refine fN (λc=>?_) (λc=>?_)<;>simp[c,b])
