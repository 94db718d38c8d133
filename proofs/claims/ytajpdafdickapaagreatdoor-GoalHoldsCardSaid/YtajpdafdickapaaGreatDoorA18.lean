/- X12 -/
import Derived.Test.YtajpdafdickapaaGreatDoorA17
set_option linter.all false
set_option maxRecDepth 100000
set_option maxHeartbeats 8000000
namespace Go.Proofs.YtajpdafdickapaaGreatDoor
noncomputable section
open Go Go.TI Tryz
attribute [-simp] List.map_take List.map_drop List.map_append fw eY eg Bool.not_or Bool.not_and
attribute [simp] fq eZ
section
attribute [-simp] size_cons
def H4.fits{a:ew}(h:H4 a):mH jv a=true:=by
 have⟨b,c,d,e,f,g⟩:=h.n;unfold mH lA;rw[b,c,d,e,f,g];decide
def H4.sm{d:ew}(b:H4 d):rQ 1000 d:=by
 have⟨g,h,i,j,k,l⟩:=b.n;refine⟨J,λa hl=>by have:=(b.r a hl).1;omega,λa hl=>?_,λe f=>by have:=b.c e f;omega⟩;have:=(b.r a hl).1
 match hr:a.eJ with
 | []=>exact List.Pairwise.nil
 | [x]=>exact List.pairwise_singleton _ _
 |x::o::m=>rw[hr]at this;simp at this
def H4.ask{c:ew}(b:H4 c){a:List ej}(hl:a.length<=16)(d:Li a)(e:Int):adQ ⟨jv,e,c,a⟩:=by
 have⟨f,g,h,i,j,k⟩:=b.n;exact⟨dA,dA,dA,dA,dA,dA,λa hl=>by have:=(b.r a hl).1;omega,b.sm,Kn,d⟩
def H4.win{d:ew}(c:H4 d){b:List ej}(hl:b.length<=16)(e:Li b)(hr:runs jv d b=true)(f:Int):kl ⟨jv,f,d,b⟩:=
 ⟨⟨hl,(by decide:jv.dH.length<=4),hr,c.sm.a⟩,Kn,c.sm,e,λb hl=>(c.r b hl).2⟩
def Xk(b:Int):kl ⟨jv,b,jY jv,[]⟩:=
 ⟨⟨dy,(by decide:jv.dH.length<=4),rfl,sW _⟩,Kn,(uV jv dB).up J,λc a=>by simp at a,wi 4 jv⟩
abbrev wT(c:Int)(a:ew)(b:T):T:= .agg [sl (jv.cells.map io.t),sl (jv.ei.map iI.t),sl (jv.gJ.map jb.t),sl (jv.d8.map T.str),sl (jv.dH.map T.str),sl (jv.iJ.map iK.t),Z c,sl (a.fj.ei.map dU.t),Z a.fj.tx,sl (a.fj.done.map T.bool),sl (a.fj.dH.map dM.t),sl (a.cells.map (T.int .i64)),sl (a.d8.map (T.int .i64)),sl (a.count.map (T.int .i64)),b]
structure WN(L:List Int)(s:ew)(n:Int)(e:T)(y:H):Prop where
 g0:y.get 0=some (dE 15 0 [.agg [dD,dD,dD,dD,dD,dD,Z 0,dD,Z 0,dD,dD,dD,dD,dD,dD]])
 g2:∃ver,y.get 2=some (dE 15 ver [wT n s e])
 tp:v8 0 L 1 y
 ok:hU 3 y
def WN.tape{b:List Int}{g:ew}{f:Int}{e:T}{h d:H}(c:WN b g f e h)(j:v8 0 b 1 d)(a:Sm 1 h d):WN b g f e d:=by
 have⟨k,i⟩:=c.g2;exact⟨(a.get 0 J).trans c.g0,⟨k,(a.get 2 J).trans i⟩,j,a.ok.hp,a.ok.low,by rw[a.size];exact c.ok.sz⟩
theorem WN.put{i:List Int}{d:ew}{n:Int}{k:T}{j:H}(a:WN i d n k j)(h:Nat)(g:Int)(f:T):WN i d g f (dY j 2 (dE 15 h [wT g d f])):=by
 have e:=mr (b:=2) a.ok.hp (by have:=a.ok.sz;omega) (dE 15 h [wT g d f]);exact⟨(e 0).trans ((ao J).trans a.g0),⟨h,(e 2).trans (aq rfl)⟩,a.tp.eq ((e 1).trans (ao J)),a.ok.put _ _⟩
def VA(b:T):Prop:=∃a:dR,b=a.t/\kl a
def GL:oa prog cx 15 (λr:List Int×Nat=>[sl (r.1.map (T.int .u8)),Z r.2]) (λr=>okB r.1/\r.2<=16) (λ_=>VA):=by
 refine yV (tb:=⟨pt [(35,Gy),(39,qA),(38,FF.jA)],ht [(36,jI IBg Wi KB),(37,jI IPl Wa Qa)]⟩) iL iB (iQ 1125900913478003 [] func15) (λ_=>10) (λr b y=>by simp at y;exact aC (jz (λ_ _ y=>by simpa using y) y.1) (by have:=y.2;omega)) dy nl9 ?_;rintro⟨D,B⟩ ⟨H,U⟩ e Q;simp only at H U;simp at Q;obtain⟨q,h⟩:=Q;simp[f15,q];refine kQ (λe k=>(∃i:List Int,okB i/\i.length<=400/\dF e 0 (sl (i.map (T.int .u8))))/\k=hE.cons (dE 15 0 [.agg [dD,dD,dD,dD,dD,dD,Z 0,dD,Z 0,dD,dD,dD,dD,dD,dD]])/\dF e 1 (Z B)/\dF e 4 (.ptr 0 0 0 0)) (λA=>?_) (λA=>?_) ?_
 ·simp at A;simp[q,h,show 400<=D.length by omega];refine⟨D.take 400,⟨dz,λx aN=>H.2 x (bG aN)⟩,dz,rfl⟩
 ·simp at A;simp[q,h];exact⟨D,H,J,rfl⟩
 rintro e _ ⟨⟨i,P,ap,q⟩,rfl,h,l⟩;simp[q,MR];generalize u:((hE.cons _).cons _).cons _=w;have bH:w.size=3:=by rw[<-u];rfl
 have a8:hU 0 w:=by rw[<-u];exact⟨dy,by simp[size_cons],dy⟩
 have bi:w.get 0=some (dE 15 0 [.agg [dD,dD,dD,dD,dD,dD,Z 0,dD,Z 0,dD,dD,dD,dD,dD,dD]]):=by rw[<-u];simp[size_cons]
 have bn:w.get 1=some (dE 2 0 [.agg [sl (i.map (T.int .u8)),Z 0]]):=by rw[<-u];simp[size_cons]
 have bs:w.get 2=some (dE 15 1 [.agg [sl (jv.cells.map io.t),sl (jv.ei.map iI.t),sl (jv.gJ.map jb.t),sl (jv.d8.map T.str),sl (jv.dH.map T.str),sl (jv.iJ.map iK.t),Z 0,dD,Z 0,dD,dD,dD,dD,dD,dD]]):=by rw[<-u];simp[size_cons]
 clear u;refine iy afz dy ⟨i,1⟩ ⟨rfl,⟨0,0,bn,dy⟩,a8,P⟩ ?_;rintro _ k ⟨g,rfl,j,t1,o⟩;simp only at t1 o;have bB:=(o.get 2 J).trans bs;have bu:=(o.get 0 J).trans bi;have cL:k.size=3:=by rw[o.size,bH]
 have an:=λd=>(mr (b:=2) o.ok.hp J d 2).trans (aq rfl);simp[bB,an];have C:WN i g 0 dD (dY k 2 (dE 15 2 [wT 0 g dD])):=by
  have v:=mr (b:=2) o.ok.hp J (dE 15 2 [wT 0 g dD]);exact⟨(v 0).trans ((ao J).trans bu),⟨2,(v 2).trans (aq rfl)⟩,t1.eq ((v 1).trans (ao J)),hU.put ⟨o.ok.hp,o.ok.low,J⟩ _ _⟩
 generalize dY k 2 _=Y at*
 refine fk 4 J (λm e k=>(∃f:Int,WN i g f dD k/\0<=f/\f<=4*m)/\dF e 1 (Z B)/\dF e 4 (.ptr 0 0 0 0)/\dF e 5 (.ptr 1 0 0 0)/\dF e 6 (.ptr 2 0 0 0)/\dF e 26 (sl (g.count.map (T.int .i64)))/\dF e 27 (Z 4)/\dF e 28 (Z m)) ?_ ?_ J ⟨⟨0,C,J,J⟩,by simp[h,l,j.n.2.2.2.2.2]⟩
 ·clear C q h l;rintro m e k bX av ⟨⟨f,a,aX,a6⟩,h,l,G,z,O,E,F⟩;have aA:(m:Int)<4:=J;have S:m<g.count.length:=by have:=j.n.2.2.2.2.2;omega
  have⟨L,s⟩:=a.g2;have bT:=j.c g.count[m] (aD S);have X:binop .add (Z f) (Z g.count[m])=some (Z (f+g.count[m])):=Aw rfl J J;simp[h,l,G,z,O,E,F,aA,S,s,X,av];exact⟨_,a.put _ _ _,J,J⟩
 clear C q h l;rintro e k ⟨⟨f,a,aX,a6⟩,h,l,G,z,O,E,F⟩;have⟨L,s⟩:=a.g2;have a7:min (B:Int) 16=B:=J;simp[h,G,z,E,F,s,a7];have⟨b7,b8,b9,ca,cb,cp⟩:=j.n;refine iy afw dy ⟨i,1,g,jv,B,true⟩ ⟨rfl,a.tp,⟨a.ok.hp,a.ok.low,aw _⟩,P,ap,U,(by decide:jv.dH.length=4),(by decide:jv.cells.length=5),(by decide:jv.gJ.length<=1000),j.fits,j.sm,dA⟩ ?_;rintro _ cy ⟨I,rfl,hl,R,hr,t2,W⟩;simp only at hl hr t2 W;replace a:=a.tape t2 W;clear s;have⟨L,s⟩:=a.g2;have bN:=a.put (L+1) f (sl (I.map ej.t));have N:=λd=>(mr (b:=2) a.ok.hp (by have:=a.ok.sz;omega) d 2).trans (aq rfl);have aE:kl ⟨jv,f,g,I⟩:=j.win J R hr f;obtain⟨_,⟨bS,rfl⟩,al⟩:=FF.use ⟨jv,f,g,I⟩ ⟨j.ask J R f,j.fits,dA⟩;simp[z,s,N,al];have v:=λd c=>mr (b:=2) a.ok.hp (by have:=a.ok.sz;omega) d c;have M:=λd=>(v d 0).trans ((ao J).trans a.g0);have KH:=λd=>a.ok.put 2 d;have bC:=λd=>(KH d).sz;have V:=λd K=>(mr (b:=0) (KH d).hp (by have:=bC d;omega) K 0).trans (aq rfl);have b6:=λd K=>((KH d).put 0 K).hp;refine ee (λA=>?_) (λA=>?_)
 ·have ae:=λ{tb:fy} (ht:tb.p 39=some qA)=>Ee ht jv dB dB dB dB;simp[l,MR,ae,M,V];exact⟨⟨⟨jv,0,jY jv,[]⟩,rfl,Xk 0⟩,a.ok.hp⟩
 ·simp[l,z,N,M,V];exact⟨⟨_,rfl,aE⟩,a.ok.hp⟩
end
def xi:fP:=⟨Bool,λa=>[.bool a],λ_=>True,λa=> Z (if a then 1 else 0),λc a b=>by simp at b;rw[b]⟩
def Qv:xi.Ok prog cx 262:=by
 refine fM [] (iQ 13 [] func262) (λ_=>5) (by simp[xi]) ?_;rintro b _ c a;cases b<;>(simp[xi]at a|-;simp[f262,a])
def MU{b:fy}(ht:b.p 262=some xi)(a:Bool):rl prog cx b 262 [.bool a]=some (Z (if a then 1 else 0)):=gu ht Qv a trivial
def Yh(c:T):Prop:=∃(b:Int) (a:Bool),c= .tuple [Z b,.bool a]
def G5(b:Int)(a:Bool):Yh (.tuple [Z b,.bool a]):=⟨b,a,rfl⟩
def abE{b:ak}{c a:Int}(e:¬a=0):binop .quo (.int b c) (.int b a)=some (.int b (b.wrap (c.tdiv a))):=by
 have d:Tz a 0=false:=by rw[yJ];simp[e]
 unfold binop;simp[xQ,d]
def afQ{a:ak}{b:Int}:unop .neg (.int a b)=some (.int a (a.wrap (0-b))):=by
 show qz a (0-b)=_;simp
def IB:oa prog cx 245 (λa:Int×Int=>[Z a.1,Z a.2]) (λ_=>True) (λ_=>Yh):=by
 refine jk [(262,xi)] (iQ 2291 [] func245) (λ_=>5) (λa e b=>by simp at b;exact aC b.1 b.2) ?_;rintro⟨f,a⟩ _ g c;simp at c;simp[f245,c]
 repeat' (refine ee (λd=>?_) (λd=>?_)<;>simp[d,c,MU,G5,afQ])
def FQ:oa prog cx 247 (λa:Int×Int×Int=>[Z a.1,Z a.2.1,Z a.2.2]) (λ_=>True) (λ_=>Yh):=by
 refine jk [(262,xi)] (iQ 9690595855641090246329287 [] func247) (λ_=>5) (λa e b=>by simp at b;exact aC b.1 (aC b.2.1 b.2.2)) ?_;rintro⟨g,a,e⟩ _ h c;simp at c;simp[f247,c]
 repeat' (refine ee (λd=>?_) (λd=>?_)<;>simp[d,c,MU,G5,oN,qX,aci])
 all_goals (have f:¬e=0:=by simpa using d)
 all_goals simp [abE f,BY f,G5]
def yz:oa prog cx 246 (λa:Int=>[Z a]) (λ_=>True) (λ_=>F0):=by
 refine jk [] (iQ 261 [] func246) (λ_=>5) (λa e d=>by simpa using d) ?_;rintro a _ f b;simp at b;simp[f246,b]
 repeat' (refine ee (λc=>?_) (λc=>?_)<;>simp[c,b])
