/- X12 -/
import Derived.Test.YtajpdafdickapaaGreatDoorA17
set_option linter.all false
set_option maxRecDepth 100000
set_option maxHeartbeats 8000000
namespace Go.Proofs.YtajpdafdickapaaGreatDoor
noncomputable section
open Go Go.TI Tryz
attribute [-simp] List.map_take List.map_drop List.map_append fy fa eg Bool.not_or Bool.not_and
attribute [simp] fw fc
section
attribute [-simp] size_cons
def Hz.fits{a:eQ}(h:Hz a):mB jt a=true:=by
 have⟨b,c,d,e,f,g⟩:=h.n;unfold mB kZ;rw[b,c,d,e,f,g];decide
def Hz.sm{d:eQ}(b:Hz d):sO 1000 d:=by
 have⟨g,h,i,j,k,l⟩:=b.n;refine⟨J,λa hl=>by have:=(b.r a hl).1;omega,λa hl=>?_,λe f=>by have:=b.c e f;omega⟩;have:=(b.r a hl).1
 match hr:a.ew with
 | []=>exact List.Pairwise.nil
 | [x]=>exact List.pairwise_singleton _ _
 |x::o::m=>rw[hr]at this;simp at this
def Hz.ask{c:eQ}(b:Hz c){a:List ez}(hl:a.length<=16)(d:KJ a)(e:Int):acY ⟨jt,e,c,a⟩:=by
 have⟨f,g,h,i,j,k⟩:=b.n;exact⟨dA,dA,dA,dA,dA,dA,λa hl=>by have:=(b.r a hl).1;omega,b.sm,JP,d⟩
def Hz.win{d:eQ}(c:Hz d){b:List ez}(hl:b.length<=16)(e:KJ b)(hr:runs jt d b=true)(f:Int):lO ⟨jt,f,d,b⟩:=
 ⟨⟨hl,(by decide:jt.dH.length<=4),hr,c.sm.a⟩,JP,c.sm,e,λb hl=>(c.r b hl).2⟩
def Wb(b:Int):lO ⟨jt,b,jU jt,[]⟩:=
 ⟨⟨dy,(by decide:jt.dH.length<=4),rfl,sX _⟩,JP,(uK jt dB).up J,λc a=>by simp at a,vZ 4 jt⟩
abbrev wT(c:Int)(a:eQ)(b:T):T:= .agg [sl (jt.cells.map iq.t),sl (jt.ei.map iI.t),sl (jt.gF.map ja.t),sl (jt.ee.map T.str),sl (jt.dH.map T.str),sl (jt.iJ.map iK.t),Z c,sl (a.fj.ei.map dR.t),Z a.fj.tx,sl (a.fj.done.map T.bool),sl (a.fj.dH.map dJ.t),sl (a.cells.map (T.int .i64)),sl (a.ee.map (T.int .i64)),sl (a.count.map (T.int .i64)),b]
structure VO(L:List Int)(s:eQ)(n:Int)(e:T)(y:H):Prop where
 g0:y.get 0=some (dE 15 0 [.agg [dD,dD,dD,dD,dD,dD,Z 0,dD,Z 0,dD,dD,dD,dD,dD,dD]])
 g2:∃ver,y.get 2=some (dE 15 ver [wT n s e])
 tp:vO 0 L 1 y
 ok:il 3 y
def VO.tape{b:List Int}{g:eQ}{f:Int}{e:T}{h d:H}(c:VO b g f e h)(j:vO 0 b 1 d)(a:Sm 1 h d):VO b g f e d:=by
 have⟨k,i⟩:=c.g2;exact⟨(a.get 0 J).trans c.g0,⟨k,(a.get 2 J).trans i⟩,j,a.ok.hp,a.ok.low,by rw[a.size];exact c.ok.sz⟩
theorem VO.put{i:List Int}{d:eQ}{n:Int}{k:T}{j:H}(a:VO i d n k j)(h:Nat)(g:Int)(f:T):VO i d g f (dZ j 2 (dE 15 h [wT g d f])):=by
 have e:=mL (b:=2) a.ok.hp (by have:=a.ok.sz;omega) (dE 15 h [wT g d f]);exact⟨(e 0).trans ((aq J).trans a.g0),⟨h,(e 2).trans (ar rfl)⟩,a.tp.eq ((e 1).trans (aq J)),a.ok.put _ _⟩
def UI(b:T):Prop:=∃a:dW,b=a.t/\lO a
def Gt:nS prog cx 15 (λr:List Int×Nat=>[sl (r.1.map (T.int .u8)),Z r.2]) (λr=>okB r.1/\r.2<=16) (λ_=>UI):=by
 refine yL (tb:=⟨pt [(35,Gh),(39,qt),(38,Fx.jv)],ht [(36,jM IBg Vo J2),(37,jM IPl Vg Pr)]⟩) iR iE (iX 1125900913478003 [] func15) (λ_=>10) (λr b y=>by simp at y;exact aC (jx (λ_ _ y=>by simpa using y) y.1) (by have:=y.2;omega)) dy nl9 ?_;rintro⟨D,B⟩ ⟨H,U⟩ e Q;simp only at H U;simp at Q;obtain⟨q,h⟩:=Q;simp[f15,q];refine ll (λe k=>(∃i:List Int,okB i/\i.length<=400/\dF e 0 (sl (i.map (T.int .u8))))/\k=hE.cons (dE 15 0 [.agg [dD,dD,dD,dD,dD,dD,Z 0,dD,Z 0,dD,dD,dD,dD,dD,dD]])/\dF e 1 (Z B)/\dF e 4 (.ptr 0 0 0 0)) (λA=>?_) (λA=>?_) ?_
 ·simp at A;simp[q,h,show 400<=D.length by omega];refine⟨D.take 400,⟨dz,λx aN=>H.2 x (bF aN)⟩,dz,rfl⟩
 ·simp at A;simp[q,h];exact⟨D,H,J,rfl⟩
 rintro e _ ⟨⟨i,P,ap,q⟩,rfl,h,l⟩;simp[q,Mh];generalize u:((hE.cons _).cons _).cons _=w;have bH:w.size=3:=by rw[<-u];rfl
 have a8:il 0 w:=by rw[<-u];exact⟨dy,by simp[size_cons],dy⟩
 have bi:w.get 0=some (dE 15 0 [.agg [dD,dD,dD,dD,dD,dD,Z 0,dD,Z 0,dD,dD,dD,dD,dD,dD]]):=by rw[<-u];simp[size_cons]
 have bn:w.get 1=some (dE 2 0 [.agg [sl (i.map (T.int .u8)),Z 0]]):=by rw[<-u];simp[size_cons]
 have bs:w.get 2=some (dE 15 1 [.agg [sl (jt.cells.map iq.t),sl (jt.ei.map iI.t),sl (jt.gF.map ja.t),sl (jt.ee.map T.str),sl (jt.dH.map T.str),sl (jt.iJ.map iK.t),Z 0,dD,Z 0,dD,dD,dD,dD,dD,dD]]):=by rw[<-u];simp[size_cons]
 clear u;refine iC aeH dy ⟨i,1⟩ ⟨rfl,⟨0,0,bn,dy⟩,a8,P⟩ ?_;rintro _ k ⟨g,rfl,j,t1,o⟩;simp only at t1 o;have bB:=(o.get 2 J).trans bs;have bu:=(o.get 0 J).trans bi;have c4:k.size=3:=by rw[o.size,bH]
 have an:=λd=>(mL (b:=2) o.ok.hp J d 2).trans (ar rfl);simp[bB,an];have C:VO i g 0 dD (dZ k 2 (dE 15 2 [wT 0 g dD])):=by
  have v:=mL (b:=2) o.ok.hp J (dE 15 2 [wT 0 g dD]);exact⟨(v 0).trans ((aq J).trans bu),⟨2,(v 2).trans (ar rfl)⟩,t1.eq ((v 1).trans (aq J)),il.put ⟨o.ok.hp,o.ok.low,J⟩ _ _⟩
 generalize dZ k 2 _=Y at*
 refine fD 4 J (λm e k=>(∃f:Int,VO i g f dD k/\0<=f/\f<=4*m)/\dF e 1 (Z B)/\dF e 4 (.ptr 0 0 0 0)/\dF e 5 (.ptr 1 0 0 0)/\dF e 6 (.ptr 2 0 0 0)/\dF e 26 (sl (g.count.map (T.int .i64)))/\dF e 27 (Z 4)/\dF e 28 (Z m)) ?_ ?_ J ⟨⟨0,C,J,J⟩,by simp[h,l,j.n.2.2.2.2.2]⟩
 ·clear C q h l;rintro m e k b6 av ⟨⟨f,a,aX,a6⟩,h,l,G,z,O,E,F⟩;have aA:(m:Int)<4:=J;have S:m<g.count.length:=by have:=j.n.2.2.2.2.2;omega
  have⟨L,s⟩:=a.g2;have bT:=j.c g.count[m] (aF S);have X:binop .add (Z f) (Z g.count[m])=some (Z (f+g.count[m])):=Ah rfl J J;simp[h,l,G,z,O,E,F,aA,S,s,X,av];exact⟨_,a.put _ _ _,J,J⟩
 clear C q h l;rintro e k ⟨⟨f,a,aX,a6⟩,h,l,G,z,O,E,F⟩;have⟨L,s⟩:=a.g2;have a7:min (B:Int) 16=B:=J;simp[h,G,z,E,F,s,a7];have⟨b8,b9,ca,cb,cp,cL⟩:=j.n;refine iC aeE dy ⟨i,1,g,jt,B,true⟩ ⟨rfl,a.tp,⟨a.ok.hp,a.ok.low,ax _⟩,P,ap,U,(by decide:jt.dH.length=4),(by decide:jt.cells.length=5),(by decide:jt.gF.length<=1000),j.fits,j.sm,dA⟩ ?_;rintro _ c1 ⟨I,rfl,hl,R,hr,t2,W⟩;simp only at hl hr t2 W;replace a:=a.tape t2 W;clear s;have⟨L,s⟩:=a.g2;have bN:=a.put (L+1) f (sl (I.map ez.t));have N:=λd=>(mL (b:=2) a.ok.hp (by have:=a.ok.sz;omega) d 2).trans (ar rfl);have aE:lO ⟨jt,f,g,I⟩:=j.win J R hr f;obtain⟨_,⟨bS,rfl⟩,al⟩:=Fx.use ⟨jt,f,g,I⟩ ⟨j.ask J R f,j.fits,dA⟩;simp[z,s,N,al];have v:=λd c=>mL (b:=2) a.ok.hp (by have:=a.ok.sz;omega) d c;have M:=λd=>(v d 0).trans ((aq J).trans a.g0);have Ka:=λd=>a.ok.put 2 d;have bC:=λd=>(Ka d).sz;have V:=λd K=>(mL (b:=0) (Ka d).hp (by have:=bC d;omega) K 0).trans (ar rfl);have b7:=λd K=>((Ka d).put 0 K).hp;refine ej (λA=>?_) (λA=>?_)
 ·have ae:=λ{tb:fJ} (ht:tb.p 39=some qt)=>Er ht jt dB dB dB dB;simp[l,Mh,ae,M,V];exact⟨⟨⟨jt,0,jU jt,[]⟩,rfl,Wb 0⟩,a.ok.hp⟩
 ·simp[l,z,N,M,V];exact⟨⟨_,rfl,aE⟩,a.ok.hp⟩
end
def w9:gG:=⟨Bool,λa=>[.bool a],λ_=>True,λa=> Z (if a then 1 else 0),λc a b=>by simp at b;rw[b]⟩
def PO:w9.Ok prog cx 262:=by
 refine fZ [] (iX 13 [] func262) (λ_=>5) (by simp[w9]) ?_;rintro b _ c a;cases b<;>(simp[w9]at a|-;simp[f262,a])
def Ml{b:fJ}(ht:b.p 262=some w9)(a:Bool):rl prog cx b 262 [.bool a]=some (Z (if a then 1 else 0)):=im ht PO a trivial
def Xk(c:T):Prop:=∃(b:Int) (a:Bool),c= .tuple [Z b,.bool a]
def GH(b:Int)(a:Bool):Xk (.tuple [Z b,.bool a]):=⟨b,a,rfl⟩
def aaS{b:ak}{c a:Int}(e:¬a=0):binop .quo (.int b c) (.int b a)=some (.int b (b.wrap (c.tdiv a))):=by
 have d:Sl a 0=false:=by rw[yA];simp[e]
 unfold binop;simp[xF,d]
def aeY{a:ak}{b:Int}:unop .neg (.int a b)=some (.int a (a.wrap (0-b))):=by
 show qr a (0-b)=_;simp
def Id:nS prog cx 245 (λa:Int×Int=>[Z a.1,Z a.2]) (λ_=>True) (λ_=>Xk):=by
 refine jh [(262,w9)] (iX 2291 [] func245) (λ_=>5) (λa e b=>by simp at b;exact aC b.1 b.2) ?_;rintro⟨f,a⟩ _ g c;simp at c;simp[f245,c]
 repeat' (refine ej (λd=>?_) (λd=>?_)<;>simp[d,c,Ml,GH,aeY])
def FJ:nS prog cx 247 (λa:Int×Int×Int=>[Z a.1,Z a.2.1,Z a.2.2]) (λ_=>True) (λ_=>Xk):=by
 refine jh [(262,w9)] (iX 9690595855641090246329287 [] func247) (λ_=>5) (λa e b=>by simp at b;exact aC b.1 (aC b.2.1 b.2.2)) ?_;rintro⟨g,a,e⟩ _ h c;simp at c;simp[f247,c]
 repeat' (refine ej (λd=>?_) (λd=>?_)<;>simp[d,c,Ml,GH,oG,qS,abu])
 all_goals (have f:¬e=0:=by simpa using d)
 all_goals simp [aaS f,CZ f,GH]
def yo:nS prog cx 246 (λa:Int=>[Z a]) (λ_=>True) (λ_=>FR):=by
 refine jh [] (iX 261 [] func246) (λ_=>5) (λa e d=>by simpa using d) ?_;rintro a _ f b;simp at b;simp[f246,b]
 repeat' (refine ej (λc=>?_) (λc=>?_)<;>simp[c,b])
