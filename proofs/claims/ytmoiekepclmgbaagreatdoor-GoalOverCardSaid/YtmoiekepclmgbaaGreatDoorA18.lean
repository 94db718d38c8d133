/- X12 -/
import Derived.Test.YtmoiekepclmgbaaGreatDoorA17
set_option linter.all false
set_option maxRecDepth 100000
set_option maxHeartbeats 0
namespace Go.Proofs.YtmoiekepclmgbaaGreatDoor
noncomputable section
open Go Go.TI Tryz
attribute [-simp] List.map_take List.map_drop List.map_append fU fK fh Bool.not_or Bool.not_and
attribute [simp] fT fM
section
attribute [-simp] size_cons
def I6.fits{a:fJ}(h:I6 a):mD jR a=true:=by
 have⟨b,c,d,e,f,g⟩:=h.n;unfold mD mn;rw[b,c,d,e,f,g];decide
def I6.sm{d:fJ}(b:I6 d):sR 1000 d:=by
 have⟨g,h,i,j,k,l⟩:=b.n;refine⟨D,λa hl=>by have:=(b.r a hl).1;omega,λa hl=>?_,λe f=>by have:=b.c e f;omega⟩;have:=(b.r a hl).1
 match hr:a.fF with
 | []=>exact List.Pairwise.nil
 | [x]=>exact List.pairwise_singleton _ _
 |x::o::m=>rw[hr]at this;simp at this
def I6.ask{c:fJ}(b:I6 c){a:List fk}(hl:a.length<=16)(d:ML a)(e:Int):afz ⟨jR,e,c,a⟩:=by
 have⟨f,g,h,i,j,k⟩:=b.n;exact⟨dO,dO,dO,dO,dO,dO,λa hl=>by have:=(b.r a hl).1;omega,b.sm,LJ,d⟩
def I6.win{c:fJ}(d:I6 c){b:List fk}(hl:b.length<=16)(g:ML b)(hr:runs jR c b=true)(f:Int)(e:vD jR c.fN/\RdW ⟨jR,f,c,b⟩):kZ ⟨jR,f,c,b⟩:=
 ⟨⟨hl,(by decide:jR.dW.length<=4),hr,d.sm.a⟩,LJ,d.sm,g,λb hl=>(d.r b hl).2,e.1,e.2⟩
def Zc(b:Int):kZ ⟨jR,b,jW jR,[]⟩:=
 ⟨⟨Y,(by decide:jR.dW.length<=4),rfl,uK _⟩,LJ,(wD jR dP).up D,λc a=>by simp at a,xM 4 jR,D5 _ _,λd c b first a=>by simp at a⟩
abbrev wT(c:Int)(a:fJ)(b:T):T:= .agg [sl (jR.cells.map iK.t),sl (jR.fj.map ja.t),sl (jR.iB.map jq.t),sl (jR.fa.map T.str),sl (jR.dW.map T.str),sl (jR.ji.map jc.t),G c,sl (a.fN.fj.map em.t),G a.fN.tx,sl (a.fN.done.map T.bool),sl (a.fN.dW.map dZ.t),sl (a.cells.map (T.int .i64)),sl (a.fa.map (T.int .i64)),sl (a.count.map (T.int .i64)),b]
structure YQ(L:List Int)(s:fJ)(n:Int)(e:T)(y:H):Prop where
 g0:y.get 0=some (dS 15 0 [.agg [dR,dR,dR,dR,dR,dR,G 0,dR,G 0,dR,dR,dR,dR,dR,dR]])
 g2:∃ver,y.get 2=some (dS 15 ver [wT n s e])
 tp:xG 0 L 1 y
 ok:iE 3 y
def YQ.tape{b:List Int}{g:fJ}{f:Int}{e:T}{h d:H}(c:YQ b g f e h)(j:xG 0 b 1 d)(a:Sm 1 h d):YQ b g f e d:=by
 have⟨k,i⟩:=c.g2;exact⟨(a.get 0 D).trans c.g0,⟨k,(a.get 2 D).trans i⟩,j,a.ok.hp,a.ok.low,by rw[a.size];exact c.ok.sz⟩
theorem YQ.put{i:List Int}{d:fJ}{n:Int}{k:T}{j:H}(a:YQ i d n k j)(h:Nat)(g:Int)(f:T):YQ i d g f (fg j 2 (dS 15 h [wT g d f])):=by
 have e:=nM (b:=2) a.ok.hp (by have:=a.ok.sz;omega) (dS 15 h [wT g d f]);exact⟨(e 0).trans ((ao D).trans a.g0),⟨h,(e 2).trans (aq rfl)⟩,a.tp.eq ((e 1).trans (ao D)),a.ok.put _ _⟩
def XD(b:T):Prop:=∃a:ej,b=a.t/\kZ a
def H5:o9 prog cx 16 (λr:List Int×Nat=>[sl (r.1.map (T.int .u8)),G r.2]) (λr=>okB r.1/\r.2<=16) (λ_=>XD):=by
 refine AA (tb:=⟨pt [(37,HS),(41,rU),(40,GY.jX)],ht [(38,jY IBg Yo LY),(39,jY IPl Yf RS)]⟩) jg iT (jr 1125900913478003 [] func16) (λ_=>10) (λr b z=>by simp at z;exact aD (jH (λ_ _ z=>by simpa using z) z.1) (by have:=z.2;omega)) Y nl9 ?_;rintro⟨E,B⟩ ⟨J,U⟩ e Q;simp only at J U;simp at Q;obtain⟨q,h⟩:=Q;simp[f16,q];refine kP (λe k=>(∃i:List Int,okB i/\i.length<=400/\dT e 0 (sl (i.map (T.int .u8))))/\k=hE.cons (dS 15 0 [.agg [dR,dR,dR,dR,dR,dR,G 0,dR,G 0,dR,dR,dR,dR,dR,dR]])/\dT e 1 (G B)/\dT e 4 (.ptr 0 0 0 0)) (λv=>?_) (λv=>?_) ?_
 ·simp at v;simp[q,h,show 400<=E.length by omega];refine⟨E.take 400,⟨dN,λx a6=>J.2 x (bJ a6)⟩,dN,rfl⟩
 ·simp at v;simp[q,h];exact⟨E,J,D,rfl⟩
 rintro e _ ⟨⟨i,P,av,q⟩,rfl,h,l⟩;simp[q,Ox];generalize u:((hE.cons _).cons _).cons _=y;have bH:y.size=3:=by rw[<-u];rfl
 have bn:iE 0 y:=by rw[<-u];exact⟨Y,by simp[size_cons],Y⟩
 have bp:y.get 0=some (dS 15 0 [.agg [dR,dR,dR,dR,dR,dR,G 0,dR,G 0,dR,dR,dR,dR,dR,dR]]):=by rw[<-u];simp[size_cons]
 have bs:y.get 1=some (dS 2 0 [.agg [sl (i.map (T.int .u8)),G 0]]):=by rw[<-u];simp[size_cons]
 have bu:y.get 2=some (dS 15 1 [.agg [sl (jR.cells.map iK.t),sl (jR.fj.map ja.t),sl (jR.iB.map jq.t),sl (jR.fa.map T.str),sl (jR.dW.map T.str),sl (jR.ji.map jc.t),G 0,dR,G 0,dR,dR,dR,dR,dR,dR]]):=by rw[<-u];simp[size_cons]
 clear u;refine jm ahl Y ⟨i,1⟩ ⟨rfl,⟨0,0,bs,Y⟩,bn,P⟩ ?_;rintro _ k ⟨g,rfl,j,t1,o⟩;simp only at t1 o;have bB:=(o.get 2 D).trans bu;have bA:=(o.get 0 D).trans bp;have cL:k.size=3:=by rw[o.size,bH]
 have ap:=λd=>(nM (b:=2) o.ok.hp D d 2).trans (aq rfl);simp[bB,ap];have C:YQ i g 0 dR (fg k 2 (dS 15 2 [wT 0 g dR])):=by
  have w:=nM (b:=2) o.ok.hp D (dS 15 2 [wT 0 g dR]);exact⟨(w 0).trans ((ao D).trans bA),⟨2,(w 2).trans (aq rfl)⟩,t1.eq ((w 1).trans (ao D)),iE.put ⟨o.ok.hp,o.ok.low,D⟩ _ _⟩
 generalize fg k 2 _=bS at*
 refine gu 4 D (λm e k=>(∃f:Int,YQ i g f dR k/\0<=f/\f<=4*m)/\dT e 1 (G B)/\dT e 4 (.ptr 0 0 0 0)/\dT e 5 (.ptr 1 0 0 0)/\dT e 6 (.ptr 2 0 0 0)/\dT e 26 (sl (g.count.map (T.int .i64)))/\dT e 27 (G 4)/\dT e 28 (G m)) ?_ ?_ D ⟨⟨0,C,D,D⟩,by simp[h,l,j.n.2.2.2.2.2]⟩
 ·clear C q h l;rintro m e k bX aE ⟨⟨f,a,a7,a8⟩,h,l,I,A,O,F,H⟩;have aN:(m:Int)<4:=D;have S:m<g.count.length:=by have:=j.n.2.2.2.2.2;omega
  have⟨L,s⟩:=a.g2;have bW:=j.c g.count[m] (aC S);have Z:binop .add (G f) (G g.count[m])=some (G (f+g.count[m])):=BF rfl D D;simp[h,l,I,A,O,F,H,aN,S,s,Z,aE];exact⟨_,a.put _ _ _,D,D⟩
 clear C q h l;rintro e k ⟨⟨f,a,a7,a8⟩,h,l,I,A,O,F,H⟩;have⟨L,s⟩:=a.g2;have bi:min (B:Int) 16=B:=D;simp[h,I,A,F,H,s,bi];have⟨b7,b8,b9,ca,cb,cp⟩:=j.n;refine jm ahi Y ⟨i,1,g,jR,B,true⟩ ⟨rfl,a.tp,⟨a.ok.hp,a.ok.low,aw _⟩,P,av,U,(by decide:jR.dW.length=4),(by decide:jR.cells.length=5),(by decide:jR.iB.length<=1000),j.fits,j.sm,dO⟩ ?_;rintro _ cF ⟨V,rfl,hl,R,hr,t2,X⟩;simp only at hl hr t2 X;replace a:=a.tape t2 X;clear s;have⟨L,s⟩:=a.g2;have bN:=a.put (L+1) f (sl (V.map fk.t));have N:=λd=>(nM (b:=2) a.ok.hp (by have:=a.ok.sz;omega) d 2).trans (aq rfl);have aX:=j.win D R hr f;obtain⟨_,⟨bT,rfl,aA⟩,an⟩:=GY.use ⟨jR,f,g,V⟩ ⟨j.ask D R f,j.fits,dO⟩;simp[A,s,N,an];have w:=λd ae=>nM (b:=2) a.ok.hp (by have:=a.ok.sz;omega) d ae;have M:=λd=>(w d 0).trans ((ao D).trans a.g0);have JI:=λd=>a.ok.put 2 d;have bC:=λd=>(JI d).sz;have W:=λd K=>(nM (b:=0) (JI d).hp (by have:=bC d;omega) K 0).trans (aq rfl);have b6:=λd K=>((JI d).put 0 K).hp;refine fw (λv=>?_) (λv=>?_)
 ·have al:=λ{tb:gG} (ht:tb.p 41=some rU)=>FP ht jR dP dP dP dP;simp[l,Ox,al,M,W];exact⟨⟨⟨jR,0,jW jR,[]⟩,rfl,Zc 0⟩,a.ok.hp⟩
 ·simp[l,A,N,M,W];exact⟨⟨_,rfl,aX (aA (by simpa using v))⟩,a.ok.hp⟩
end
def yC:iy:=⟨Bool,λa=>[.bool a],λ_=>True,λa=> G (if a then 1 else 0),λc a b=>by simp at b;rw[b]⟩
def Sh:yC.Ok prog cx 253:=by
 refine iq [] (jr 13 [] func253) (λ_=>5) (by simp[yC]) ?_;rintro b _ c a;cases b<;>(simp[yC]at a|-;simp[f253,a])
def OB{b:gG}(ht:b.p 253=some yC)(a:Bool):rl prog cx b 253 [.bool a]=some (G (if a then 1 else 0)):=iA ht Sh a trivial
def dL(c:T):Prop:=∃(b:Int) (a:Bool),c= .tuple [G b,.bool a]
def Ig(b:Int)(a:Bool):dL (.tuple [G b,.bool a]):=⟨b,a,rfl⟩
def adt{b:ak}{c a:Int}(e:¬a=0):binop .quo (.int b c) (.int b a)=some (.int b (b.wrap (c.tdiv a))):=by
 have d:U7 a 0=false:=by rw[An];simp[e]
 unfold binop;simp[yX,d]
def ahC{a:ak}{b:Int}:unop .neg (.int a b)=some (.int a (a.wrap (0-b))):=by
 show rS a (0-b)=_;simp
def JF:o9 prog cx 236 (λa:Int×Int=>[G a.1,G a.2]) (λ_=>True) (λ_=>dL):=by
 refine jL [(253,yC)] (jr 2291 [] func236) (λ_=>5) (λa e b=>by simp at b;exact aD b.1 b.2) ?_;rintro⟨f,a⟩ _ g c;simp at c;simp[f236,c]
 repeat' (refine fw (λd=>?_) (λd=>?_)<;>simp[d,c,OB,Ig,ahC])
def Hc:o9 prog cx 238 (λa:Int×Int×Int=>[G a.1,G a.2.1,G a.2.2]) (λ_=>True) (λ_=>dL):=by
 refine jL [(253,yC)] (jr 9690595855641090246329287 [] func238) (λ_=>5) (λa e b=>by simp at b;exact aD b.1 (aD b.2.1 b.2.2)) ?_;rintro⟨g,a,e⟩ _ h c;simp at c;simp[f238,c]
 repeat' (refine fw (λd=>?_) (λd=>?_)<;>simp[d,c,OB,Ig,pP,tZ,ad2])
 all_goals (have f:¬e=0:=by simpa using d)
 all_goals simp [adt f,Da f,Ig]
def Ae:o9 prog cx 237 (λa:Int=>[G a]) (λ_=>True) (λ_=>Hm):=by
 refine jL [] (jr 261 [] func237) (λ_=>5) (λa e d=>by simpa using d) ?_;rintro a _ f b;simp at b;simp[f237,b]
 repeat' (refine fw (λc=>?_) (λc=>?_)<;>simp[c,b])
