import Derived.Test.YtnfojkibhgjfmaaGreatDoorA19
set_option linter.all false
set_option maxRecDepth 100000
set_option maxHeartbeats 0
namespace Go.Proofs.YtnfojkibhgjfmaaGreatDoor
noncomputable section
open Go Go.TI
def ft:aj->aa rS:=λa=>qs.find a
abbrev t0:yD:=[]
def p0:AR Tryz.prog cx t0:= .nil
def a0:List T:=[(.str [118,97,114,32,120,59,32,116,104,114,101,97,100,32,116,40,41,32,123,32,115,112,97,119,110,32,117,59,32,120,32,61,32,49,59,32,125,32,116,104,114,101,97,100,32,117,40,41,32,123,32,120,32,61,32,50,59,32,125])]
def r0:T:=(.tuple [l0,(J 0),(J 0)])
def ajF:Aj ((54,[])::t0) ft 100000 54 a0 ⟨0,0,[]⟩=some (r0,⟨0,0,[]⟩):=dW
abbrev es1:List (List T×T):=(a0,r0)::[]
abbrev t1:yD:=(54,es1)::t0
def p1:AR Tryz.prog cx t1:=AR.next Lt (AR.new (f:=54) p0) dW ajF
def a1:List T:=[l0]
def r1:T:=(.tuple [l4,(J 0),(J 0)])
def ajE:Aj ((55,[])::t1) ft 100000 55 a1 ⟨0,0,[]⟩=some (r1,⟨0,0,[]⟩):=dW
abbrev AM:List (List T×T):=(a1,r1)::[]
abbrev t2:yD:=(55,AM)::t1
def p2:AR Tryz.prog cx t2:=AR.next Lt (AR.new (f:=55) p1) dW ajE
def a2:List T:=[(.eQ [l1,dT,dT,dT,(.em [(.str [116]),(.str [117])] false),l2])]
def r2:T:=(.ej true)
def ajD:Aj ((95,[])::t2) ft 100000 95 a2 ⟨0,0,[]⟩=some (r2,⟨0,0,[]⟩):=dW
abbrev es3:List (List T×T):=(a2,r2)::[]
abbrev t3:yD:=(95,es3)::t2
def p3:AR Tryz.prog cx t3:=AR.next Lt (AR.new (f:=95) p2) dW ajD
def a3:List T:=[l4]
def r3:T:=(.ej true)
def ajC:Aj ((102,[])::t3) ft 100000 102 a3 ⟨0,0,[]⟩=some (r3,⟨0,0,[]⟩):=dW
abbrev es4:List (List T×T):=(a3,r3)::[]
abbrev t4:yD:=(102,es4)::t3
def p4:AR Tryz.prog cx t4:=AR.next Lt (AR.new (f:=102) p3) dW ajC
def a4:List T:=[l4,dT]
def r4:T:=(.tuple [(.eQ [l1,dT,dT,dT,(.em [(.str [116]),(.str [117])] false),l2,l5]),(.eQ [dT,(J (.negSucc 0)),dT,(.em [l6,l6] false),(.em [(J 2)] false),dT,(.em [(.eQ [(J 3),(.em [(J 1)] false),(.em [dT] false),(J 4)]),(.eQ [(J 2),(.em [(J 2)] false),(.em [dT] false),(J 3)])] false)])])
def ajB:Aj ((56,[])::t4) ft 100000 56 a4 ⟨0,0,[]⟩=some (r4,⟨0,0,[]⟩):=dW
abbrev es5:List (List T×T):=(a4,r4)::[]
abbrev t5:yD:=(56,es5)::t4
def p5:AR Tryz.prog cx t5:=AR.next Lt (AR.new (f:=56) p4) dW ajB
def a5:List T:=[l7]
def r5:T:=(.em [l8] false)
def ajA:Aj ((39,[])::t5) ft 100000 39 a5 ⟨0,0,[]⟩=some (r5,⟨0,0,[]⟩):=dW
abbrev es6:List (List T×T):=(a5,r5)::[]
abbrev t6:yD:=(39,es6)::t5
def p6:AR Tryz.prog cx t6:=AR.next Lt (AR.new (f:=39) p5) dW ajA
def a6:List T:=[l7,l8]
def r6:T:=(.tuple [(.em [l9,l9,(.eQ [(J 1),(J (.negSucc 0))])] false),(.ej true)])
def ajz:Aj ((8,[])::t6) ft 100000 8 a6 ⟨0,0,[]⟩=some (r6,⟨0,0,[]⟩):=dW
abbrev es7:List (List T×T):=(a6,r6)::[]
abbrev t7:yD:=(8,es7)::t6
def p7:AR Tryz.prog cx t7:=AR.next Lt (AR.new (f:=8) p6) dW ajz
def ajx:Aj t7 ft 100000 7 [] ⟨0,0,[]⟩=some (.ej true,⟨0,0,[]⟩):=dW
def Zk:p9 Tryz.prog cx (Aj t7 ft 100000):=MW p7 Lt 100000
def XY:mT Tryz.prog cx 7 [] (T.ej true):=Ct (mI _ dW) (Zk _ _ _ _ _ ajx)
end
noncomputable section
open Go Go.TI Tryz
attribute [-simp] List.map_take List.map_drop List.map_append ij fU fH Bool.not_or Bool.not_and
def JO:iE:=⟨Unit,λ_=>[],λ_=>True,λ_=> .ej true,λ_ _ _=>rfl⟩
def Yw:JO.Ok prog cx 7:=λ_ _=>XY
def KN{a:ik}(ht:a.p 7=D JO):rl prog cx a 7 []=D (.ej true):=iF ht Yw () trivial
def Av:iE:=⟨eJ×iw,λa=>[a.1.t,a.2.t],λa=>kj a.1/\a.2.jo.length<=1000000,λa=> .ej (a.1.gx.vR a.2),λa c b=>by simp at b;rw[eJ.inj b.1,iw.inj b.2]⟩
def S9{b:ik}(ht:b.p 57=D u9)(a:eJ)(c:kj a):rl prog cx b 57 [a.t]=D (.tuple [iC.t ⟨a,a.gx.st⟩,.ej true]):=iF ht I1 a c
def UI:Av.Ok prog cx 20:=by
 refine iz [(57,u9),(58,xX)] (js 127 [] func20) (λ_=>100) (by simp[Av]) ?_;rintro⟨b,c⟩ ⟨a,hl⟩ e d
 dsimp at a hl
 simp[Av]at d|-;simp[*,f20,S9,QW,(⟨a,rfl⟩:An ⟨b,b.gx.st⟩)];exact GX.XH _ c
def xZ:iE:=⟨iq,λa=>[a.t],λa=>a.fQ.length<=1000000/\a.done.length<=1000000/\a.d8.length<=1000000/\∀c∈a.fQ,c.fZ.length<=1000000,λa=>a.t,λd e b=>by simp at b;rw[iq.inj b]⟩
def Yu:xZ.Ok prog cx 29:=by
 rintro(a:iq) d;have⟨q,h,l,k⟩:=GQ [a.t] ⟨0,0,[]⟩ ⟨a,rfl,⟨rfl,az _,az _⟩,d⟩;obtain⟨e,f,g,p,rfl,b,n⟩:=l a ⟨rfl,⟨rfl,az _,az _⟩,d⟩;have m:TI.qY h (Rt a e f g)=D a.t:=by
  unfold Rt;rw[Qu];simp[b.fz.1,b.fz.2.1,b.fz.2.2]
 have⟨r,i,c⟩:=ed.1 m;simp[ay]at c;have:=HM k n.ok.hp (aB _) V i;rw[c]at this;exact Gy (mI _ (by simp[xZ])) V this
def WB{b:ik}(ht:b.p 29=D xZ)(a:iq)(c:a.fQ.length<=1000000/\a.done.length<=1000000/\a.d8.length<=1000000/\∀d∈a.fQ,d.fZ.length<=1000000):rl prog cx b 29 [a.t]=D a.t:=iF ht Yu a c
section
attribute [-simp] size_cons
def BQ{d:ik}(ht:d.p 32=D sq)(b:eJ)(a:fK)(c:Int)(e:uq b a):rl prog cx d 32 [b.t,a.t,J c]=D (.ej (jw b a c)):=iF ht LS (b,a,c) e
def DD:iE:=⟨eJ×fK×Int,λa=>[a.1.t,a.2.1.t,J a.2.2],λa=>uq a.1 a.2.1,λa=>sl ((oh a.1 a.2.1 a.2.2).map (T.int .i64)),λa c b=>by simp at b;rw[show a=c from aG (eJ.inj b.1) (aG (fK.inj b.2.1) b.2.2)]⟩
def X7:DD.Ok prog cx 10:=by
 refine iz [(30,o7),(31,u5)] (js 34368127455 [] func10) (λr=>5) (by simp[DD]) ?_;rintro⟨b,a,c⟩ (e:uq b a) C j;simp[DD]at j|-;obtain⟨w,x,y⟩:=j;have hE:=oh.eq_1 b a c;generalize oh b a c=q at*
 have z:=λ{i:ik} (ht:i.p 30=D o7)=>C5 ht b a c e.ev e.od;by_cases o:jG b a c<0
 .rw[aw G]at hE;simp[*,f10,show¬0<=jG b a c by omega]
  try rfl
 .have f:=qP o;have⟨d,k,s,t,u,v⟩:=e.hw.at f;rw[qr (fT.1 f).1 k]at hE;have n:a.gH.d8.length<=1099511627776:=iH (e.l (pZ f));have A:=λ{i:ik} (ht:i.p 31=D u5)=>C3 ht a.gH d.obj n;have m:0<=jG b a c:=G;cases g:decide (d.fc=18)
  .rw[aw (by simp at g;simp[g])]at hE;simp[*,f10]
   try rfl
  .by_cases h:jh d.obj a.gH.d8 0=[]
   .rw[aw (by simp[h])]at hE;simp[*,f10]
    try rfl
   rw[ax ⟨m,iD g,h⟩]at hE;have B:0<(jh d.obj a.gH.d8 0).length:=List.length_pos_iff.2 h;simp[*,f10]
def adg{d:ik}(ht:d.p 10=D DD)(b:eJ)(a:fK)(c:Int)(e:uq b a):rl prog cx d 10 [b.t,a.t,J c]=D (sl ((oh b a c).map (T.int .i64))):=iF ht X7 (b,a,c) e
def ahJ(g:H)(a:iq)(b:Nat)(c d:List im):Prop:=∃h e f,oQ g 4 9 h [(sl (a.fQ.map fk.t),none),(J a.tx,none),(sl (a.done.map T.ej),none),(sl (a.d8.map ew.t),none),(e,some (2,c.map im.t)),(f,some (2,d.map im.t)),(dT,none),(.arr 2 0 0 b false,some (1,(ao b false).map T.ej)),(.arr 3 0 0 b false,some (1,(ao b (0:Int)).map (T.int .i64)))]
def r8:jI:=(dU 9 0 [.eQ [dT,J 0,dT,dT,dT,dT,dT,dT,dT]])
def zk:iE:=⟨eJ,λa=>[a.t],λa=>kj a,λa=>(ls a).t,λc d b=>by simp at b;rw[eJ.inj b]⟩
def RZ:zk.Ok prog cx 9:=by
 refine iz [(29,xZ)] (js 17592202821695 [(1,[(3,5),(3,7),(3,9),(3,11),(3,13)])] func9) (λ_=>1000005) (by simp[zk]) ?_;rintro(a:eJ) K d s;simp[zk]at s|-;have⟨l1,l2,l3,l4,l5,l6⟩:=K.sm.l;have a8:=K.ok.len;have aE:a.ei.length<=70368744177664:=G;have aN:a.ei.length*8<=70368744177664:=G;have a7:=λ{av:ik} (ht:av.p 29=D xZ)=>WB ht a.kH.gH ⟨G,G,G,λan w=>iH (K.sm.r an w)⟩;have W:ls a=⟨a.kH.gH,a.kH.cells.map λi=>⟨i,true⟩,a.kH.fI.map λi=>⟨i,true⟩,[],ao a.ei.length false,ao a.ei.length 0⟩:=rfl;rw[W];simp[*,f9];generalize a.kH.gH=c at*
 refine gW a.kH.cells.length G (λj d g=>ahJ g c a.ei.length ((a.kH.cells.take j).map λi=>⟨i,true⟩) []/\Lb 4 g 0 (dU 15 0 [a.t])/\Lb 4 g 1 r8/\TI.Y d 1=D (dY 0)/\TI.Y d 2=D (dY 1)/\TI.Y d 3=D (dY 4)/\TI.Y d 4=D (J j)) ?_ ?_ G ?_;rintro j d g I X ⟨⟨L,e,f,b⟩,h,m,B,C,F,H⟩;have v:=b.get;simp at v;have⟨aA,U,S,q⟩:=(b.gr 4 rfl).mR (cx:=cx) (f:=im.t) b.ok BO rfl HF rfl V (λ_=>rfl) ⟨a.kH.cells[j],true⟩ dP;have⟨y,ap,z⟩:=b.app 4 rfl q;have⟨o,A⟩:=z _ rfl;simp only[aR,bL,cS,cJ]at y o A;simp[*,h.get,fD,q.1.iW,q.1.cells];exact⟨⟨_,_,_,by rw[aT I,List.map_append];exact A⟩,h.step o,m.step o⟩;rintro d g ⟨⟨L,e,f,b⟩,h,m,B,C,F,H⟩;rw[aM]at b;simp[*,h.get];refine gW a.kH.fI.length G (λj d g=>ahJ g c a.ei.length (a.kH.cells.map λi=>⟨i,true⟩) ((a.kH.fI.take j).map λi=>⟨i,true⟩)/\Lb 4 g 0 (dU 15 0 [a.t])/\Lb 4 g 1 r8/\TI.Y d 1=D (dY 0)/\TI.Y d 2=D (dY 1)/\TI.Y d 3=D (dY 4)/\TI.Y d 5=D (J j)) ?_ ?_ G ⟨⟨_,_,_,b⟩,h,m,by simp[*]⟩;rintro j d g I X ⟨⟨L,e,f,b⟩,h,m,B,C,F,H⟩;have v:=b.get;simp at v;have⟨aA,U,S,q⟩:=(b.gr 5 rfl).mR (cx:=cx) (f:=im.t) b.ok BO rfl HF rfl V (λ_=>rfl) ⟨a.kH.fI[j],true⟩ dP;have⟨y,ap,z⟩:=b.app 5 rfl q;have⟨o,A⟩:=z _ rfl;simp only[aR,bL,cS,cJ]at y o A;simp[*,h.get,fD,q.1.iW,q.1.cells];exact⟨⟨_,_,_,by rw[aT I,List.map_append];exact A⟩,h.step o,m.step o⟩;rintro d g ⟨⟨L,e,f,b⟩,h,m,B,C,F,H⟩;rw[aM]at b;have v:=b.get;simp at v;have Q:=m.get;unfold r8 at Q;have E:=b.rx m (dU 9 1 [.eQ [sl (c.fQ.map fk.t),J c.tx,sl (c.done.map T.ej),sl (c.d8.map ew.t),e,f,dT,.arr 2 0 0 a.ei.length false,.arr 3 0 0 a.ei.length false]]);have aX:(fF g 1 (dU 9 1 [.eQ [sl (c.fQ.map fk.t),J c.tx,sl (c.done.map T.ej),sl (c.d8.map ew.t),e,f,dT,.arr 2 0 0 a.ei.length false,.arr 3 0 0 a.ei.length false]])).get 1=_:=(ez Q _ 1).trans (ax rfl);have bi:=(E.gr 4 rfl).fz V;have bn:=(E.gr 5 rfl).fz V;have bp:=(E.gr 7 rfl).fz V;have bs:=(E.gr 8 rfl).fz V;simp[-List.map_replicate,-yk, *,h.get,fD];exact⟨b.ok.hp,by unfold fK.t fK.cs;simp[-List.map_replicate]⟩
 .have P:∀(n:Nat) (u:T×aa (Nat×List T)),([(sl (c.fQ.map fk.t),none),(J c.tx,none),(sl (c.done.map T.ej),none),(sl (c.d8.map ew.t),none),(dT,some (2,[])),(dT,some (2,[])),(dT,none),(.arr 2 0 0 a.ei.length false,some (1,(ao a.ei.length false).map T.ej)),(.arr 3 0 0 a.ei.length false,some (1,(ao a.ei.length (0:Int)).map (T.int .i64)))]:List (T×aa (Nat×List T)))[n]? =D u->∀e,fa u.1=D e->e+5=n:=by
   intro n u s e ae;rcases n with _|_|_|_|_|_|_|_|_|n<;>simp at s<;>subst s<;>simp at ae<;>omega
  refine⟨⟨1,dT,dT,⟨V,V,V⟩,V,λf M=>?_,λn k al u R s Z e y z=>al ?_⟩,⟨V,?_⟩,⟨by simp[r8],?_⟩,V⟩
  .simp only[cz,cV,or_false,bL,List.take_zero]at M;rcases M with rfl|rfl|rfl|rfl|rfl|rfl|rfl|rfl|rfl
   iterate 4 (show fa _=none;simp)
   exact⟨Gr.nil _ _,dR⟩;exact⟨Gr.nil _ _,dR⟩;show fa _=none;simp;exact⟨.inr ⟨2,0,0,true,_,V,by simp;rfl,V⟩,show(1:Nat)≠9 by decide⟩;exact⟨.inr ⟨3,0,0,true,_,V,by simp;rfl,V⟩,show(1:Nat)≠9 by decide⟩
  have B:=P n u (iD s) e y;have C:=P k R (iD Z) e z;omega
  all_goals
   rintro(w|⟨x,O,i,N,w⟩);simp at w;simp at O;subst O;simp[ir,T.cells]at N;rcases N with rfl|rfl|rfl|rfl|rfl|rfl|rfl|rfl|rfl<;>simp at w
def Wl{b:ik}(ht:b.p 9=D zk)(a:eJ)(c:kj a):rl prog cx b 9 [a.t]=D (ls a).t:=iF ht RZ a c
def IJ:iE:=⟨fK×Int,λa=>[a.1.t,J a.2],λa=>a.1.order.length<=1000000,λa=> J (place a.1 a.2),λa c b=>by simp at b;rw[show a=c from aG (fK.inj b.1) b.2]⟩
def ab9:IJ.Ok prog cx 38:=by refine iz [] (js 525367 [] func38) (λo=>1000005) (by simp[IJ]) ?_;rintro⟨c,i⟩ hl b m;simp[IJ]at hl m|-;obtain⟨p,f⟩:=m;simp[*,f38];refine gW c.order.length G (λe b d=>iS 1 d/\d.get 0=D (dU 9 0 [c.t])/\TI.Y b 1=D (J i)/\TI.Y b 2=D (dY 0)/\TI.Y b 5=D (J e)/\qA (c.order.drop e) i e=place c i) ?_ ?_ G ⟨⟨V,V,V⟩,V,by simp[f,place]⟩;rintro e b d n q ⟨j,k,f,l,g,a⟩;rw[aL n]at a;simp[qA]at a;simp[*];refine fG (λh=>?_) (λh=>?_);rw[ax (iD h)]at a;simp[g,j.hp,<-a];rw[aw (iD h)]at a;simp[*];rintro b d ⟨j,k,f,l,g,a⟩;rw[cq]at a;simp[qA]at a;simp[k,l,g,j.hp,<-a]
def ahu{c:ik}(ht:c.p 38=D IJ)(a:fK)(b:Int)(d:a.order.length<=1000000):rl prog cx c 38 [a.t,J b]=D (J (place a b)):=iF ht ab9 (a,b) d
def xd:iE:=⟨eJ×fK×Int,λa=>[a.1.t,a.2.1.t,J a.2.2],λa=>uq a.1 a.2.1/\jx a.2.2 a.1.ei.length=true,λa=> .ej (rj a.1 a.2.1 a.2.2),λa c b=>by simp at b;rw[show a=c from aG (eJ.inj b.1) (aG (fK.inj b.2.1) b.2.2)]⟩
def R8:xd.Ok prog cx 37:=by
 refine iz [(30,o7),(32,sq)] (js 223 [] func37) (λl=>5) (by simp[xd]) ?_;rintro⟨c,a,e⟩ ⟨b,d⟩ v g
 dsimp at b d
 simp[xd]at g|-;obtain⟨r,s,t⟩:=g;have⟨f,i,m,n,o,q⟩:=b.hw.at d;have hE:=rj.eq_1 c a e;rw[qr (fT.1 d).1 i]at hE;generalize rj c a e=k at*
 have u:=λ{j:ik} (ht:j.p 30=D o7)=>C5 ht c a f.eG b.ev b.od;cases h:decide (jG c a f.eG=e);rw[h]at hE;simp[*,f37];rw[h,bj]at hE;simp[*,f37,BQ]
def Wm{d:ik}(ht:d.p 37=D xd)(a:eJ)(b:fK)(c:Int)(e:uq a b)(f:jx c a.ei.length):rl prog cx d 37 [a.t,b.t,J c]=D (.ej (rj a b c)):=iF ht R8 (a,b,c) ⟨e,f⟩
def ZR{h:GX}{f:iw}(e:h.vR f):(f.fc=2/\∀i∈f.jo,jx i h.ev.length=true)\/((f.fc=1\/f.fc=3\/f.fc=4)/\h.BZ f.a/\h.BZ f.b/\h.BZ f.c/\h.BZ f.d=true):=by unfold GX.vR at e;split at e;rename_i g;refine .inl ⟨g,λi j=>?_⟩;unfold GX.dead GX.Ji at e;simp[aC,cF]at e;exact e.2.1.2 i j;split at e;rename_i g;simp[aC]at g;refine .inr ⟨?_,g.1.1.1,g.1.1.2,g.1.2,g.2⟩;split at e;omega;split at e;omega;split at e;omega;simp at e;simp at e
def wQ(b:eJ)(c:fK)(a:Int):Bool:=decide (jG b c (mP b.ei a).eG=a)&&(!decide ((mP b.ei a).fc=17)||decide ((pW c.gH (mP b.ei a).eG).jq=4))
def Qo{a:List Int}{c:Int}(b:a.getLast?=D c):0<a.length/\a[a.length-1]? =D c:=by rw[List.getLast?_eq_getElem?]at b;refine⟨?_,b⟩;cases a;simp at b;simp
def xh:iE:=⟨eJ×fK×iw,λa=>[a.1.t,a.2.1.t,a.2.2.t],λa=>uq a.1 a.2.1/\a.2.2.jo.length<=1000000,λa=> .ej (a.1.gx.vR a.2.2&&At a.1 a.2.1 a.2.2),λa c b=>by simp at b;rw[show a=c from aG (eJ.inj b.1) (aG (fK.inj b.2.1) (iw.inj b.2.2))]⟩
def Sg:xh.Ok prog cx 12:=by
 refine iz [(36,qj),(37,xd),(30,o7),(38,IJ)] (js 28334198897252767945215 [(11,[(4,6),(4,8),(4,9)]),(16,[(9,10),(9,12)])] func12) (λbA=>1000005) (by simp[xh]) ?_;rintro⟨e,d,c⟩ ⟨g,hl⟩ w K
 dsimp at g hl
 simp[xh]at K|-;obtain⟨q,r,s⟩:=K;have u:=λ{v:ik} (ht:v.p 36=D qj)=>HN ht e c g.hw hl;cases o:e.gx.vR c;simp[f12,q,r,s,u,o];have hE:=At.eq_1 e d c;rw[bj];generalize At e d c=B at*
 have bi:=g.od;have Z:=λ{v:ik} (ht:v.p 38=D IJ) (n:Int)=>ahu ht d n bi;rcases ZR o with⟨k,C⟩|⟨k,K,aX,bN,bS⟩
 have h:decide (c.fc=1)=false:=by simp[k]
 have y:decide (c.fc=2):=by simp[k]
 rw[aw G,ax k]at hE;simp[f12,q,r,s,u,o,h,y];refine gW c.jo.length G (λi w x=>iS 3 x/\x.get 0=D (dU 15 0 [e.t])/\x.get 1=D (dU 9 0 [d.t])/\x.get 2=D (dU 6 0 [c.t])/\TI.Y w 3=D (dY 0)/\TI.Y w 4=D (dY 1)/\TI.Y w 5=D (dY 2)/\TI.Y w 7=D (J i)/\(c.jo.drop i).all (wQ e d)=B) ?_ ?_ G ⟨⟨V,V,V⟩,V,V,V,by simp[hE];rfl⟩;rintro i w x E aN ⟨m,R,S,F,T,U,H,I,f⟩;rw[aL E,cA]at f;have⟨j,X,an,bC,ap,bH⟩:=g.hw.at (C _ (aH E));have aE:wQ e d c.jo[i]=(decide (jG e d j.eG=c.jo[i])&&(!decide (j.fc=17)||decide ((pW d.gH j.eG).jq=4))):=by
  unfold wQ;rw[qr (fT.1 (C _ (aH E))).1 X]
 rw[aE]at f;have⟨l,t1,t2,t3⟩:=xR (g.hc.ft (pZ (C _ (aH E)))) ap;rw[t3]at f;have al:=m.ne (b:=0) G;have O:=m.ne (b:=1) G;have P:=m.ne (b:=2) G;have a8:=λ{v:ik} (ht:v.p 30=D o7)=>C5 ht e d j.eG g.ev g.od;simp[R,S,F,T,U,H,I,E,al,O,P,m.low,X,an,a8,t1,t2];refine fG (λa7=>?_) (λa7=>?_);rw[show(decide (jG e d j.eG=c.jo[i])&&(!decide (j.fc=17)||decide (l.jq=4)))=false by grind]at f;simp at f;simp[m.hp,f];rw[show(decide (jG e d j.eG=c.jo[i])&&(!decide (j.fc=17)||decide (l.jq=4)))=true by grind]at f;simp at f;simp[R,S,F,T,U,H,I,al,O,P,aN,m.cons,f];rintro w x ⟨m,R,S,F,T,U,H,I,f⟩;rw[cq]at f;simp at f;simp[F,H,I,m.hp,f];have W:=λ{v:ik} (ht:v.p 37=D xd) (i:Int) (C:jx i e.ei.length)=>Wm ht e d i g C;have L:jx c.a e.ei.length:=K;have ae:jx c.b e.ei.length:=aX;rcases k with k|k|k
 have h:decide (c.fc=1):=by simp[k]
 rw[ax k]at hE;cases Q:rj e d c.a;rw[Q]at hE;simp[f12,q,r,s,u,o,h,W,L,Q,hE];rw[Q,bj]at hE;simp[f12,q,r,s,u,o,h,W,L,ae,Q,hE];have h:decide (c.fc=1)=false:=by simp[k]
 have y:decide (c.fc=2)=false:=by simp[k]
 have N:decide (c.fc=3):=by simp[k]
 rw[aw G,aw G,ax k]at hE;have⟨A,av,aA⟩:=jm (l:=d.qV) (i:=c.a) (g.hc.wk▸L);have bs:=fO (fT.1 L).1;have bn:Es d c.a=decide (A=0):=by unfold Es;rw[aA];simp
 rw[bn]at hE;rcases M:d.order.getLast? with _|z
 have:d.order=[]:=iD M;rw[M]at hE;simp at hE;simp[f12,q,r,s,u,o,h,y,N,this,hE];have⟨O,P⟩:=Qo M;rw[M]at hE;have bu:decide (some z=D c.b)=decide (z=c.b):=V;rw[bu]at hE;have bp:binop .sub (J (d.order.length:Int)) (J 1)=D (J ((d.order.length-1:Nat):Int)):=by rw[lK G G,show(d.order.length:Int)-1=((d.order.length-1:Nat):Int)by omega]
 simp[f12,q,r,s,u,o,h,y,N,O,P,bp,Z,bs,av,hE];have h:decide (c.fc=1)=false:=by simp[k]
 have y:decide (c.fc=2)=false:=by simp[k]
 have N:decide (c.fc=3)=false:=by simp[k]
 rw[aw G,aw G,aw G]at hE;simp[f12,q,r,s,u,o,h,y,N,Z,W,ae,hE]
def Wy{d:ik}(ht:d.p 12=D xh)(b:eJ)(c:fK)(a:iw)(e:uq b c)(hl:a.jo.length<=1000000):rl prog cx d 12 [b.t,c.t,a.t]=D (.ej (b.gx.vR a&&At b c a)):=iF ht Sg (b,c,a) ⟨e,hl⟩
def QV{c:ik}(ht:c.p 20=D Av)(b:eJ)(a:iw)(d:kj b)(hl:a.jo.length<=1000000):rl prog cx c 20 [b.t,a.t]=D (.ej (b.gx.vR a)):=iF ht UI (b,a) ⟨d,hl⟩
def vj(b:eJ)(c:fK)(a:Int):Bool:=jx a b.ei.length&&decide (jG b c (mP b.ei a).eG=a)
def xW(b:eJ)(c:fK)(a:Int):Bool:=jx a b.ei.length&&rj b c a
def Az:iE:=⟨eJ×fK×Int,λa=>[a.1.t,a.2.1.t,J a.2.2],λa=>uq a.1 a.2.1,λa=> .ej (vj a.1 a.2.1 a.2.2),λa c b=>by simp at b;rw[show a=c from aG (eJ.inj b.1) (aG (fK.inj b.2.1) b.2.2)]⟩
def UV:Az.Ok prog cx 123:=by refine iz [(64,u6)] (js 95 [] func123) (λn=>5) (by simp[Az]) ?_;rintro⟨c,e,a⟩ (g:uq c e) u d;simp[Az]at d|-;cases b:jx a c.ei.length;have s:=sw b;by_cases h:0<=a;simp[f123,d,vj,b,show decide (0<=a)=true by simpa using h,show decide (a<(c.ei.length:Int))=false by simp;omega];simp[f123,d,vj,b,show decide (0<=a)=false by simpa using h];have⟨j,f,k,o,q,r⟩:=g.hw.at b;have⟨i,t⟩:=fT.1 b;have l:=λ{m:ik} (ht:m.p 64=D u6)=>KK ht c e j.eG g;simp[f123,d,vj,b,show decide (0<=a)=true by simpa using i,show decide (a<(c.ei.length:Int))=true by simp;omega,f,k,l,qr i f]
def FG{d:ik}(ht:d.p 123=D Az)(b:eJ)(a:fK)(c:Int)(e:uq b a):rl prog cx d 123 [b.t,a.t,J c]=D (.ej (vj b a c)):=iF ht UV (b,a,c) e
def Cj:iE:=⟨eJ×fK×Int,λa=>[a.1.t,a.2.1.t,J a.2.2],λa=>uq a.1 a.2.1,λa=> .ej (xW a.1 a.2.1 a.2.2),λa c b=>by simp at b;rw[show a=c from aG (eJ.inj b.1) (aG (fK.inj b.2.1) b.2.2)]⟩
def UR:Cj.Ok prog cx 122:=by
 refine iz [(123,Az),(63,qK)] (js 95 [] func122) (λi=>5) (by simp[Cj]) ?_;rintro⟨a,b,c⟩ (h:uq a b) p g;simp[Cj]at g|-;have o:xW a b c=(vj a b c&&jw a b (mP a.ei c).eG):=by unfold xW vj rj;rw[Bool.and_assoc]
 cases d:vj a b c;simp[*,f122,FG];have e:jx c a.ei.length:=by unfold vj at d;simp[aC]at d;exact d.1
 have⟨j,f,k,l,m,n⟩:=h.hw.at e;simp[*,f122,FG,Ej,qr (fT.1 e).1 f]
def QZ{d:ik}(ht:d.p 122=D Cj)(b:eJ)(a:fK)(c:Int)(e:uq b a):rl prog cx d 122 [b.t,a.t,J c]=D (.ej (xW b a c)):=iF ht UR (b,a,c) e
def Jh(c:eJ)(a:fK)(b:Int):Bool:=vj c a b&&wQ c a b
def pw(g:eJ)(f:fK)(e:iw):Bool:=
 if e.fc=1 then xW g f e.a&&xW g f e.b
 else if e.fc=2 then e.jo.all (Jh g f)
 else if e.fc=3 then decide (f.order.getLast?=D e.b)&&decide (e.a∈f.order)&&Es f e.a
 else if e.fc=4 then decide (0<=place f e.a)&&decide (place f e.a<place f e.c)&&decide (e.d∈f.order)&&xW g f e.b
 else false
def zl:iE:=⟨eJ×fK×iw,λa=>[a.1.t,a.2.1.t,a.2.2.t],λa=>uq a.1 a.2.1/\a.2.2.jo.length<=1000000,λa=> .ej (pw a.1 a.2.1 a.2.2),λa c b=>by simp at b;rw[show a=c from aG (eJ.inj b.1) (aG (fK.inj b.2.1) (iw.inj b.2.2))]⟩
def Sa:zl.Ok prog cx 61:=by
 refine iz [(122,Cj),(123,Az),(73,nO),(70,wc)] (js 332306998946231919705005790102318975 [] func61) (λaX=>1000005) (by simp[zl]) ?_;rintro⟨h,d,c⟩ ⟨l,hl⟩ o j
 dsimp at l hl
 simp[zl]at j|-;have hE:=pw.eq_1 h d c;generalize pw h d c=R at*
 have E:=l.od;by_cases e:c.fc=1;rw[ax e]at hE;simp[f61,j,show decide (c.fc=1)=true by simpa using e,QZ,l,hE];rw[aw e]at hE;have p:decide (c.fc=1)=false:=iD e;by_cases e:c.fc=2
 .rw[ax e]at hE;have m:decide (c.fc=2):=iD e;simp[f61,j,p,m];refine gW c.jo.length G (λi o u=>iS 3 u/\u.get 0=D (dU 15 0 [h.t])/\u.get 1=D (dU 9 0 [d.t])/\TI.Y o 3=D (dY 0)/\TI.Y o 4=D (dY 1)/\TI.Y o 31=D (sl (c.jo.map (T.int .i64)))/\TI.Y o 32=D (J c.jo.length)/\TI.Y o 33=D (J i)/\(c.jo.drop i).all (Jh h d)=R) ?_ ?_ G ⟨⟨V,V,V⟩,V,V,by simp[hE]⟩
  .rintro i o u H al ⟨n,x,y,z,B,A,v,w,f⟩;rw[aL H,cA]at f;have Z:Jh h d c.jo[i]=(vj h d c.jo[i]&&wQ h d c.jo[i]):=rfl;rw[Z]at f;have aE:=n.ne (b:=0) G;have s:=n.ne (b:=1) G;cases g:vj h d c.jo[i]with
   |false=>
    rw[g]at f;simp at f;simp[x,y,z,B,A,v,w,H,FG,l,g,n.hp,f]
   |true=>
   rw[g,bj]at f;have k:jx c.jo[i] h.ei.length:=by unfold vj at g;simp[aC]at g;exact g.1
   have⟨r,F,U,a7,M,a8⟩:=l.hw.at k;have ae:wQ h d c.jo[i]=(decide (jG h d r.eG=c.jo[i])&&(!decide (r.fc=17)||decide ((pW d.gH r.eG).jq=4))):=by
    unfold wQ;rw[qr (fT.1 k).1 F]
   have aA:decide (jG h d r.eG=c.jo[i]):=by unfold vj at g;simp only[aC]at g;rw[qr (fT.1 k).1 F]at g;exact g.2
   rw[ae,aA,bj]at f;have N:=l.hc.ft (pZ k);have⟨O,t1,t2,t3⟩:=xR N M;have an:decide ((d.gH.d8.length:Int)<=r.eG)=false:=by rw[(oN N).2.2];have:=fT.1 M;simp;omega
   rw[t3]at f;simp[x,y,z,B,A,v,w,H,FG,l,g,F,U,s,n.low,t1,t2,an];refine fG (λap=>?_) (λap=>?_);rw[show(!decide (r.fc=17)||decide (O.jq=4))=false by grind]at f;simp at f;simp[n.hp,f];rw[show(!decide (r.fc=17)||decide (O.jq=4))=true by grind]at f;simp at f;simp[x,y,z,B,A,v,w,aE,s,al,n.cons,f]
  rintro o u ⟨n,x,y,z,B,A,v,w,f⟩;rw[cq]at f;simp at f;simp[v,w,n.hp,f]
 rw[aw e]at hE;have m:decide (c.fc=2)=false:=iD e;by_cases e:c.fc=3;rw[ax e]at hE;have q:decide (c.fc=3):=iD e;have bn:d.qV.length=h.ei.length:=l.hc.wk;rcases C:d.order.getLast? with _|P
 have av:d.order=[]:=iD C;rw[C]at hE;simp at hE;simp[f61,j,p,m,q,av,hE];have⟨s,I⟩:=Qo C;rw[C]at hE;have aN:decide (some P=D c.b)=decide (P=c.b):=V;rw[aN]at hE;have K:binop .sub (J (d.order.length:Int)) (J 1)=D (J ((d.order.length-1:Nat):Int)):=by rw[lK G G,show(d.order.length:Int)-1=((d.order.length-1:Nat):Int)by omega]
 cases k:jx c.a d.qV.length;have bi:=sw k;have L:Es d c.a=false:=by unfold Es;rw[pT k];rfl
 rw[L,Bool.and_false]at hE;by_cases g:0<=c.a;simp[f61,j,p,m,q,s,I,K,oP,E,show decide (0<=c.a)=true by simpa using g,show decide (c.a<(d.qV.length:Int))=false by simp;omega,hE];simp[f61,j,p,m,q,s,I,K,oP,E,show decide (0<=c.a)=false by simpa using g,hE];have⟨Q,W,X⟩:=jm k;have⟨p1,p2⟩:=fT.1 k;have L:Es d c.a=decide (Q=0):=by unfold Es;rw[X];simp
 rw[L]at hE;simp[f61,j,p,m,q,s,I,K,oP,E,show decide (0<=c.a)=true by simpa using p1,show decide (c.a<(d.qV.length:Int))=true by simp;omega,fO p1,W,hE];rw[aw e]at hE;have q:decide (c.fc=3)=false:=iD e;by_cases e:c.fc=4;rw[ax e]at hE;have S:decide (c.fc=4):=iD e;simp[f61,j,p,m,q,S,KL,oP,QZ,l,E,hE];rfl;rw[aw e]at hE;simp[f61,j,p,m,q,show decide (c.fc=4)=false by simpa using e,hE]
def Wo{d:ik}(ht:d.p 61=D zl)(c:eJ)(a:fK)(b:iw)(e:uq c a)(hl:b.jo.length<=1000000):rl prog cx d 61 [c.t,a.t,b.t]=D (.ej (pw c a b)):=iF ht Sa (c,a,b) ⟨e,hl⟩
def wg:iE:=⟨eJ×fK×iw,λa=>[a.1.t,a.2.1.t,a.2.2.t],λa=>uq a.1 a.2.1/\a.2.2.jo.length<=1000000,λa=> .ej (pw a.1 a.2.1 a.2.2&&a.1.gx.vR a.2.2),λa c b=>by simp at b;rw[show a=c from aG (eJ.inj b.1) (aG (fK.inj b.2.1) (iw.inj b.2.2))]⟩
def U7:wg.Ok prog cx 23:=by
 refine iz [(61,zl),(20,Av)] (js 127 [] func23) (λc=>5) (by simp[wg]) ?_;rintro⟨g,d,e⟩ ⟨a,hl⟩ f b
 dsimp at a hl
 simp[wg]at b|-;simp[*,f23,Wo,QV,a.hw]
def Q1{d:ik}(ht:d.p 23=D wg)(b:eJ)(c:fK)(a:iw)(e:uq b c)(hl:a.jo.length<=1000000):rl prog cx d 23 [b.t,c.t,a.t]=D (.ej (pw b c a&&b.gx.vR a)):=iF ht U7 (b,c,a) ⟨e,hl⟩
@[simp]def alC (a:Nat):(a+1+1=a)=False:=dP 
@[simp]def alA (a:Nat):(a+1+1+1=a)=False:=dP 
@[simp]def alz (a:Nat):(a+1+1+1+1=a)=False:=dP 
@[simp]def aly (a:Nat):(a+1+1+1+1+1=a)=False:=dP 
@[simp]def alx (a:Nat):(a+1+1+1+1+1+1=a)=False:=dP 
@[simp]def alr (a:Nat):(a=a+1+1+1+1+1+1)=False:=dP 
@[simp]def alq (a:Nat):(a=a+1+1+1+1+1+1+1)=False:=dP 
def Bx(e:H)(a b f:Nat)(c:List T):Prop:=∃g d,e.get a=D ⟨f,b,g,d,false,c⟩
def Bx.mono{d h':H}{a b e:Nat}{c:List T}(j:Bx d a b e c)(g:h'.get a=d.get a):Bx h' a b e c:=by obtain⟨i,f,h⟩:=j;exact⟨i,f,g.trans h⟩
def Bx.gr{d:H}{b c e:Nat}{a:List T}(g:Bx d b c e a):Gr d (.arr b c 0 a.length false) e a:=by obtain⟨i,h,f⟩:=g;exact Gr.new f
def Ul(a:fK)(b:List T)(c:H):Prop:=b=[a.t]/\iS 0 c/\(a.gH.fQ.length<=1000000/\a.gH.done.length<=1000000/\a.gH.d8.length<=1000000/\∀d∈a.gH.fQ,d.fZ.length<=1000000)/\a.cells.length<=1000000/\a.fI.length<=1000000/\a.order.length<=1000000/\a.fixed.length<=1000000/\a.qV.length<=1000000
def aaZ(a:fK)(b c d e f g:Nat):T:= .eQ [sl (a.gH.fQ.map fk.t),J a.gH.tx,sl (a.gH.done.map T.ej),sl (a.gH.d8.map ew.t),.arr b c 0 a.cells.length false,.arr (b+1) d 0 a.fI.length false,.arr (b+1+1) e 0 a.order.length false,.arr (b+1+1+1) f 0 a.fixed.length false,.arr (b+1+1+1+1) g 0 a.qV.length false]
structure Xr(c:fK)(n e1 e2 e3 e4 e5:Nat)(h':H):Prop where
 bc:Bx h' n e1 2 (c.cells.map im.t)
 bf:Bx h' (n+1) e2 2 (c.fI.map im.t)
 bo:Bx h' (n+1+1) e3 1 (iy c.order)
 bx:Bx h' (n+1+1+1) e4 1 (c.fixed.map T.ej)
 bk:Bx h' (n+1+1+1+1) e5 1 (iy c.qV)
 bz:n+5<=h'.size
def P5(b:fK)(k:List T)(h:H)(j:T)(i:H):Prop:=∃a c d e f g,h.size<=a/\Nb h i/\j=aaZ b a c d e f g/\Xr b a c d e f g i
def yX{b c:H}{x:jI}(e:∀a,a<b.size->c.get a=b.get a)(f:c.size=b.size+1)(a:Nat)(d:(a=b.size)=False):gJ (b.cons x) c a=true:=by rcases Nat.lt_trichotomy a b.size with q|q|q;exact il ((e a q).trans d2);exact(d▸q:False).elim;exact jF (mG _ dP)
def Vh:(jS fK Ul P5).Ok prog cx 34:=by
 refine jz (tb:=⟨pt [(29,xZ)],ht []⟩) jk iX (js 7 [(1,[(2,3),(2,5),(2,7),(6,7),(2,9),(6,9),(2,11),(6,11),(10,11),(2,13),(6,13),(10,13),(2,15),(6,15),(10,15),(14,15),(2,17),(6,17),(10,17),(14,17),(2,19),(6,19),(10,19),(14,19),(18,19),(2,21),(6,21),(10,21),(14,21),(18,21)])] func34) (λ_ _=>20) (λi a b bn=>by obtain⟨rfl,_⟩:=bn;simp[f34]) ?_;rintro c _ b ⟨rfl,bS,bp,l1,l2,l3,l4,l5⟩ c4 N;simp at N;have A:=bS.hr;have a8:=λ{tb:ik} (ht:tb.p 29=D xZ)=>WB ht c.gH bp;have⟨f,g⟩:∃f:H,f=((TI.hr b).cons (dU 9 0 [c.t])).cons r8:=⟨_,rfl⟩;have bZ:iS 0 f:=by subst g;exact(A.cons _).cons _
 have ae:f.size=b.size+1+1:=by subst g;rfl
 have bN:Nb b f:=by subst g;exact⟨(((Nb.refl A).cons _).cons _).ok,λc a7=>((((Nb.refl A).cons _).cons _).get c a7).trans (iI b c)⟩
 have aE:f.get b.size=D (dU 9 0 [c.t]):=by subst g;simp
 have aN:f.get (b.size+1)=D r8:=by subst g;simp
 have⟨al,c6,B,⟨b7,cp,gA⟩,n,u,bT⟩:=kN (cx:=cx) (sz:=2) bZ (x:=sl (c.cells.map im.t)) (xs:=c.cells.map im.t) BO rfl HF BO rfl rfl V V V dP;have⟨an,c7,C,⟨b8,cv,K⟩,o,m,okB⟩:=kN (cx:=cx) (sz:=2) bT (x:=sl (c.fI.map im.t)) (xs:=c.fI.map im.t) BO rfl HF BO rfl rfl V V V dP;have⟨ap,c9,E,⟨b9,cL,gC⟩,q,k,bW⟩:=kN (cx:=cx) (sz:=1) okB (x:=sl (iy c.order)) (xs:=iy c.order) kE rfl nc kE rfl rfl V V d1 dP;have⟨av,dd,F,⟨ca,cX,L⟩,r,h,Sh⟩:=kN (cx:=cx) (sz:=1) bW (x:=sl (c.fixed.map T.ej)) (xs:=c.fixed.map T.ej) Eh rfl Jj Eh rfl rfl V V (λe bi=>by obtain⟨d,_,rfl⟩:=List.mem_map.1 bi;rfl) dP;have⟨aA,Y,I,⟨cb,c1,M⟩,Z,j,bX⟩:=kN (cx:=cx) (sz:=1) Sh (x:=sl (iy c.qV)) (xs:=iy c.qV) kE rfl nc kE rfl rfl V V d1 dP;have S:=yX (x:=(dU 2 0 [])) u n;have U:=yX (x:=(dU 2 0 [])) m o;have W:=yX (x:=(dU 1 0 [])) k q;have X:=yX (x:=(dU 1 0 [])) h r;have b6:=yX (x:=(dU 1 0 [])) j Z;rw[ae]at n;rw[n]at o;rw[o]at q;rw[q]at r;rw[r]at Z;have O:=(u b.size G).trans aE;have P:=(m b.size G).trans O;have Q:=(k b.size G).trans P;have bs:=(h b.size G).trans Q;have bu:=(u (b.size+1) G).trans aN;have bA:=(m (b.size+1) G).trans bu;have bC:=(k (b.size+1) G).trans bA;have bH:=(h (b.size+1) G).trans bC;have s:=(j (b.size+1) G).trans bH;simp[ae,aK]at B gA S;simp[n,aK]at C K U;simp[o,aK]at E gC W;simp[q,aK]at F L X;simp[r,aK]at I M b6;unfold r8 at g s;simp[f34,N,a8];rw[<-g];have aX:=λy=>(ez s y (b.size+1)).trans (ax rfl);simp[O,P,Q,bs,B,C,E,F,I,S,U,W,X,n,o,q,r,s,aX];generalize w:fF Y (b.size+1) _=v;have l:∀d,d≠b.size+1->(mF b v).get d=Y.get d:=λd z=>by rw[iA,<-w,ez s,aw z]
 have R:iS 0 v:=w▸bX.put _ _;have de:(mF b v).size=b.size+7:=by rw[xn,<-w,iB];omega
 exact⟨b.size+1+1,al,an,ap,av,aA,G,⟨⟨(R.out b).hp,(R.out b).low,G⟩,λd z=>(l d G).trans ((j d G).trans ((h d G).trans ((k d G).trans ((m d G).trans ((u d G).trans (bN.get d z))))))⟩,rfl,
  ⟨b7,cp,(l _ G).trans ((j _ G).trans ((h _ G).trans ((k _ G).trans ((m _ G).trans gA))))⟩,
  ⟨b8,cv,(l _ G).trans ((j _ G).trans ((h _ G).trans ((k _ G).trans K)))⟩,
  ⟨b9,cL,(l _ G).trans ((j _ G).trans ((h _ G).trans gC))⟩,⟨ca,cX,(l _ G).trans ((j _ G).trans L)⟩,⟨cb,c1,(l _ G).trans M⟩,G⟩
def qH(a:fK)(b c d e f:T):List (T×aa (Nat×List T)):=[(sl (a.gH.fQ.map fk.t),none),(J a.gH.tx,none),(sl (a.gH.done.map T.ej),none),(sl (a.gH.d8.map ew.t),none),(b,some (2,a.cells.map im.t)),(c,some (2,a.fI.map im.t)),(d,some (1,iy a.order)),(e,some (1,a.fixed.map T.ej)),(f,some (1,iy a.qV))]
def Xr.iY{c:fK}{S:iq}{a i j k l m ver:Nat}{h:H}(g:Xr c a i j k l m h)(C:iS 0 h)(L:1<a)(z:h.get 1=D (dU 9 ver [.eQ [sl (S.fQ.map fk.t),J S.tx,sl (S.done.map T.ej),sl (S.d8.map ew.t),.arr a i 0 c.cells.length false,.arr (a+1) j 0 c.fI.length false,.arr (a+1+1) k 0 c.order.length false,.arr (a+1+1+1) l 0 c.fixed.length false,.arr (a+1+1+1+1) m 0 c.qV.length false]])):
 oQ h 1 9 ver (qH {c with gH:=S} (.arr a i 0 c.cells.length false) (.arr (a+1) j 0 c.fI.length false) (.arr (a+1+1) k 0 c.order.length false) (.arr (a+1+1+1) l 0 c.fixed.length false) (.arr (a+1+1+1+1) m 0 c.qV.length false))/\∀d,Fp h 1 d->d=1\/(a<=d/\d<a+5):=by
 have s:∀(b:Nat) (f:T×aa (Nat×List T)),(qH {c with gH:=S} (.arr a i 0 c.cells.length false) (.arr (a+1) j 0 c.fI.length false) (.arr (a+1+1) k 0 c.order.length false) (.arr (a+1+1+1) l 0 c.fixed.length false) (.arr (a+1+1+1+1) m 0 c.qV.length false))[b]? =D f->∀d,fa f.1=D d->d+4=a+b/\b<9:=by
  intro b f n d q;unfold qH at n;rcases b with _|_|_|_|_|_|_|_|_|b<;>simp at n<;>subst n<;>simp at q<;>omega
 have w:oQ h 1 9 ver (qH {c with gH:=S} (.arr a i 0 c.cells.length false) (.arr (a+1) j 0 c.fI.length false) (.arr (a+1+1) k 0 c.order.length false) (.arr (a+1+1+1) l 0 c.fixed.length false) (.arr (a+1+1+1+1) m 0 c.qV.length false)):=by
  refine⟨C,z,λu o=>?_,λb B A f x n y d e E=>A ?_⟩
  .simp only[qH,cz,cV,or_false]at o;rcases o with rfl|rfl|rfl|rfl|rfl|rfl|rfl|rfl|rfl
   iterate 4 (show fa _=none;simp)
   exact⟨iD g.bc.gr,show(2:Nat)≠9 by decide⟩;exact⟨iD g.bf.gr,show(2:Nat)≠9 by decide⟩;exact⟨iD g.bo.gr,show(1:Nat)≠9 by decide⟩;exact⟨iD g.bx.gr,show(1:Nat)≠9 by decide⟩;exact⟨iD g.bk.gr,show(1:Nat)≠9 by decide⟩
  have F:=s b f n d e;have I:=s B x y d E;omega
 refine⟨w,λd q=>?_⟩;rcases q with e|⟨N,r,M,v,e⟩
 exact .inl e
 .rw[w.get]at r;cases r;simp only[ir,aV,cB,bJ,T.cells]at v;obtain⟨u,o,rfl⟩:=List.mem_map.1 v;have⟨b,p⟩:=cU o;have:=s b u p d e;have K:4<=b:=by
   rcases b with _|_|_|_|b
   iterate 4 (simp[qH]at p;subst p;simp at e)
   omega
  omega
def agE{b a:Nat}{c:H}{f:jI}(d:Lb b c a f):b≠a:=λe=>d.nf (.inl e.symm)
def z9{e d a:Nat}{b:H}{i y f:jI}(h:Lb e b a f)(c:Lb e b d i)(g:a≠d):Lb e (fF b d y) a f:=
 h.mp (by rw[ez c.get,aw (agE c)]) (by rw[ez c.get,aw g])
def VI{d c:Nat}{a:H}{g:jI}(b:Lb d a c g)(e:jI):Lb d (fF a c e) c e:=
 ⟨by rw[ez b.get,ax rfl],by
   have f:(fF a c e).get d=a.get d:=by rw[ez b.get,aw (agE b)]
   rw[jN f];exact b.nf⟩
def VJ{b h i:Nat}{f:List (T×aa (Nat×List T))}{a:H}(e:oQ a b h i f)(c:jI):Lb b (a.cons c) a.size c:=
 ⟨V,λd=>by
   have g:(a.cons c).get b=a.get b:=by rw[fg,aw (iH e.lt)]
   rw[jN g]at d;have:=e.fp _ d;omega⟩
def Qw{b:List im}{c d:Int}{a:im}(f:wU b c=D a):fixC b c d=(a.known&&decide (a.value=d)):=by unfold fixC;rw[f];obtain⟨g,e⟩:=a;cases e<;>simp
def Ax:iE:=⟨eJ×fK×io,λa=>[a.1.t,a.2.1.t,a.2.2.t],λa=>uq a.1 a.2.1,λa=> .tuple [(kf a.1 a.2.1 a.2.2).1.t,.ej (kf a.1 a.2.1 a.2.2).2],λa c b=>by simp at b;rw[show a=c from aG (eJ.inj b.1) (aG (fK.inj b.2.1) (io.inj b.2.2))]⟩
def J19(b:fK)(a:H):Prop:=∃h c d e f g,oQ a 1 9 h (qH b c d e f g)/\Lb 1 a 3 r8
def UL:Ax.Ok prog cx 11:=by
 refine yW (tb:=⟨pt [(32,sq),(30,o7),(33,qJ),(35,uh)],ht [(34,jS fK Ul P5)]⟩) jk iX (js 184680779068091373590541728903436752898777087 [] func11) (λ_=>100) (by simp[Ax]) nl9 ?_;rintro⟨j,c,e⟩ (b:uq j c) A eK;simp[Ax]at eK|-;obtain⟨eF,F,R⟩:=eK;have bS:=kf.eq_1 j c e;cases aA:jw j c e.eG with
 |false=>
  rw[aA,aw V]at bS;simp[f11,eF,F,R,BQ,b,aA,bS];rfl
 |true=>
 rw[ax aA]at bS;have hE:=jw.eq_1 j c e.eG;have eL:¬jG j c e.eG<0:=λq=>by rw[ax q,aA]at hE;simp at hE
 rw[aw eL,aA]at hE;have O:=qP eL;have⟨a,c9,bA,gB,gD,b7⟩:=b.hw.at O;rw[qr (fT.1 O).1 c9]at bS hE;have ff:jM j.gG c.gH e.eG a.fc a.obj:=by
  cases q:jM j.gG c.gH e.eG a.fc a.obj;rw[q]at hE;simp at hE;rfl
 have fi:=b.hw.ev a (aD c9);have fv:=λ{tb:ik} (ht:tb.p 30=D o7)=>C5 ht j c e.eG b.ev b.od;have fo:=λ{tb:ik} (ht:tb.p 33=D qJ)=>Jo ht j c e.eG a.vU b.ev fi.2;have gM:=b.l (pZ O);have fe:j.gG.je.length<=1099511627776:=iH (kW b.hw.wb);have e9:=λ{tb:ik} (ht:tb.p 35=D uh)=>M2 ht j.gG c.gH e.eG a.fc a.obj e.qW fe ⟨G,G,G,b.hc.rd,b.hc.C9⟩ ff;rw[bS];generalize gI:jG j c e.eG=u at*
 generalize fl:ou j c e.eG a.vU=di at*
 simp[f11,eF,F,R,BQ,b,aA,fv,c9,bA,fo];generalize U:H.cons _ _=ae;have fW:iS 0 ae:=U▸⟨V,V,V⟩;have gz:ae.size=5:=by rw[<-U];rfl
 have fY:ae.get 0=D (dU 15 0 [j.t]):=by rw[<-U];simp
 have gd:ae.get 1=D (dU 9 0 [c.t]):=by rw[<-U];simp
 have gg:ae.get 2=D (dU 2 0 [e.t]):=by rw[<-U];simp
 have gi:ae.get 3=D r8:=by rw[<-U];simp[r8]
 have gj:ae.get 4=D (dU 7 1 [a.t]):=by rw[<-U];simp
 clear U;refine jl Vh V c ⟨rfl,fW,⟨G,G,G,b.hc.rd⟩,by have:=b.hc.ce (pZ O);have:=kW b.hw.wb;omega,by have:=b.hc.fu (pZ O);have:=kW b.hw.wb;omega,b.od,by have:=b.hc.fx;have:=b.ev;omega,by have:=b.hc.wk;have:=b.ev;omega⟩ ?_;rintro _ Z ⟨n,p1,p2,p3,p4,p5,fA,an,rfl,W⟩;rw[gz]at fA;have a0:=(an.get 0 G).trans fY;have a1:=(an.get 1 G).trans gd;have a2:=(an.get 2 G).trans gg;have a3:=(an.get 3 G).trans gi;have a4:=(an.get 4 G).trans gj;have x:=λy=>(ez a1 y 1).trans (ax rfl);have go:=λy g (fb:(g=1)=False)=>(ez a1 y g).trans (aw (by simp[fb]));simp[aaZ,a0,a1,a2,a4,x,go,fD,e9];generalize av:fF (H.cons _ _) Z.size _=N;have b9:iS 0 Z:=⟨an.ok.hp,an.ok.low,aB _⟩;have gQ:=W.bz;have okB:iS 0 N:=av▸((b9.put _ _).cons _).put _ _;have e6:N.size=Z.size+1:=by rw[<-av,iB];simp[size_cons]
 have ey:N.get Z.size=D (dU 4 1 [(gY j.gG c.gH e.eG a.fc a.obj e.qW).1.t]):=by rw[<-av,nT ((b9.put _ _).cons _).hp (by simp[size_cons]),ax rfl]
 have E:∀g,g<Z.size->g≠1->N.get g=Z.get g:=λg F R=>by
  rw[<-av,nT ((b9.put _ _).cons _).hp (by simp[size_cons]),aw G,fg,aw dP,ez a1,aw R]
 have b6:N.get 1=D (dU 9 1 [.eQ [sl (c.gH.fQ.map fk.t),J c.gH.tx,sl (c.gH.done.map T.ej),sl (c.gH.d8.map ew.t),.arr n p1 0 c.cells.length false,.arr (n+1) p2 0 c.fI.length false,.arr (n+1+1) p3 0 c.order.length false,.arr (n+1+1+1) p4 0 c.fixed.length false,.arr (n+1+1+1+1) p5 0 c.qV.length false]]):=by
  rw[<-av,nT ((b9.put _ _).cons _).hp (by simp[size_cons]),aw G,fg,aw dP];exact x _
 have eo:=(E 0 G G).trans a0;have er:=(E 2 G G).trans a2;have et:=(E 3 G G).trans a3;have eu:=(E 4 G G).trans a4;have ap:Xr c n p1 p2 p3 p4 p5 N:=⟨W.bc.mono (E _ G G),W.bf.mono (E _ G G),W.bo.mono (E _ G G),W.bx.mono (E _ G G),W.bk.mono (E _ G G),G⟩;clear av x go E;have gF:Ed j c u a e.eG e.qW=Ed j c u a e.eG e.qW:=rfl;generalize hr:gY j.gG c.gH e.eG a.fc a.obj e.qW=r at*
 obtain⟨S,ca⟩:=r;simp[ey,b6,fD];generalize bN:fF N 1 _=bH;have gy:bH.size=Z.size+1:=by rw[<-bN,iB,e6]
 have eP:iS 0 bH:=bN▸okB.put _ _;have X:∀g,g≠1->bH.get g=N.get g:=λg R=>by rw[<-bN,ez b6,aw R]
 have⟨d,eD⟩:=Xr.iY (S:=S) (c:=c) (ver:=2) (h:=bH) ⟨ap.bc.mono (X _ G),ap.bf.mono (X _ G),ap.bo.mono (X _ G),ap.bx.mono (X _ G),ap.bk.mono (X _ G),G⟩ eP G (by rw[<-bN,ez b6,ax rfl]);have bT:∀g w,g<5->g≠1->N.get g=D w->Lb 1 bH g w:=λg w F R e8=>⟨(X g R).trans e8,λq=>iH (eD g q)⟩;have l0:=bT 0 _ G G eo;have l2:=bT 2 _ G G er;have l3:=bT 3 _ G G et;have l4:=bT 4 _ G G eu;clear bT bN X eD ap ey eo b6 er et eu okB e6 W a0 a1 a2 a3 a4;have⟨gP,eE,eA,cb⟩:=(d.gr 6 rfl).mR (cx:=cx) (f:=T.int .i64) d.ok kE rfl nc rfl V (λ_=>rfl) u (qN b.hc.od);have⟨ea,fX,eS⟩:=d.app 6 rfl cb;have⟨aX,aN⟩:=eS _ rfl;have dk:=d.get;simp[qH,aR,bL,cS,cJ]at ea aX aN dk;simp[dk,eA,ea,fD,cb.1.iW,cb.1.cells];have eW:=aN.cons (dU 2 0 [im.t ⟨0,false⟩]);have eb:=Step.cons aN.ok aN.lt (dU 2 0 [im.t ⟨0,false⟩]);have aE:=VJ aN (dU 2 0 [im.t ⟨0,false⟩]);rw[iB]at aE;have z:=z9 (y:=(dU 2 1 [im.t ⟨0,false⟩])) ((l3.step aX).step eb) aE (by have:=(l3.step aX).lt;rw[iB]at this;omega);have s:=z9 (y:=(dU 2 1 [im.t ⟨0,false⟩])) ((l4.step aX).step eb) aE (by have:=(l4.step aX).lt;rw[iB]at this;omega);have P:=VI aE (dU 2 1 [im.t ⟨0,false⟩]);have eX:=eW.rx aE (dU 2 1 [im.t ⟨0,false⟩]);generalize fF (H.cons _ _) eE.size _=gE at*
 generalize eE.size=m at*
 clear eW eb aE aN aX ea fX eS cb eA dk l0 l2 l3 l4 d eP gy;refine lJ (λA h=>∃bi bn bp bs bu e4,oQ h 1 9 3 (qH {c with gH:=S,order:=c.order++[u]} bi bn bp bs bu)/\Lb 1 h 3 r8/\Lb 1 h 4 (dU 7 1 [a.t])/\Lb 1 h m (dU 2 e4 [(cont di a.value).t])/\TI.Y A 4=D (dY 1)/\TI.Y A 6=D (dY 3)/\TI.Y A 8=D (J u)/\TI.Y A 9=D (dY 4)/\TI.Y A 12=D (J ca)/\TI.Y A 14=D (dY m)) (λds=>?_) (λds=>?_) ?_;subst ds;have fB:(4=m)=False:=by have:=P.nf;have:=s;simp;intro q;subst q;have F:=P.get;rw[s.get]at F;simp at F
 simp[s.get,P.get];exact⟨⟨_,_,_,_,_,eX.rx P _⟩,z9 z P (by intro q;subst q;have F:=P.get;rw[z.get]at F;simp[r8]at F),z9 s P (iD fB),_,VI P _⟩;subst ds;simp;exact⟨⟨_,_,_,_,_,eX⟩,z,s,_,P⟩;rintro A h ⟨bi,bn,bp,bs,bu,e4,d,l3,l4,eO,I,K,b8,bC,eH,eI⟩;simp[bC,l4.get];have dm:a.fc=3\/a.fc=4->jx a.obj c.cells.length=true:=λq=>by
  rw[b.hc.ce (pZ O)];unfold ky at b7;rcases q with q|q<;>simpa[q]using b7
 have dn:a.fc=22\/a.fc=23->jx a.obj c.fI.length=true:=λq=>by
  rw[b.hc.fu (pZ O)];unfold ky at b7;rcases q with q|q<;>simpa[q]using b7
 have eM:u.toNat<c.fixed.length:=b.hc.fx▸(fT.1 O).2;have fs:u.toNat<c.qV.length:=b.hc.wk▸(fT.1 O).2;have x:=d.get;simp[qH,aR,bL]at x;have eU:∀w y:Bool,ly (.ej w) 0 [.ej y]=D (.ej y):=λ_ _=>rfl;have eV:∀w y:Int,ly (J w) 0 [J y]=D (J y):=λ_ _=>rfl;have k:=Ed.eq_1 j c u a e.eG e.qW;rw[hr,fl]at k;generalize Ed j c u a e.eG e.qW=M at*
 refine lJ (λA h=>J19 M h/\TI.Y A 4=D (dY 1)/\TI.Y A 6=D (dY 3)) (λc1=>?_) (λc1=>?_) ?_;have o:a.fc=3:=iD c1;have⟨w,bZ,ee⟩:=jm (dm (.inl o));have v:=fT.1 (dm (.inl o));have⟨q,dd,ec,de,eh,bW,al,z,s⟩:=(d.gr 4 rfl).CI (te:=E4) rfl (i:=a.obj.toNat) (iD v.2);have⟨eR,eB,e0,eC,e5,a7,a8,L,Q⟩:=(d.gr 7 rfl).CI (te:=XJ) rfl (i:=u.toNat) (iD eM);have ef:c.cells[a.obj.toNat]'v.2=w:=by rw[aF v.2]at bZ;simpa using bZ
 simp[ef]at s Q;simp[o,Qw ee]at k;have⟨C,B⟩:=d.elem 7 rfl a7 L u.toNat (.ej (w.known&&decide (w.value=a.value)));simp[I,K,b8,bC,x,l4.get,fO v.1,al,z,s,bA,a8,L,Q,eU];exact⟨_,_,_,_,_,_,by rw[k];simpa[qH,bg]using B,l3.step C⟩;have fP:¬a.fc=3:=iD c1;simp;refine fG (λcX=>?_) (λcX=>?_);have o:a.fc=23:=iD cX;have⟨w,bZ,ee⟩:=jm (dn (.inr o));have v:=fT.1 (dn (.inr o));have⟨q,dd,ec,de,eh,bW,al,z,s⟩:=(d.gr 5 rfl).CI (te:=E4) rfl (i:=a.obj.toNat) (iD v.2);have⟨eR,eB,e0,eC,e5,a7,a8,L,Q⟩:=(d.gr 7 rfl).CI (te:=XJ) rfl (i:=u.toNat) (iD eM);have ef:c.fI[a.obj.toNat]'v.2=w:=by rw[aF v.2]at bZ;simpa using bZ
 simp[ef]at s Q;simp[o,Qw ee]at k;have⟨C,B⟩:=d.elem 7 rfl a7 L u.toNat (.ej (w.known&&decide (w.value=a.value)));simp[I,K,b8,bC,x,l4.get,fO v.1,al,z,s,bA,a8,L,Q,eU];exact⟨_,_,_,_,_,_,by rw[k];simpa[qH,bg]using B,l3.step C⟩;have fM:¬a.fc=23:=iD cX;simp;refine fG (λc4=>?_) (λc4=>?_);have o:a.fc=4:=iD c4;have v:=fT.1 (dm (.inr o));have⟨q,dd,ec,de,eh,bW,al,z,s⟩:=(d.gr 4 rfl).CI (te:=E4) rfl (i:=a.obj.toNat) (iD v.2);simp at s;simp[o]at k;have⟨C,B⟩:=d.elem 4 rfl bW z a.obj.toNat (cont di a.value).t;simp[I,K,bC,eI,x,l4.get,eO.get,fO v.1,al,z,s];exact⟨_,_,_,_,_,_,by rw[k];simpa[qH,bg]using B,l3.step C⟩;have fS:¬a.fc=4:=iD c4;simp;refine fG (λcL=>?_) (λcL=>?_);have o:a.fc=22:=iD cL;have v:=fT.1 (dn (.inl o));have⟨q,dd,ec,de,eh,bW,al,z,s⟩:=(d.gr 5 rfl).CI (te:=E4) rfl (i:=a.obj.toNat) (iD v.2);simp at s;simp[o]at k;have⟨C,B⟩:=d.elem 5 rfl bW z a.obj.toNat (cont di a.value).t;simp[I,K,bC,eI,x,l4.get,eO.get,fO v.1,al,z,s];exact⟨_,_,_,_,_,_,by rw[k];simpa[qH,bg]using B,l3.step C⟩;have fL:¬a.fc=22:=iD cL;have⟨eR,eB,e0,eC,e5,a7,a8,L,Q⟩:=(d.gr 8 rfl).CI (te:=Dp) rfl (i:=u.toNat) (iD fs);simp at Q;simp;refine fG (λcp=>?_) (λcp=>?_);have o:a.fc=18:=iD cp;simp[o]at k;simp[eH];refine fG (λc6=>?_) (λc6=>?_);have c7:0<=ca:=iD c6;rw[ax c7]at k;have⟨C,B⟩:=d.elem 8 rfl a7 L u.toNat (J 1);simp[I,K,b8,x,bA,a8,L,Q,eV];exact⟨_,_,_,_,_,_,by rw[k];simpa[qH,bg]using B,l3.step C⟩;have c7:¬0<=ca:=iD c6;rw[aw c7]at k;simp[I,K];exact⟨_,_,_,_,_,_,k▸d,l3⟩;have fC:¬a.fc=18:=iD cp;simp;refine fG (λcv=>?_) (λcv=>?_);have o:a.fc=19:=iD cv;simp[o]at k;have⟨C,B⟩:=d.elem 8 rfl a7 L u.toNat (J ca);simp[I,K,b8,eH,x,bA,a8,L,Q,eV];exact⟨_,_,_,_,_,_,by rw[k];simpa[qH,bg]using B,l3.step C⟩;have fE:¬a.fc=19:=iD cv;simp[fP,fM,fS,fL,fC,fE]at k;simp[I,K];exact⟨_,_,_,_,_,_,k▸d,l3⟩;rintro A h ⟨⟨ver,bi,bn,bp,bs,bu,d,l3⟩,I,K⟩;have x:=d.get;simp[qH,aR,bL]at x;have eN:=l3.get;unfold r8 at eN;have bX:=d.rx l3 (dU 9 1 [.eQ [sl (M.gH.fQ.map fk.t),J M.gH.tx,sl (M.gH.done.map T.ej),sl (M.gH.d8.map ew.t),bi,bn,bp,bs,bu]]);have e7:=(ez l3.get (dU 9 1 [.eQ [sl (M.gH.fQ.map fk.t),J M.gH.tx,sl (M.gH.done.map T.ej),sl (M.gH.d8.map ew.t),bi,bn,bp,bs,bu]]) 3).trans (ax rfl);have gk:=(bX.gr 4 rfl).fz V;have gm:=(bX.gr 5 rfl).fz V;have gn:=(bX.gr 6 rfl).fz V;have gv:=(bX.gr 7 rfl).fz V;have gw:=(bX.gr 8 rfl).fz V;simp[I,K,x,eN,fD,e7,gk,gm,gn,gv,gw,d.ok.hp]
end
section
attribute [-simp] size_cons List.map_map
abbrev Gs{f:Type}(b:f->T)(g:∀d e,b d=b e->d=e):iE:=⟨List f,λa=>[sl (a.map b)],λa=>a.length<=1000000,λa=>sl (a.map b),λh i c=>by simp at c;rw[j3 g c]⟩
def Vm{e:Type}{a:e->T}{v:∀c m,a c=a m->c=m}{d:Nat}{h:aj}(x:(jS Ns (vh d) (ry d)).Ok prog cx h)(o:∀c,(a c).cells.length=d)(p:∀b:List e,nR [sl (b.map a)])(q:∀j l (b:List e),Gr j l d (b.map a)->TI.qY j l=D (sl (b.map a))):(Gs a v).Ok prog cx h:=by
 rintro(b:List e) hl;have k:vh d ⟨sl (b.map a),b.map a⟩ [sl (b.map a)] ⟨0,0,[]⟩:=⟨rfl,V,λB t=>by obtain⟨c,_,rfl⟩:=List.mem_map.1 t;exact o c,iD hl,⟨rfl,az _,az _⟩⟩;have⟨y,n,u,s⟩:=x [sl (b.map a)] ⟨0,0,[]⟩ ⟨_,k⟩;have⟨i,w,_⟩:=u _ k;have⟨z,f,g⟩:=ed.1 (q _ _ _ i);simp[ay]at g;have f:j4 n 0 y=D z:=by rcases i with⟨rfl,_⟩|⟨_,_,_,_,_,rfl,_⟩<;>exact f
 have:=HM s w.ok.hp (aB _) V f;rw[g]at this;exact Gy (mI _ (p b)) V this
def Bp:iE:=⟨List Int,λa=>[sl (iy a)],λa=>a.length<=1000000,λa=>sl ((a.map λc=>(⟨c,true⟩:im)).map im.t),λd e b=>by simp at b;rw[j3 (λ_ _ b=>iD b) b]⟩
def Ym:Bp.Ok prog cx 60:=by refine iz [] (js 7725 [] func60) (λ_=>1000005) (by simp[Bp]) ?_;rintro(a:List Int) hl c k;simp[Bp]at hl k|-;simp[f60,k,show a.length*16<=70368744177664 by omega];refine gW a.length G (λg c e=>∃b,Gr e b 2 (((a.take g).map λb=>(⟨b,true⟩:im)).map im.t)/\iS 0 e/\TI.Y c 3=D b/\TI.Y c 9=D (sl (iy a))/\TI.Y c 10=D (J a.length)/\TI.Y c 11=D (J g)) ?_ ?_ G ?_;rintro g c e l o ⟨b,d,h,j⟩;have⟨p,n,m,i⟩:=d.mR (cx:=cx) (f:=im.t) h BO rfl HF rfl V (λ_=>rfl) ⟨a[g],true⟩ dP;simp[*];exact⟨by rw[aT l,List.map_append];exact i.1,⟨i.2.2.2.hp,i.2.2.2.low,aB _⟩⟩;rintro c e ⟨b,d,h,j⟩;rw[aM]at d;simp[j,h.hp];rw[Kr b d.iW,d.qY V];exact⟨.arr 0 0 0 0 false,.inr ⟨0,0,0,decide (0=a.length),[],V,V,V⟩,⟨V,V,V⟩,V⟩
def Wu{b:ik}(ht:b.p 60=D Bp)(a:List Int)(hl:a.length<=1000000):rl prog cx b 60 [sl (iy a)]=D (sl ((a.map λc=>(⟨c,true⟩:im)).map im.t)):=iF ht Ym a hl
def DH:iE:=⟨eJ×fK,λa=>[a.1.t,a.2.t],λa=>True,λa=> .ej (decide (a.2.cells.length=a.1.gG.cells.length)&&decide (a.2.fI.length=a.1.gG.fI.length)&&decide (a.2.fixed.length=a.1.ei.length)&&decide (a.2.qV.length=a.1.ei.length)),λa c b=>by simp at b;rw[show a=c from aG (eJ.inj b.1) (fK.inj b.2)]⟩
def Yr:DH.Ok prog cx 62:=by refine iz [] (js 31 [] func62) (λ_=>5) (by simp[DH]) ?_;rintro⟨d,b⟩ _ c a;simp[DH]at a|-;simp[f62,a,Int.natCast_inj]
def adn{c:ik}(ht:c.p 62=D DH)(b:eJ)(a:fK):rl prog cx c 62 [b.t,a.t]=D (.ej (decide (a.cells.length=b.gG.cells.length)&&decide (a.fI.length=b.gG.fI.length)&&decide (a.fixed.length=b.ei.length)&&decide (a.qV.length=b.ei.length))):=iF ht Yr (b,a) trivial
def DI:iE:=⟨iq,λa=>[a.t],λa=>a.fQ.length<=1000000/\a.done.length<=1000000/\a.d8.length<=1000000/\∀c∈a.fQ,c.fZ.length<=1000000,λa=>a.t,λd e b=>by simp at b;rw[iq.inj b]⟩
def Yv:DI.Ok prog cx 59:=by have N:(Gs (T.int .i64) (λ_ _ h=>iD h)).Ok prog cx 68:=Vm CC (λ_=>rfl) (λ_=>by simp) (λ_ _ _ g=>g.qY V);have M:(Gs T.ej (λ_ _ h=>iD h)).Ok prog cx 67:=Vm GR (λ_=>rfl) (λ_=>by simp) (λ_ _ _ g=>g.qY V);have O:(Gs ew.t (λ_ _ h=>ew.inj h)).Ok prog cx 121:=Vm LX (λ_=>rfl) (λ_=>by simp) (λ_ _ _ g=>g.qY V);refine iz [(68,Gs (T.int .i64) (λ_ _ h=>iD h)),(67,Gs T.ej (λ_ _ h=>iD h)),(121,Gs ew.t (λ_ _ h=>ew.inj h))] (js 983087 [(1,[(1,4),(4,6),(1,7),(4,9),(7,9)]),(5,[(1,6),(3,6)])] func59) (λ_=>1000005) (by simp[DI]) ?_;rintro(a:iq) ⟨hl,H,K,hr⟩ e C;simp[DI]at C|-;have B:=λ{i:ik} (ht:i.p 68=D (Gs (T.int .i64) (λ_ _ h=>iD h))) (d:List Int) (h:d.length<=1000000)=>iF ht N d h;have X:=λ{i:ik} (ht:i.p 67=D (Gs T.ej (λ_ _ h=>iD h)))=>iF ht M a.done H;have eT:=λ{i:ik} (ht:i.p 121=D (Gs ew.t (λ_ _ h=>ew.inj h)))=>iF ht O a.d8 K;simp[*,f59];refine gW a.fQ.length G (λc e h=>∃j ver,oQ h 2 4 ver [(j,some (2,(a.fQ.take c).map fk.t)),(J a.tx,none),(sl (a.done.map T.ej),none),(sl (a.d8.map ew.t),none)]/\Lb 2 h 1 uY/\TI.Y e 2=D (dY 1)/\TI.Y e 3=D (dY 2)/\TI.Y e 16=D (sl (a.fQ.map fk.t))/\TI.Y e 17=D (J a.fQ.length)/\TI.Y e 18=D (J c)) ?_ ?_ G ?_;rintro c e h k E ⟨j,ver,b,l1,r⟩;have I:=hr a.fQ[c] (aH k);have y:a.fQ.take (c+1)=a.fQ.take c++[a.fQ[c]]:=aT k;have o:=λ{i:ik} (ht:i.p 68=D (Gs (T.int .i64) (λ_ _ h=>iD h)))=>B ht a.fQ[c].fZ I;have⟨d,s⟩:∃d,d=a.fQ[c]:=⟨_,rfl⟩;rw[<-s]at y o;have L:(2=h.size)=False:=qN b.lt;have l:=b.cons (dU 2 1 [d.t]);have W:=Step.cons b.ok b.lt (dU 2 1 [d.t]);have⟨an,ae,n,m⟩:=(l.gr 0 rfl).mR (cx:=cx) (f:=fk.t) l.ok KC rfl FC rfl V (λ_=>rfl) d dP;rw[size_cons]at n;have⟨u,al,Q⟩:=l.app 0 rfl m;have⟨x,v⟩:=Q _ rfl;have q:=b.get;simp[aR,bL,cJ]at u x v q;simp[r,k,b.ok.low,<-s,L,o,q,n,u,fD,m.1.iW,m.1.cells,E];exact⟨⟨_,_,y▸v⟩,(l1.step W).step x⟩;rintro e h ⟨j,ver,b,l1,r⟩;rw[aM]at b;have g:=b.get;simp[aR,bL]at g;have A:=l1.get;unfold uY at A;have U:=b.rx l1 (dU 4 1 [.eQ [j,J a.tx,sl (a.done.map T.ej),sl (a.d8.map ew.t)]]);have Z:=(ez l1.get (dU 4 1 [.eQ [j,J a.tx,sl (a.done.map T.ej),sl (a.d8.map ew.t)]]) 1).trans (ax rfl);have z:=(U.gr 0 rfl).fz V;simp[*,fD,b.ok.hp];have⟨R,S⟩:=oQ.start (h:=(((hE.cons (dU 4 0 [a.t])).cons uY).cons (dU 4 1 [.eQ [dT,J a.tx,sl (a.done.map T.ej),sl (a.d8.map ew.t)]]))) (w:=2) (szw:=4) (ver:=1) (F:=[(dT,some (2,[])),(J a.tx,none),(sl (a.done.map T.ej),none),(sl (a.d8.map ew.t),none)]) (by exact⟨rfl,V,V⟩) V V;exact⟨_,1,R,⟨by simp[uY],λP=>iH (S _ P)⟩,V⟩
def adp{b:ik}(ht:b.p 59=D DI)(a:iq)(c:a.fQ.length<=1000000/\a.done.length<=1000000/\a.d8.length<=1000000/\∀d∈a.fQ,d.fZ.length<=1000000):rl prog cx b 59 [a.t]=D a.t:=iF ht Yv a c
def Ch:iE:=⟨eJ,λa=>[a.t],λa=>kj a,λa=>(ls a).t,λc d b=>by simp at b;rw[eJ.inj b]⟩
def UO:Ch.Ok prog cx 22:=by
 refine iz [(59,DI),(60,Bp)] (js 7 [(1,[(3,6),(3,10),(7,10),(3,13),(7,13),(11,13),(3,15),(7,15),(11,15),(3,17),(7,17),(11,17),(3,19),(7,19),(11,19)])] func22) (λ_=>20) (by simp[Ch]) ?_;rintro(a:eJ) e u i;simp[Ch]at i|-;have⟨l1,l2,l3,l4,l5,l6⟩:=e.sm.l;have o:=e.ok.len;have k:a.ei.length<=70368744177664:=G;have m:a.ei.length*8<=70368744177664:=G;have n:=λ{d:ik} (ht:d.p 59=D DI)=>adp ht a.kH.gH ⟨G,G,G,λj c=>iH (e.sm.r j c)⟩;have q:=λ{d:ik} (ht:d.p 60=D Bp)=>Wu ht a.kH.cells G;have s:=λ{d:ik} (ht:d.p 60=D Bp)=>Wu ht a.kH.fI G;have g:ls a=⟨a.kH.gH,a.kH.cells.map λf=>⟨f,true⟩,a.kH.fI.map λf=>⟨f,true⟩,[],ao a.ei.length false,ao a.ei.length 0⟩:=rfl;rw[g];have v:∀h:H,h.get 2=D ⟨1,0,0,true,false,ao a.ei.length (T.ej false)⟩->TI.fz h (.arr 2 0 0 a.ei.length false)=D (sl ((ao a.ei.length false).map T.ej)):=λh c=>by
  have:=(Gr.new (h:=h) (b:=2) (sz:=1) (ep:=0) (es:=(ao a.ei.length false).map T.ej) (iD c)).fz V;simpa using this
 have w:∀h:H,h.get 3=D ⟨1,0,0,true,false,ao a.ei.length (T.int .i64 0)⟩->TI.fz h (.arr 3 0 0 a.ei.length false)=D (sl ((ao a.ei.length (0:Int)).map (T.int .i64))):=λh c=>by
  have:=(Gr.new (h:=h) (b:=3) (sz:=1) (ep:=0) (es:=(ao a.ei.length (0:Int)).map (T.int .i64)) (iD c)).fz V;simpa using this
 simp[-yk, *,f22];unfold fK.t fK.cs;simp
def Zm{b:ik}(ht:b.p 22=D Ch)(a:eJ)(c:kj a):rl prog cx b 22 [a.t]=D (ls a).t:=iF ht UO a c
end
section
attribute [-simp] size_cons
def ml{a b:Nat}(c:a<b)(d:b<=16):binop .add (J (a:Int)) (J 1)=D (J ((a:Int)+1)):=jf G G 
def Gr.ag9{a:H}{h:Nat->Prop}{g:T}{j c:Nat}{d e:List T}(f:Gr a g j d)(i:c<=11)(b:jr (FT a h c) d e):TI.qY a g=D (sl e):=by
 have:=f.MD i b;rcases f with⟨rfl,rfl⟩|⟨k,l,p,m,q,rfl,n,o⟩
 cases b;rfl;rwa[YP]
def agW{b:eJ}{a:Nat}(c:a<b.ei.length):b.gx.e (a:Int)=b.ei[a]:=by unfold GX.e mP wU eJ.gx;simp[c]
def FO.nb{l:eJ}{i j:H}{k:T}{f:List T}{h:List iw}(b:FO l i k f h)(c:Nb i j):FO l j k f h:=by have o:=b.ok.sz;have p:=c.ok.sz;exact⟨b.g.mono λe d=>by have⟨_,_,_,_,n,_⟩:=b.g.box d;exact c.get e (H.fN n),b.a.imp λ_ _ m=>m.mono λe d=>⟨⟨d.1,G,d.2.2⟩,c.get e d.2.1⟩,⟨c.ok.hp,c.ok.low,G⟩,(c.get 0 G).trans b.b0,b.v0⟩
def h1E:H:=hE.cons (dU 0 0 [])
def gcT(a:T):T:= .eQ [J 2,J 0,J 0,J 0,J 0,a]
def FO.Ji{j:eJ}{f b:H}{g i a:T}{e:List T}{h:List iw}{c:List Int}(o:FO j f g e h)(p:Ni h1E f g a c)(k:Xt f g 6 (e++[gcT a]) i b):FO j b i (e++[gcT a]) (h++[gC c]):=by refine o.step k (.cons (.inr (.inr ⟨_,_,rfl,.cons (iL ..) (.cons (iL ..) (.cons (iL ..) (.cons (iL ..) (.cons (iL ..) (.cons (?_:FT b _ 3 a (sl (D3 c))) .nil))))),rfl⟩)) .nil);have r2:=p.xt k;exact(show qk b 1 a (D3 c)from .inr r2.1).ft (d:=1) (λr n=>by obtain⟨q,_,rfl⟩:=List.mem_map.1 n;simp) λl m=>r2.2 l m
def LJ:uG.Ok prog cx 14:=by
 refine yW (tb:=⟨pt [(42,Gu)],ht [(40,jS IPt aau JR),(41,jS ICy (λL m s=>Uj L m s/\5-L.p.length<6) N0)]⟩) jk iX (js 43282986612756070113897410875122319359 [] func14) (λ_=>10000) (by simp[uG]) nl9 ?_;rintro(b:eJ) Q c bZ;replace Q:kj b:=Q;simp[uG]at bZ|-;have Z:=Q.ok.len;have⟨n,ds⟩:∃n,n=b.ei.length:=⟨_,rfl⟩;have aA:b.gx.oH=((jn 0 n).flatMap λ(m:Nat)=>(jn 0 n).flatMap λ(d:Nat)=>jJ b.gx.vR (gR m d))++(((jn 0 n).flatMap λ(m:Nat)=>(b.gx.Eg m).map gC)++(((jn 0 n).flatMap λ(m:Nat)=>(jn 0 n).flatMap λ(d:Nat)=>jJ b.gx.vR (gL m d))++
  ((jn 0 n).flatMap λ(m:Nat)=>(jn (m+1) n).flatMap λ(d:Nat)=>if(b.gx.e m).eG=(b.gx.e d).eG/\oy (b.gx.e m)/\oy (b.gx.e d)=true then(jn 0 n).flatMap λ(o:Nat)=>(jn o n).flatMap λ(z:Nat)=>jJ b.gx.vR (gA m d o z)else []))):=by
  unfold GX.oH;rw[show b.gx.n=n from ds.symm,FW];simp[aQ]
 generalize c7:((jn 0 n).flatMap λ(m:Nat)=>(jn (m+1) n).flatMap λ(d:Nat)=>if(b.gx.e m).eG=(b.gx.e d).eG/\oy (b.gx.e m)/\oy (b.gx.e d)=true then(jn 0 n).flatMap λ(o:Nat)=>(jn o n).flatMap λ(z:Nat)=>jJ b.gx.vR (gA m d o z)else [])=bn at aA;generalize c6:((jn 0 n).flatMap λ(m:Nat)=>(jn 0 n).flatMap λ(d:Nat)=>jJ b.gx.vR (gL m d))++bn=bi at aA;generalize c4:((jn 0 n).flatMap λ(m:Nat)=>(b.gx.Eg m).map gC)++bi=bN at aA;have dn:(b.ei.length:Int)=n:=G;simp[f14,bZ,dn];refine pU n (λk c s=>∃h l j,FO b s h l j/\j++(((jn k n).flatMap λ(m:Nat)=>(jn 0 n).flatMap λ(d:Nat)=>jJ b.gx.vR (gR m d))++bN)=b.gx.oH/\TI.Y c 1=D (dY 0)/\TI.Y c 3=D h/\TI.Y c 4=D (J n)/\TI.Y c 5=D (J k)) ?_ G (k:=0) G ?_;rintro k c s bA ⟨h,l,j,i,f,u,w,q,t⟩;by_cases A:k<n;have M:=ml A G;rw[kM A,aV,aQ]at f;simp[q,t,A];refine pU n (λv c s=>∃h l j,FO b s h l j/\j++(((jn v n).flatMap λ(d:Nat)=>jJ b.gx.vR (gR k d))++(((jn (k+1) n).flatMap λ(m:Nat)=>(jn 0 n).flatMap λ(d:Nat)=>jJ b.gx.vR (gR m d))++bN))=b.gx.oH/\TI.Y c 1=D (dY 0)/\TI.Y c 3=D h/\TI.Y c 4=D (J n)/\TI.Y c 5=D (J k)/\TI.Y c 6=D (J v)) ?_ G (k:=0) G ⟨h,l,j,i,f,by simp[u,w,q,t]⟩;rintro v c s b7 ⟨h,l,j,i,f,u,w,q,t,B⟩;have X:=i.len Z f;by_cases C:v<n;have W:=ml C G;rw[kM C,aV,aQ,<-aQ]at f;simp[u,w,q,t,B,C,i.b0];refine jl JZ V ⟨b,gR k v,h,l⟩ ⟨rfl,i.g,⟨i.ok.hp,i.ok.low,aB _⟩,Q,X,rfl⟩ ?_;rintro r K x;have⟨AM,I⟩:=i.put rfl x;simp[u,q,t,B,W];exact⟨v+1,G,G,r,AM,_,I,f,rfl,V⟩;rw[lO (show n<=v by omega)]at f;simp[u,w,q,t,B,C,M];exact⟨k+1,G,G,h,l,j,i,f,rfl,V⟩;rw[lO (show n<=k by omega)]at f;simp[q,t,A];clear A t;rw[<-c4]at f;refine pU n (λk c s=>∃h l j,FO b s h l j/\j++(((jn k n).flatMap λ(m:Nat)=>(b.gx.Eg m).map gC)++bi)=b.gx.oH/\TI.Y c 1=D (dY 0)/\TI.Y c 3=D h/\TI.Y c 4=D (J n)/\TI.Y c 7=D (J k)) ?_ G (k:=0) G ⟨h,l,j,i,iD f,by simp[u,w,q]⟩;rintro k c s bA ⟨h,l,j,i,f,u,w,q,t⟩;by_cases A:k<n;have M:=ml A G;rw[kM A,aV,aQ]at f;simp[u,q,t,A,i.b0];have eu:=i.ok.sz;have cb:=i.ok.cons (dU 1 0 [J k]);refine jl (af7 6) V ⟨b,[(k:Int)],.arr s.size 0 0 1 false,dT,[]⟩ ⟨⟨rfl,.inr ⟨s.size,0,0,true,[J k],rfl,V,rfl⟩,Gr.nil _ _,λd E=>by simp,⟨cb.hp,cb.low,aB _⟩,Q,V,V,λy an=>?_,?_⟩,V⟩ ?_;rw[List.mem_singleton.1 an];exact fT.2 ⟨G,dQ⟩;have:=Kx (n:=b.gx.ev.length) Z (ok:=λa7=>b.gx.vR (gC a7)) (go:=λa7 v=> !decide (v∈a7)&&b.gx.p8 v (mO a7)) 3 [(k:Int)];exact aU (Nat.add_le_add_left (show _<=4913 from this) 0) G;rintro R K ⟨U,x,al⟩;replace al:jr (Ni (s.cons (dU 1 0 [J k])) K R) U (b.gx.Eg k):=al;have er:(b.gx.Eg k).length<=4913:=Kx (show b.gx.ev.length<=16 from Z) 3 _;generalize b.gx.Eg k=T at*
 have cv:=x.2.2.2.sz;simp at cv;have ca:Nb s K:=⟨⟨x.2.2.2.hp,x.2.2.2.low,G⟩,λo aE=>(x.2.1 o dP V).trans d2⟩;have I:=i.nb ca;have bH:∀d,fa h=D d->d<s.size:=λd E=>by have⟨_,_,_,_,an,_⟩:=i.g.box E;exact H.fN an
 have b9:U.length=T.length:=al.length;have ae:jr (Ni h1E K h) U T:=al.imp λbp F y=>⟨y.1,λo aE=>⟨by have:=(y.2 o aE).1;simp at this;show 1<=o;omega,(y.2 o aE).2.1,λbC=>by have:=(y.2 o aE).1;have:=bH o bC;simp at*;omega⟩⟩;simp;have S:Gr K R 1 U:=x.1;have N:∀d,fa R=D d->d<K.size/\fa h≠some d:=λd E=>⟨by have⟨_,_,_,_,an,_⟩:=x.1.box E;exact H.fN an,λbC=>(x.2.2.1 d E).elim V (λF=>by have:=bH d bC;simp at F;omega)⟩;clear x al i ca bH cv;refine gW T.length G (λL c s=>∃h l j,FO b s h l j/\j++((T.drop L).map gC++(((jn (k+1) n).flatMap λ(m:Nat)=>(b.gx.Eg m).map gC)++bi))=b.gx.oH/\Gr s R 1 U/\(∀d,fa R=D d->d<s.size/\fa h≠some d)/\jr (Ni h1E s h) U T/\TI.Y c 1=D (dY 0)/\TI.Y c 3=D h/\TI.Y c 4=D (J n)/\TI.Y c 7=D (J k)/\TI.Y c 8=D R/\TI.Y c 9=D (J L)) ?_ ?_ G ⟨h,l,j,I,f,S,N,ae,by simp[u,w,q,t]⟩;rintro L c s bu dk ⟨h,l,j,i,f,S,N,ae,u,w,q,t,P,bs⟩;have X:=i.len Z f;rw[aL bu,aR,cg,<-List.singleton_append,<-aQ]at f;have⟨bp,dm,a8⟩:=ae.get (k:=L) (y:=T[L]) (aF bu);have ap:=λu:H=>S.len (cx:=cx) u FZ _ rfl;rw[b9]at ap;have⟨cp,cX,c1⟩:=(show qk s 1 R U from .inr S).idx (te:=pJ) rfl rfl dm a8.1.cells;have ea:iS 0 s:=⟨i.ok.hp,i.ok.low,aB _⟩;have⟨ee,K,bW,av⟩:=i.g.yA (cx:=cx) ea Ky rfl KB rfl V (x:=gcT bp) rfl dP;have I:=i.Ji a8 av;unfold gcT at bW;have et:=i.ok.low;simp[u,w,q,t,P,bs,ap,bu,cX,c1,a8.1.iW,a8.1.cells,bW,dk];rw[aQ]at f;exact⟨ee,l++[gcT bp],j++[gC T[L]],I,iD f,S.mono λd E=>av.2.1 d (N d E).1 (N d E).2,λd E=>⟨by have:=av.2.2.2.sz;have:=(N d E).1;omega,λF=>(av.2.2.1 d F).elim (N d E).2 (iH (N d E).1)⟩,ae.imp λ_ _ y=>y.xt av,rfl⟩;rintro c s ⟨h,l,j,i,f,S,N,ae,u,w,q,t,P,bs⟩;have ap:=λu:H=>S.len (cx:=cx) u FZ _ rfl;rw[b9]at ap;simp[u,w,q,t,P,bs,ap,M];refine⟨k+1,G,G,h,l,j,i,iD f,rfl,V⟩;rw[lO (show n<=k by omega)]at f;simp[q,t,A];clear A t;rw[<-c6]at f;refine pU n (λk c s=>∃h l j,FO b s h l j/\j++(((jn k n).flatMap λ(m:Nat)=>(jn 0 n).flatMap λ(d:Nat)=>jJ b.gx.vR (gL m d))++bn)=b.gx.oH/\TI.Y c 1=D (dY 0)/\TI.Y c 3=D h/\TI.Y c 4=D (J n)/\TI.Y c 10=D (J k)) ?_ G (k:=0) G ⟨h,l,j,i,iD f,by simp[u,w,q]⟩;rintro k c s bA ⟨h,l,j,i,f,u,w,q,t⟩;by_cases A:k<n;have M:=ml A G;rw[kM A,aV,aQ]at f;simp[q,t,A];refine pU n (λv c s=>∃h l j,FO b s h l j/\j++(((jn v n).flatMap λ(d:Nat)=>jJ b.gx.vR (gL k d))++(((jn (k+1) n).flatMap λ(m:Nat)=>(jn 0 n).flatMap λ(d:Nat)=>jJ b.gx.vR (gL m d))++bn))=b.gx.oH/\TI.Y c 1=D (dY 0)/\TI.Y c 3=D h/\TI.Y c 4=D (J n)/\TI.Y c 10=D (J k)/\TI.Y c 11=D (J v)) ?_ G (k:=0) G ⟨h,l,j,i,f,by simp[u,w,q,t]⟩;rintro v c s b7 ⟨h,l,j,i,f,u,w,q,t,B⟩;have X:=i.len Z f;by_cases C:v<n;have W:=ml C G;rw[kM C,aV,aQ,<-aQ]at f;simp[u,w,q,t,B,C,i.b0];refine jl JZ V ⟨b,gL k v,h,l⟩ ⟨rfl,i.g,⟨i.ok.hp,i.ok.low,aB _⟩,Q,X,rfl⟩ ?_;rintro r K x;have⟨AM,I⟩:=i.put rfl x;simp[u,q,t,B,W];exact⟨v+1,G,G,r,AM,_,I,f,rfl,V⟩;rw[lO (show n<=v by omega)]at f;simp[u,w,q,t,B,C,M];exact⟨k+1,G,G,h,l,j,i,f,rfl,V⟩;rw[lO (show n<=k by omega)]at f;simp[q,t,A];clear A t;rw[<-c7]at f;refine pU n (λk c s=>∃h l j,FO b s h l j/\j++((jn k n).flatMap λ(m:Nat)=>(jn (m+1) n).flatMap λ(d:Nat)=>if(b.gx.e m).eG=(b.gx.e d).eG/\oy (b.gx.e m)/\oy (b.gx.e d)=true then(jn 0 n).flatMap λ(o:Nat)=>(jn o n).flatMap λ(z:Nat)=>jJ b.gx.vR (gA m d o z)else [])=b.gx.oH/\TI.Y c 1=D (dY 0)/\TI.Y c 3=D h/\TI.Y c 4=D (J n)/\TI.Y c 12=D (J k)) ?_ G (k:=0) G ⟨h,l,j,i,iD f,by simp[u,w,q]⟩;rintro k c s bA ⟨h,l,j,i,f,u,w,q,t⟩;by_cases A:k<n;have M:=ml A G;rw[kM A,aV]at f;simp[q,t,A,M];generalize dd:((jn (k+1) n).flatMap λ(m:Nat)=>(jn (m+1) n).flatMap λ(d:Nat)=>if(b.gx.e m).eG=(b.gx.e d).eG/\oy (b.gx.e m)/\oy (b.gx.e d)=true then(jn 0 n).flatMap λ(o:Nat)=>(jn o n).flatMap λ(z:Nat)=>jJ b.gx.vR (gA m d o z)else [])=bT at f;refine pU n (λv c s=>k<v/\∃h l j,FO b s h l j/\j++(((jn v n).flatMap λ(d:Nat)=>if(b.gx.e k).eG=(b.gx.e d).eG/\oy (b.gx.e k)/\oy (b.gx.e d)=true then(jn 0 n).flatMap λ(o:Nat)=>(jn o n).flatMap λ(z:Nat)=>jJ b.gx.vR (gA k d o z)else [])++bT)=b.gx.oH/\TI.Y c 1=D (dY 0)/\TI.Y c 3=D h/\TI.Y c 4=D (J n)/\TI.Y c 12=D (J k)/\TI.Y c 13=D (J v)) ?_ G (k:=k+1) G ⟨G,h,l,j,i,f,by simp[u,w,q,t]⟩;rintro v c s b7 ⟨eo,h,l,j,i,f,u,w,q,t,B⟩;by_cases C:v<n;have W:=ml C G;have b8:k<b.ei.length:=G;have b6:v<b.ei.length:=G;rw[kM C,aV,aQ]at f;generalize bX:((jn (v+1) n).flatMap λ(d:Nat)=>if(b.gx.e k).eG=(b.gx.e d).eG/\oy (b.gx.e k)/\oy (b.gx.e d)=true then(jn 0 n).flatMap λ(o:Nat)=>(jn o n).flatMap λ(z:Nat)=>jJ b.gx.vR (gA k d o z)else [])++bT=bS at f;rw[agW b8,agW b6]at f;simp[u,q,t,B,C,i.b0,b8,b6,KO];refine fG (λF=>?_) (λF=>?_);rw[aw (by rintro⟨cp,eb,ec⟩;simp[cp,eb,ec]at F)]at f;simp[u,w,q,t,B,W];rw[cm,<-bX]at f;exact⟨v+1,G,G,G,h,l,j,i,f,rfl,V⟩;rw[ax (by simp at F;exact⟨F.1.1,F.1.2,F.2⟩)]at f;simp;refine pU n (λo c s=>∃h l j,FO b s h l j/\j++(((jn o n).flatMap λ(o:Nat)=>(jn o n).flatMap λ(z:Nat)=>jJ b.gx.vR (gA k v o z))++bS)=b.gx.oH/\TI.Y c 1=D (dY 0)/\TI.Y c 3=D h/\TI.Y c 4=D (J n)/\TI.Y c 12=D (J k)/\TI.Y c 13=D (J v)/\TI.Y c 14=D (J o)) ?_ G (k:=0) G ⟨h,l,j,i,f,by simp[u,w,q,t,B]⟩;rintro o c s ef ⟨h,l,j,i,f,u,w,q,t,B,O⟩;by_cases aN:o<n;have de:=ml aN G;rw[kM aN,aV,aQ]at f;simp[q,O,aN];generalize c9:((jn (o+1) n).flatMap λ(o:Nat)=>(jn o n).flatMap λ(z:Nat)=>jJ b.gx.vR (gA k v o z))++bS=cL at f;refine pU n (λz c s=>∃h l j,FO b s h l j/\j++(((jn z n).flatMap λ(z:Nat)=>jJ b.gx.vR (gA k v o z))++cL)=b.gx.oH/\TI.Y c 1=D (dY 0)/\TI.Y c 3=D h/\TI.Y c 4=D (J n)/\TI.Y c 12=D (J k)/\TI.Y c 13=D (J v)/\TI.Y c 14=D (J o)/\TI.Y c 15=D (J z)) ?_ G (k:=o) G ⟨h,l,j,i,f,by simp[u,w,q,t,B,O]⟩;rintro z c s eh ⟨h,l,j,i,f,u,w,q,t,B,O,P⟩;have X:=i.len Z f;by_cases aX:z<n;have di:=ml aX G;rw[kM aX,aV,aQ,<-aQ]at f;simp[u,w,q,t,B,O,P,aX,i.b0];refine jl JZ V ⟨b,gA k v o z,h,l⟩ ⟨rfl,i.g,⟨i.ok.hp,i.ok.low,aB _⟩,Q,X,rfl⟩ ?_;rintro r K x;have⟨AM,I⟩:=i.put rfl x;simp[u,q,t,B,O,P,di];exact⟨z+1,G,G,r,AM,_,I,f,rfl,V⟩;rw[lO (show n<=z by omega)]at f;simp[u,w,q,t,B,O,P,aX,de];exact⟨o+1,G,G,h,l,j,i,c9▸f,rfl,V⟩;rw[lO (show n<=o by omega)]at f;simp[u,w,q,t,B,O,aN,W];exact⟨v+1,G,G,G,h,l,j,i,bX▸f,rfl,V⟩;rw[lO (show n<=v by omega)]at f;simp[u,w,q,t,B,C,M];exact⟨k+1,G,G,h,l,j,i,dd▸f,rfl,V⟩;rw[lO (show n<=k by omega)]at f;simp[w,q,t,A];rw[cB,bJ]at f;rw[Kr h i.g.iW,Gr.ag9 i.g G i.a,f];exact⟨i.ok.hp,rfl⟩;exact⟨dT,[],[],⟨Gr.nil _ _,.nil,by exact⟨V,V,V⟩,V,V⟩,aA.symm,V⟩
structure Fm(h h':H)(bl:Nat)(v v':T):Prop where
 ok:iS h.size h'
 fr:∀c,c<h.size->c≠bl->fa v≠some c->h'.get c=h.get c
 bx:∀c,fa v'=D c->fa v=D c\/h.size<=c
def Fm.nb{a b:H}{e:Nat}{d:T}(c:Nb a b):Fm a b e d d:=⟨c.ok,λf g _ _=>c.get f g,λ_ h=> .inl h⟩
def Fm.trans{g c d:H}{f:Nat}{h i j:T}(e:Fm g c f h i)(b:Fm c d f i j):Fm g d f h j:=by
 have l:=e.ok.sz;have m:=b.ok.sz;refine⟨⟨b.ok.hp,b.ok.low,G⟩,λa k c d=>(b.fr a G c λq=>(e.bx a q).elim d G).trans (e.fr a k c d),λa q=>?_⟩;rcases b.bx a q with q|q
 exact e.bx a q;right;omega
def Fm.out{h c:H}{d:Nat}{e f:T}(a:Fm (TI.hr h) c d e f):Fm h (mF h c) d e f:=⟨⟨(a.ok.out h).hp,(a.ok.out h).low,iD a.ok.sz⟩,λb j g i=>(iA h c b).trans ((a.fr b (iD j) g i).trans (iI h b)),λb k=>iD (a.bx b k)⟩
structure FP(h:H)(bl:Nat)(v:T)(es:List T)(gs:List iw):Prop where
 gl:∃ver,h.get bl=D (dU 1 ver [v])
 g:Gr h v 6 es
 a:jr (FT h (λc=>c<h.size/\c≠bl/\fa v≠some c) 4) es (gs.map iw.t)
def FP.step{l b:H}{c:Nat}{m e:T}{g i:List T}{k gs2:List iw}(q:FP l c m g k)(h:Fm l b c m e)(p:∃u,b.get c=D (dU 1 u [e]))(o:Gr b e 6 (g++i))(n:jr (FT b (λf=>f<b.size/\f≠c/\fa e≠some f) 4) i (gs2.map iw.t)):FP b c e (g++i) (k++gs2):=by have v:=h.ok.sz;refine⟨p,o,?_⟩;rw[List.map_append];exact(q.a.imp λ_ _ r=>r.mono λj d=>⟨⟨G,d.2.1,λs=>(h.bx j s).elim d.2.2 G⟩,h.fr j d.1 d.2.1 d.2.2⟩).append n
def FP.nb{j k:H}{f:Nat}{m:T}{h:List T}{i:List iw}(c:FP j f m h i)(d:Nb j k):FP k f m h i:=by have⟨p,l⟩:=c.gl;have q:=d.ok.sz;exact⟨⟨p,(d.get f (H.fN l)).trans l⟩,c.g.mono λe b=>by have⟨_,_,_,_,n,_⟩:=c.g.box b;exact d.get e (H.fN n),c.a.imp λ_ _ o=>o.mono λe b=>⟨⟨G,b.2⟩,d.get e b.1⟩⟩
def FP.out{b:H}{d:Nat}{j:T}{f:List T}{i:List iw}(e:FP b d j f i)(c:H):FP (mF c b) d j f i:=by have⟨p,n⟩:=e.gl;exact⟨⟨p,(iA c b d).trans n⟩,e.g.out c,e.a.imp λ_ _ o=>o.mono λk l=>⟨iD l,iA c b k⟩⟩
def Kn(e:iw)(f:T):T:= .eQ [J e.fc,J e.a,J e.b,J e.c,J e.d,f]
structure IAd where
 (z:iC) (g:iw) (e:T) (bx bl:Nat) (v:T) (es:List T) (gs:List iw)
def PW(a:IAd)(d:List T)(b:H):Prop:=d=[Kn a.g a.e,dY a.bx,dY a.bl]/\(∃f,b.get a.bx=D (dU 16 f [a.z.t]))/\FP b a.bl a.v a.es a.gs/\iS 0 b/\An a.z/\a.es.length<=1000000/\a.g.jo.length<=1000000/\Gr b a.e 1 (iy a.g.jo)/\(∀c,fa a.e=D c->c≠a.bl)
def N4(a:IAd)(f:List T)(e:H)(h:T)(b:H):Prop:=∃c d,FP b a.bl c d (a.gs++jJ a.z.w.gx.vG a.g)/\Fm e b a.bl a.v c
def Qg:(jS IAd PW N4).Ok prog cx 87:=by
 refine jz (tb:=⟨pt [(58,xX)],ht []⟩) jk iX (js 79 [] func87) (λ_ _=>10) (λi bT h bN=>by obtain⟨rfl,_⟩:=bN;simp[f87]) ?_;rintro⟨W,j,l,a8,r,A,Y,bW⟩ _ h ⟨rfl,⟨b6,R⟩,L,aN,aE,bH,aA,C,S⟩ bZ ap
 dsimp at R L aE bH aA C S
 simp[Kn]at ap;obtain⟨bA,E,F⟩:=ap;have⟨U,av⟩:=L.gl;generalize y:(TI.hr h).cons (dU 6 0 [Kn j l])=m;have I:iS h.size m:=y▸(⟨aN.hr.hp,aN.hr.low,az _⟩:iS h.size (TI.hr h)).cons _;have b8:m.size=h.size+1:=by rw[<-y];rfl
 have z:Nb h m:=⟨I,λe f=>by rw[<-y,fg,aw dP];exact iI h e⟩;have bi:=(z.get a8 (H.fN R)).trans R;have M:=(z.get r (H.fN av)).trans av;have al:m.get h.size=D (dU 6 0 [.eQ [J j.fc,J j.a,J j.b,J j.c,J j.d,l]]):=by rw[<-y];simp[Kn]
 have an:Gr m l 1 (iy j.jo):=C.mono λe f=>by have⟨_,_,_,_,o,_⟩:=C.box f;exact z.get e (H.fN o)
 have bp:TI.fz m l=D (sl (iy j.jo)):=an.fz V;have bn:∀{tb:ik},tb.p 58=D xX->rl prog cx tb 58 [W.t,j.t]=D (.ej (W.w.gx.vG j)):=λht=>QW ht W j aE aA;have v:=L.nb z;unfold Kn at y;simp[f87,bA,E,y,bi,al,bp,bn];refine fG (λT=>?_) (λT=>?_)
 .have aX:iS 0 m:=⟨I.hp,I.low,aB _⟩;have⟨u,O,X,q⟩:=v.g.yA (cx:=cx) aX Ky rfl KB rfl V (x:=Kn j l) rfl dP;have bC:=H.fN M;have P:=(q.2.1 r bC (λs=>by have⟨_,_,_,_,o,_⟩:=v.g.box s;rw[M]at o;simp at o)).trans M;have bX:=aX.low;have b7:=q.2.2.2.sz;unfold Kn at X;have sv:ly A 0 [u]=D u:=wI (qk.na (h:=m) (sz:=6) (.inr v.g));simp[F,M,al,X,P,sv,q.1.iW,q.1.cells,v.g.cells];have N:∀K e,(fF O r K).get e=if e=r then some K else O.get e:=λK e=>ez P K e;have bS:fa u≠some r:=λs=>by have⟨_,_,_,_,o,_⟩:=q.1.box s;rw[P]at o;simp at o
  have ae:Fm m (fF O r (dU 1 (U+1) [u])) r A u:=⟨q.2.2.2.put _ _,λe f E F=>by rw[N,aw E];exact q.2.1 e f F,q.2.2.1⟩;have a7:=v.step (gs2:=[j]) ae ⟨U+1,by rw[N,ax rfl]⟩ (q.1.mono λe s=>by rw[N,aw (λk=>bS (by rw[<-k];exact s))]) (.cons (.inr (.inr ⟨_,_,rfl,.cons (iL ..) (.cons (iL ..) (.cons (iL ..) (.cons (iL ..) (.cons (iL ..) (.cons (?_:FT _ _ 3 l (sl (iy j.jo))) .nil))))),rfl⟩)) .nil);rotate_left;have Q:∀e,fa l=D e->e<h.size:=λe f=>by have⟨_,_,_,_,o,_⟩:=C.box f;exact H.fN o
  have Z:∀e,fa l=D e->fa A≠some e:=λe f=>C.ne L.g dR e f;have bu:Gr (fF O r (dU 1 (U+1) [u])) l 1 (iy j.jo):=an.mono λe f=>by
   rw[N,aw (S e f)];exact q.2.1 e (iH (Q e f)) (Z e f)
  exact(show qk _ 1 l (iy j.jo)from .inr bu).ft (d:=1) (λK o=>by obtain⟨n,_,rfl⟩:=List.mem_map.1 o;simp) λe f=>⟨qN (Q e f),S e f,λs=>(q.2.2.1 e s).elim (Z e f) (iH (Q e f))⟩;have bs:Fm h m r A A:=Fm.nb z;have B:=bs.trans ae;refine⟨u,Y++[Kn j l],?_,⟨⟨(B.ok.out h).hp,(B.ok.out h).low,iD B.ok.sz⟩,λe f E F=>(iA h _ e).trans (B.fr e f E F),B.bx⟩⟩;unfold jJ;rw[T];exact a7.out h
 simp;exact⟨A,Y,by
  unfold jJ;rw[T];simpa using v.out h,Fm.nb ⟨⟨(I.out h).hp,(I.out h).low,dP⟩,λe f=>(iA h m e).trans (z.get e f)⟩⟩
@[simp]def ahp (b:aj) (a:List T):(T.func b a).cells=[.func b a]:=a9
@[simp]def aip (b:aj) (a:List T):(T.func b a).iW=true:=a9
def abt{h:H}(b c a:Nat)(d:jI)(f:h.get b=D d)(g:d.sz=1):H8 cx h pJ (.arr b c 0 a false) none (some a) (some a)=be (.arr b c 0 a true) h:=by
 unfold H8;have e:jy cx h pJ.u (.arr b c 0 a false):=by
  unfold jy;simp only[show pJ.u= .slice 3 from rfl,nc,f,g];rfl
 rw[e,iO,show zO (some a) (some a)=true from rfl,iO,show asSlice pJ.u (.arr b c 0 a false)= .arr b c 0 a false by rw[show pJ.u= .slice 3 from rfl];rfl];show val h (iT (Nat.ble 0 a) (iT (Nat.ble a a) (Z (iZ (Nat.add 0 0)) λj=>Z (iZ (Nat.sub a 0)) λi=>iT (Nat.beq a a) (some (T.arr b c j i true)))))=_;simp
def WO{h:H}{b ep n:Nat}{c:List T}(g:h.jQ (.arr b ep 0 n true)=D c)(f:∀d∈c,d.cells.length=1)(hl:c.length<=1000)(a:Int):
 ju cx (h.cons (dU 1 0 [J a])) 39 39 (.arr b ep 0 n true) (.arr h.size 0 0 1 false)=be (.arr (h.size+1) 0 0 (c.length+1) false) ((h.cons (dU 1 0 [J a])).cons ⟨1,0,0,false,false,c++[J a]⟩):=by
 unfold ju rM oz;simp only[kE,fj,show pJ.u= .slice 3 from rfl,nc];have i:(h.cons (dU 1 0 [J a])).jQ (.arr h.size 0 0 1 false)=D [J a]:=by rw[iU];simp
 rw[i,fj];show iT true (km (Z ((h.cons (dU 1 0 [J a])).jQ (.arr b ep 0 n true)) λc=>(h.cons (dU 1 0 [J a])).jK 1 8 c [J a]))=_;rw[iO,Hb g,fj];unfold H.jK;rw[qt,fj,kG,jv,fj,mB f,mB d1];have e:ar (Nat.mul (c++[T.int .i64 a]).length 8) 70368744177664:=by
  rw[Nat.ble_eq];show(c++[T.int .i64 a]).length*8<=_;simp;omega
 rw[e];simp only[show ar 1 8=true from rfl,iO,H.mL,aY,List.length_singleton];rfl
def Fm.abR{a c:H}{d:Nat}{f g:T}(b:Fm a c d f g):Fm a (mF a c) d f g:=⟨⟨(b.ok.out a).hp,(b.ok.out a).low,iD b.ok.sz⟩,λe j h i=>(iA a c e).trans (b.fr e j h i),b.bx⟩
def WZ(b a:Nat):T:= .func 87 [dY b,dY a]
def YU(a b c:Nat):T:= .func 140 [dY a,dY b,dY c]
structure EnD(h:H)(z:iC)(b1 b2 b3 bx bl:Nat):Prop where
 e1:∃ver,h.get b1=D (dU 1 ver [WZ bx bl])
 e2:∃ver,h.get b2=D (dU 16 ver [z.t])
 e3:∃ver,h.get b3=D (dU 1 ver [YU b1 b2 b3])
 ex:∃ver,h.get bx=D (dU 16 ver [z.t])
def FP.ne{i:H}{h:Nat}{f:T}{m:List T}{n:List iw}(l:FP i h f m n){c:Nat}{a:jI}(j:i.get c=D a)(k:a.sz=16\/(a.sz=1/\a.gU≠ [f])):c≠h/\fa f≠some c:=by have⟨o,d⟩:=l.gl;refine⟨?_,λq=>?_⟩;rintro rfl;rw[j]at d;cases d;rcases k with q|q;simp at q;exact q.2 rfl;have⟨_,_,_,_,e,_⟩:=l.g.box q;rw[j]at e;cases e;rcases k with q|q;simp at q;have:=q.1;simp at this
def Gr.nf{f:H}{a:T}{g:Nat}{c:List T}(e:Gr f a g c){d:aj}{b:List T}: [T.func d b]≠ [a]:=by rcases e with⟨rfl,_⟩|⟨_,_,_,_,_,rfl,_⟩<;>simp
def EnD.fm{j o:H}{u:iC}{k l m n b:Nat}{t x:T}{v:List T}{w:List iw}(c:EnD j u k l m n b)(a:FP j b t v w)(d:Fm j o b t x):EnD o u k l m n b:=by have⟨y,e⟩:=c.e1;have⟨z,f⟩:=c.e2;have⟨A,h⟩:=c.e3;have⟨B,i⟩:=c.ex;have p:=a.ne e (.inr ⟨rfl,Gr.nf a.g⟩);have q:=a.ne f (.inl rfl);have r:=a.ne h (.inr ⟨rfl,Gr.nf a.g⟩);have s:=a.ne i (.inl rfl);exact⟨⟨y,(d.fr _ (H.fN e) p.1 p.2).trans e⟩,⟨z,(d.fr _ (H.fN f) q.1 q.2).trans f⟩,⟨A,(d.fr _ (H.fN h) r.1 r.2).trans h⟩,⟨B,(d.fr _ (H.fN i) s.1 s.2).trans i⟩⟩
structure IDd where
 (z:iC) (p:List Int) (pv:T) (b1 b2 b3 bx bl:Nat) (v:T) (es:List T) (gs:List iw)
def cyG(b:iC)(a:List Int):List (List Int):=B1 b.w.gx.ev.length (λa=>decide (2<=a.length)&&b.w.gx.vG (gC a)) (λa c=>b.w.gx.uo c (mO a)) (4-a.length) a
def Uh(a:IDd)(d:List T)(b:H):Prop:=d=[a.pv,dY a.b1,dY a.b2,dY a.b3]/\EnD b a.z a.b1 a.b2 a.b3 a.bx a.bl/\FP b a.bl a.v a.es a.gs/\iS 0 b/\An a.z/\Gr b a.pv 1 (iy a.p)/\(∀c,fa a.pv=D c->c≠a.bl)/\1<=a.p.length/\a.p.length<=4/\(∀e∈a.p,jx e a.z.w.ei.length=true)/\a.gs.length+(cyG a.z a.p).length<=1000000
def NY(a:IDd)(f:List T)(e:H)(g:T)(b:H):Prop:=∃c d,FP b a.bl c d (a.gs++(cyG a.z a.p).map gC)/\Fm e b a.bl a.v c
def ab7(k:Nat):(jS IDd (λi aA h=>Uh i aA h/\5-i.p.length<k) NY).Ok prog cx 140:=by
 refine yE (λi:IDd=>5-i.p.length) (λm eV=>?_) k;refine jz (tb:=⟨pt [(141,tI)],ht [(87,jS IAd PW N4),(68,jS Ns (vh 1) (ry 1)),(140,jS IDd (λi aA h=>Uh i aA h/\5-i.p.length<m) NY)]⟩) jk iX (js 137506128175 [(1,[(0,2)]),(7,[(0,9)])] func140) (λ_ _=>100) (λi aA h eO=>by obtain⟨⟨rfl,_⟩,_⟩:=eO;simp[f140]) ?_;rintro⟨d,c,z,W,bA,C,cL,o,O,es,ae⟩ _ h ⟨⟨rfl,bH,A,ca,ap,Q,b8,eP,eR,a8,bX⟩,eM⟩ l c6
 dsimp at bH A ap Q b8 eP eR a8 bX eM
 simp at c6;obtain⟨f,v,t,I⟩:=c6;have ds:Nb h (TI.hr h):=⟨⟨ca.hr.hp,ca.hr.low,az _⟩,λe _=>iI h e⟩;have bT:Fm h (TI.hr h) o O O:=Fm.nb ds;have bn:=A.nb ds;have c4:=bH.fm A bT;have eW:∀b,fa z=D b->b<h.size:=λb eH=>by have⟨_,_,_,_,X,_⟩:=Q.box eH;exact H.fN X
 have ea:∀e,fa z=D e->fa O≠some e:=λe u=>Q.ne A.g dR e u;have av:=λv:H=>Q.len (cx:=cx) v pJ _ rfl;rw[aK]at av;have ff:es.length=ae.length:=by have:=A.a.length;simpa using this
 have⟨fM,F⟩:=c4.e1;simp[f140,f,av];refine lJ (λl h'=>∃j q,FP h' o j q (ae++(if(decide (2<=c.length)&&d.w.gx.vG (gC c))=true then [c]else []).map gC)/\Fm h h' o O j/\TI.Y l 0=D z/\TI.Y l 1=D (dY W)/\TI.Y l 2=D (dY bA)/\TI.Y l 3=D (dY C)) (λS=>?_) (λS=>?_) ?_;have eD:2<=c.length:=iH (of_decide_eq_true S);have eB:Gr (TI.hr h) z 1 (iy c):=Q.mono λe _=>iI h e;simp[f,v,F,WZ];refine ma CC V ⟨z,iy c⟩ ⟨rfl,eB.jQ,by simp[T.cells],dP,ca.hr⟩ ?_;rintro r e9 ⟨a7,M,eX⟩
 dsimp at a7
 have bp:=bn.nb M;have et:=c4.fm bn (Fm.nb M);have ee:o<h.size:=by have⟨ver,b6⟩:=A.gl;exact H.fN b6
 have e0:=il (M.get W (H.fN F));simp[a7.iW,a7.cells,e0];refine ma Qg V ⟨d,gC c,r,cL,o,O,es,ae⟩ ⟨rfl,et.ex,bp,⟨M.ok.hp,M.ok.low,aB _⟩,ap,dQ,by simp[gC];omega,a7,λe u=>by have:=eX e u;simp at this;show e≠o;omega⟩ ?_;rintro _ fb ⟨j,q,ec,aN⟩;have ey:=(bT.trans (Fm.nb M)).trans aN;have dm:=bp.ne ((M.get W (H.fN F)).trans F) (.inr ⟨rfl,Gr.nf bp.g⟩);have e4:=il (aN.fr W (bO (H.fN F) M.ok.sz) dm.1 dm.2);have fs:=aN.ok.low;have fX:=aN.ok.sz;simp[f,v,t,I,e4];refine⟨j,⟨q,?_⟩,ey⟩;have:jJ d.w.gx.vG (gC c)=List.map gC (if 2<=c.length/\d.w.gx.vG (gC c)=true then [c]else []):=by
  unfold jJ;by_cases N:d.w.gx.vG (gC c)=true;rw[ax N,ax ⟨eD,N⟩];rfl;rw[aw N,aw (λk=>N k.2)];rfl
 rw[<-this];exact ec;have:¬2<=c.length:=by simp at S;omega
 simp[f,v,t,I,this];exact⟨O,⟨es,bn⟩,bT⟩;rintro l h' ⟨j,q,B,s,f,v,t,I⟩;have cb:∀{t:H} {eb:T},Fm h t o O eb->Gr t z 1 (iy c):=λP=>Q.mono λe u=>P.fr e (eW e u) (b8 e u) (ea e u);have R:cyG d c=B1 d.w.ei.length (λc=>decide (2<=c.length)&&d.w.gx.vG (gC c)) (λc L=>d.w.gx.uo L (mO c)) (4-c.length) c:=rfl;simp[f,av];refine fG (λS=>?_) (λS=>?_);simp at S;rw[show 4-c.length=0 by omega,B1]at R;simp;refine⟨j,q,?_,s.abR⟩;simp only;rw[R];exact B.out h;simp at S;have⟨Z,eE⟩:∃Z,4-c.length=Z+1:=⟨3-c.length,G⟩;rw[eE,B1]at R;have⟨p0,b7⟩:∃p0:Nat,c[0]? =D (p0:Int)/\p0<d.w.ei.length:=by
  have:=fT.1 (a8 c[0] (aH G));exact⟨c[0].toNat,by rw[aF G];congr 1;omega,G⟩
 have fo:=ap.w.ok.len;have eI:(c.getD 0 0).toNat=p0:=by simp[List.getD,b7.1]
 rw[eI]at R;have b9:c.length-1<c.length:=G;have di:mO c=c[c.length-1]:=by simp[mO,List.getD,b9]
 have eN:jx (mO c) d.w.ei.length:=di▸a8 _ (aH b9);have⟨E,bS,fS,e8,fW,K,de,_,_⟩:=Q.at (x:= J p0) (i:=0) (by rw[br,b7.1];rfl);rw[aK]at K;have⟨fE,F,cX⟩:=(show qk h' 1 z _ from .inr (cb s)).idx (te:=Dp) rfl rfl (i:=0) (x:= J p0) (by simp[b7.1]) rfl;have eF:binop .add (J (p0:Int)) (J 1)=D (J ((p0:Int)+1)):=jf G G;have eS:binop .sub (J (c.length:Int)) (J 1)=D (J ((c.length-1:Nat):Int)):=by rw[lK G G];congr 2;omega
 generalize dd:(λ(L:Nat)=>if d.w.gx.uo L (mO c)=true then B1 d.w.ei.length (λc=>decide (2<=c.length)&&d.w.gx.vG (gC c)) (λc L=>d.w.gx.uo L (mO c)) Z (c++[(L:Int)])else [])=P at R;generalize(if(decide (2<=c.length)&&d.w.gx.vG (gC c))=true then [c]else [])=cp at*
 simp[f,F,cX,eF];clear F cX;refine pU d.w.ei.length (λk l h'=>p0+1<=k/\∃j q,FP h' o j q (ae++(cp++(List.range' (p0+1) (k-(p0+1))).flatMap P).map gC)/\Fm h h' o O j/\TI.Y l 0=D z/\TI.Y l 1=D (dY W)/\TI.Y l 2=D (dY bA)/\TI.Y l 3=D (dY C)/\TI.Y l 5=D (J k)) ?_ G (k:=p0+1) G ?_;rintro k l h' fl ⟨fi,j,q,B,s,f,v,t,I,al⟩;have bN:=bH.fm A s;have⟨eb,c1⟩:=bN.e2;have⟨fP,aE⟩:=bN.e3;by_cases dk:k<d.w.ei.length;have c7:binop .add (J (k:Int)) (J 1)=D (J ((k:Int)+1)):=jf G G;have⟨fL,ef,eh⟩:=(show qk h' 1 z _ from .inr (cb s)).idx (te:=Dp) rfl rfl (i:=c.length-1) (x:= J (mO c)) (by rw[di];simp[b9]) rfl;have eo:=λ{tb:ik} (ht:tb.p 141=D tI)=>M1 ht d k (mO c) ap (fT.2 ⟨G,G⟩) eN;simp[f,t,al,dk,c1,av,eS,ef,eh,eo];refine fG (λN=>?_) (λN=>?_);have eC:=cb s;have eL:h'.jQ (.arr E bS 0 c.length true)=D (iy c):=by
  have:=eC.jQ;rw[K]at this;rw[iU]at this|-;exact this
 have fC:∀e,fa z=D e->e=E:=λe u=>by rw[K]at u;simpa using u.symm
 have eK:h'.get E=_:=(s.fr E (H.fN de) (b8 E (by rw[K];rfl)) (ea E (by rw[K];rfl))).trans de;have er:=abt (h:=h') E bS c.length _ eK rfl;have bC:=WO (h:=h') (b:=E) (ep:=bS) (n:=c.length) eL d1 dP (k:Int);rw[aK]at bC;have bi:iS h.size h':=s.ok;generalize bW:(h'.cons (dU 1 0 [J k])).cons ⟨1,0,0,false,false,iy c++[J k]⟩=an at bC;have fY:an.size=h'.size+1+1:=by rw[<-bW];rfl
 have U:Nb h' an:=bW▸((Nb.refl ⟨bi.hp,bi.low,aB _⟩).cons _).cons _;have eA:Gr an (.arr (h'.size+1) 0 0 (c.length+1) false) 1 (iy (c++[(k:Int)])):=by
  have:=Gr.new (h:=an) (b:=h'.size+1) (sz:=1) (ep:=0) (ver:=0) (ex:=false) (es:=iy (c++[(k:Int)])) (by rw[<-bW,show iy (c++[(k:Int)])=iy c++[J k]from List.map_append ..];simp);simpa using this
 have bs:=B.nb U;have eu:=bN.fm B (Fm.nb U);have fA:=bi.low;have cv:=H.fN aE;have gg:=bi.sz;have fB:(C=h'.size)=False:=dP;have e5:=il (h:=h'.cons (dU 1 0 [J k])) (h':=an) (b:=C) (by rw[U.get C cv,fg,aw G]);have ee:o<h.size:=by have⟨ver,b6⟩:=A.gl;exact H.fN b6
 simp[YU]at aE;rw[K]at f;simp[f,I,al,aE,K▸av,er,bC,e5];have bZ:P k=B1 d.w.ei.length (λc=>decide (2<=c.length)&&d.w.gx.vG (gC c)) (λc L=>d.w.gx.uo L (mO c)) Z (c++[(k:Int)]):=by rw[<-dd];simp only;rw[ax N]
 have c9:cyG d (c++[(k:Int)])=P k:=by rw[bZ];unfold cyG;simp only[aY,List.length_singleton];rw[show 4-(c.length+1)=Z by omega];rfl
 have eU:jn (p0+1) d.w.ei.length=List.range' (p0+1) (k-(p0+1))++k::List.range' (k+1) (d.w.ei.length-(k+1)):=by
  unfold jn;rw[show d.w.ei.length-(p0+1)=(k-(p0+1))+(d.w.ei.length-k)by omega,<-List.range'_append_1,show p0+1+(k-(p0+1))=k by omega,show d.w.ei.length-k=(d.w.ei.length-(k+1))+1 by omega,List.range'_succ]
 refine ma eV V ⟨d,c++[(k:Int)],.arr (h'.size+1) 0 0 (c.length+1) false,W,bA,C,cL,o,j,q,ae++(cp++(List.range' (p0+1) (k-(p0+1))).flatMap P).map gC⟩ ⟨⟨rfl,eu,bs,⟨U.ok.hp,U.ok.low,aB _⟩,ap,eA,λe u=>?_,V,dP,λy X=>?_,?_⟩,dP⟩ ?_;simp at u;show e≠o;omega;simp at X;rcases X with X|rfl
 exact a8 y X;show jx (k:Int) d.w.ei.length=true;exact fT.2 ⟨G,G⟩;simp[c9];rw[R,eU]at bX;simp[aY,c8,aV]at bX|-;omega;rintro _ fe ⟨e7,es3,bu,aX⟩;simp[c9]at bu;have dn:=bs.ne ((U.get C cv).trans aE) (.inr ⟨rfl,Gr.nf bs.g⟩);have e6:=il (aX.fr C G dn.1 dn.2);have fv:=aX.ok.low;have gd:=aX.ok.sz;simp[f,v,t,I,al,c7,e6];refine⟨k+1,G,G,G,e7,⟨es3,?_⟩,(s.trans (Fm.nb U)).trans aX,by rw[K],V⟩;rw[show k+1-(p0+1)=(k-(p0+1))+1 by omega,List.range'_concat,show p0+1+1*(k-(p0+1))=k by omega,c8];simp[aV,cB,bJ,List.map_append,<-List.append_assoc]at bu|-;exact bu;simp[f,v,t,I,al,c7];have bZ:P k=[]:=by rw[<-dd];simp only;rw[aw (by rw[N];simp)]
 refine⟨k+1,G,G,G,j,⟨q,?_⟩,s,V⟩;rw[show k+1-(p0+1)=(k-(p0+1))+1 by omega,List.range'_concat,show p0+1+1*(k-(p0+1))=k by omega,c8];simpa[bZ]using B;simp[t,al,dk,c1];refine⟨j,q,?_,s.abR⟩;simp only;rw[R];unfold jn;rw[show k=d.w.ei.length by omega]at B;exact B.out h;exact⟨G,j,q,iD B,s,by simp[f,v,t,I]⟩
def LY:(jS Ns (vh 2) (ry 2)).Ok prog cx 66:=yr (tZ (fn:=f66) (t:=54) (tb:=4) (te:=E4) iX func66 dW dW dW dW dW dW dW) dR (bytes:=16) dR 
def FL{cx:Ctx}{sz:Nat}{e g:ab}{i b:Ty}(k:cx.ty e=D i)(l:i.u= .slice g)(m:cx.ty g=D b)(d:b.size=sz)(p:1<=b.bytes){es:List T}(o:∀a∈es,a.cells.length=sz)(q:(es.length+1)*b.bytes<=70368744177664){c:H}{j a:T}(h:a.cells.length=sz)
 (n:∀f,f≠ []->(c.cons (dU sz 0 [a])).append b.size b.bytes j f=(c.cons (dU sz 0 [a])).jK b.size b.bytes es f):ju cx (c.cons (dU sz 0 [a])) e e j (.arr c.size 0 0 1 false)=be (.arr (c.size+1) 0 0 (es.length+1) false) ((c.cons (dU sz 0 [a])).cons ⟨sz,0,0,false,false,es++[a]⟩):=by
 unfold ju rM oz;rw[k,fj,fj];simp[l,m,fj];rw[iU];simp[fg,fj,List.drop_zero,dD,aZ,cW];simp[iO,mB (sz:=b.size) (es:=[a]) (by rw[d];simpa using h),n [a] V];unfold H.jK;rw[qt,fj,kG,jv,fj,mB (sz:=b.size) (d▸o),mB (sz:=b.size) (es:=[a]) (by rw[d];simpa using h)];simp[*,km]
def Zc{cx:Ctx}{sz:Nat}{m p:ab}{n f:Ty}(q:cx.ty m=D n)(g:n.u= .slice p)(h:cx.ty p=D f)(k:f.size=sz)(r:1<=f.bytes)(e:List T)(j:∀d∈e,d.cells.length=sz)(s:(e.length+1)*f.bytes<=70368744177664):
 ∃t:T,(∀a,H8 cx a n (sl e) none (some e.length) (some e.length)=be t a)/\∀(a:H) (d:T),d.cells.length=sz->ju cx (a.cons (dU sz 0 [d])) m m t (.arr a.size 0 0 1 false)=be (.arr (a.size+1) 0 0 (e.length+1) false) ((a.cons (dU sz 0 [d])).cons ⟨sz,0,0,false,false,e++[d]⟩):=by
 rcases e with _|⟨c,b⟩;exact⟨dT,λa=>by unfold H8 jy;simp[g,h];rfl,λa d i=>FL q g h k r j s i λo l=>by cases o with|nil=>exact absurd rfl l|cons=>rfl⟩;refine⟨.em (c::b) true,λa=>?_,λa d i=>FL q g h k r j s i λo l=>by cases o with|nil=>exact absurd rfl l|cons=>rfl⟩;unfold H8 jy;simp[g,h];show iT (fits f.size (c::b)) (iT true (val a (sg (c::b) false 0 (c::b).length (some (c::b).length))))=_;rw[k,mB j,iO,iO];unfold sg;rw[QM _ _ _ (aB _) (az _),fj,show ar 0 (c::b).length=true by simp,iO,List.drop_zero,Nat.sub_zero,aM];show val a (iT (Nat.beq (c::b).length (c::b).length) (some (.em (c::b) true)))=_;simp
def JM(b:Nat)(c:fK)(a:H):Prop:=∃i d e f g h,oQ a b 9 i (qH c d e f g h)/\Lb b a 3 r8
def VW(a b:im):Nq cx E4 a.t b.t=D (decide (a=b)):=by obtain⟨c,e⟩:=a;obtain⟨d,f⟩:=b;show Nq cx E4 (.eQ [J c,.ej e]) (.eQ [J d,.ej f])=_;rw[OX rfl rfl];simp only[A9,Jj,Bb,fj,show XJ.u= .ej from rfl,show JB.u= .int .i64 from rfl,RQ,N5,iO,OY,MK];simp only[C7,decide_true,iO,im.mk.injEq];by_cases g:c=d<;>cases e<;>cases f<;>simp[g]
def Vu(c d:ah)(b:im)(a:T):CE c d b.t a=true:=a9
def MG{a:List im}{b c:Int}{d:im}(e:wU a b=D d):fixC a b c=decide (d=⟨c,true⟩):=by unfold fixC;rw[e];simp
def Qj{b c:H}(d:Nb b c):b.size<=c.size/\iS 0 c/\(∀a,a<b.size->c.get a=b.get a)/\∀a,a<b.size->gJ b c a=true:=⟨d.ok.sz,⟨d.ok.hp,d.ok.low,aB _⟩,d.get,λa e=>il (d.get a e)⟩
def Bn:iE:=⟨eJ×fK×io,λa=>[a.1.t,a.2.1.t,a.2.2.t],λa=>uq a.1 a.2.1/\jw a.1 a.2.1 a.2.2.eG/\FN 4 a.2.1.gH,λa=> .tuple [(kf a.1 a.2.1 a.2.2).1.t,.ej true],λa c b=>by simp at b;rw[show a=c from aG (eJ.inj b.1) (aG (fK.inj b.2.1) (io.inj b.2.2))]⟩
def Yc:Bn.Ok prog cx 25:=by
 refine yW (tb:=⟨pt [(62,DH),(63,qK),(64,u6),(69,wh),(65,wq)],ht [(66,jS Ns (vh 2) (ry 2)),(67,jS Ns (vh 1) (ry 1)),(68,jS Ns (vh 1) (ry 1))]⟩) jk iX (js 2954892465099842490915138798468358981925535743 [(8,[(0,3),(3,5),(0,6),(3,8),(6,8),(3,10),(6,10),(3,13),(6,13),(3,15),(6,15),(3,17),(6,17),(0,18),(3,20),(6,20),(18,20),(0,21),(3,23),(6,23),(18,23),(21,23),(0,24),(3,26),(6,26),(18,26),(21,26),(24,26)])] func25) (λ_=>100) (by simp[Bn]) nl9 ?_;rintro⟨u,d,e⟩ ⟨j,bH,e6⟩ B al;simp only at j bH e6;simp[Bn]at al|-;obtain⟨gv,cL,eV⟩:=al;have eh:=kf.eq_1 u d e;rw[ax bH]at eh;have hE:=jw.eq_1 u d e.eG;have e4:¬jG u d e.eG<0:=λq=>by rw[ax q,bH]at hE;simp at hE
 rw[aw e4,bH]at hE;have bN:=qP e4;have⟨c,ec,bs,hY,hZ,cv⟩:=j.hw.at bN;rw[qr (fT.1 bN).1 ec]at eh hE;have eX:jM u.gG d.gH e.eG c.fc c.obj:=by
  cases q:jM u.gG d.gH e.eG c.fc c.obj;rw[q]at hE;simp at hE;rfl
 have gV:jx e.eG u.gG.d8.length:=by have:=eX;unfold jM at this;simp only[aC]at this;exact this.1.1.2
 have gB:=j.hw.ev c (aD ec);have an:=pZ bN;have gQ:=λ{tb:ik} (ht:tb.p 64=D u6)=>KK ht u d e.eG j;have eW:=λ{tb:ik} (ht:tb.p 63=D qK)=>Ej ht u d e.eG j gV;have gE:=λ{tb:ik} (ht:tb.p 69=D wh)=>Q2 ht u d e.eG c.vU j an gB.2;have e0:=λ{tb:ik} (ht:tb.p 62=D DH)=>adn ht u d;rw[j.hc.ce an,j.hc.fu an,j.hc.fx,j.hc.wk]at e0;have e5:=e6.len j.hc.C9;have gS:RA d.gH:=⟨iH (j.l an),iH (j.l an),iH (j.l an),λeB q=>iH (e5 eB q),j.hc.C9⟩;have gz:∀{tb:ik},tb.p 65=D wq->rl prog cx tb 65 [u.gG.t,d.gH.t,J e.eG,J c.fc,J c.obj,J e.qW]=D (.tuple [(gY u.gG d.gH e.eG c.fc c.obj e.qW).1.t,J (gY u.gG d.gH e.eG c.fc c.obj e.qW).2,.ej true]):=λht=>iF ht L3 (u.gG,d.gH,e.eG,c.fc,c.obj,e.qW) ⟨eX,by have:=kW j.hw.wb;simp only;omega,gS,λeB q=>iH (e5 eB q)⟩;rw[bH]at eW;rw[eh];generalize ib:jG u d e.eG=o at*
 generalize gD:ou u d e.eG c.vU=ef at*
 simp[f25,gv,cL,eV,e0,eW,gQ,ec,bs,gz];generalize R:H.cons _ _=F;have hH:iS 0 F:=R▸⟨V,V,V⟩;have hX:F.size=6:=by rw[<-R];rfl
 have fP:F.get 0=D (dU 15 0 [u.t]):=by rw[<-R];simp
 have eO:F.get 1=D (dU 9 0 [d.t]):=by rw[<-R];simp
 have fS:F.get 2=D (dU 2 0 [e.t]):=by rw[<-R];simp
 have fW:F.get 3=D r8:=by rw[<-R];simp[r8]
 have fX:F.get 4=D (dU 7 1 [c.t]):=by rw[<-R];simp
 have hM:F.get 5=D (dU 4 1 [(gY u.gG d.gH e.eG c.fc c.obj e.qW).1.t]):=by rw[<-R];simp
 clear R;have gX:=j.hc.ce an;have gZ:=j.hc.fu an;have jZ:=kW j.hw.wb;refine ma LY V ⟨sl (d.cells.map im.t),d.cells.map im.t⟩ ⟨rfl,V,λA U=>by obtain⟨z,_,rfl⟩:=List.mem_map.1 U;rfl,dP,hH⟩ ?_;rintro bX K ⟨gC,hy,fY⟩;simp only at gC;have⟨hS,hF,ee,b8⟩:=Qj hy;rw[hX]at hS ee b8;have a1:=(ee 1 G).trans eO;simp[a1,b8];refine ma LY V ⟨sl (d.fI.map im.t),d.fI.map im.t⟩ ⟨rfl,V,λA U=>by obtain⟨z,_,rfl⟩:=List.mem_map.1 U;rfl,dP,hF⟩ ?_;rintro bZ k ⟨bu,fb,gd⟩;simp only at bu;have⟨hU,okB,gm,fl⟩:=Qj fb;have eF:∀b,b<6->gJ K k b=true:=λb m=>fl b G;have de:=(gm 1 G).trans a1;have⟨ih,fe,c4⟩:=Zc (cx:=cx) (sz:=1) kE rfl nc rfl V (iy d.order) d1 (qN j.hc.od);rw[aK]at fe c4;have c4:=c4 k (J o) rfl;have ap:∀{h h':H} {b:Nat},h.size<=b->gJ h h' b=true:=λq=>jF (mG _ q);have hs:gJ F K k.size:=ap G;have hv:gJ K k k.size:=ap hU;have hd:(k.size=0)=False:=dP;have bS:(1=k.size)=False:=dP;simp[de,b8,eF,hs,hv,hd,bS,fe,c4];have⟨C,aE⟩:∃C,C=(k.cons (dU 1 0 [J o])).cons ⟨1,0,0,false,false,iy d.order++[J o]⟩:=⟨_,rfl⟩;rw[<-aE];have LG:iS 0 C:=aE▸(okB.cons _).cons _;have j6:C.size=k.size+2:=by rw[aE];rfl
 have eP:∀b,b<k.size->C.get b=k.get b:=λb m=>by rw[aE,fg,aw (by simp[size_cons];omega),fg,aw G]
 have gO:C.get (k.size+1)=D ⟨1,0,0,false,false,iy d.order++[J o]⟩:=by rw[aE];simp[size_cons]
 have p1:=(eP 1 G).trans de;refine ma GR V ⟨sl (d.fixed.map T.ej),d.fixed.map T.ej⟩ ⟨rfl,V,λA U=>by obtain⟨z,_,rfl⟩:=List.mem_map.1 U;rfl,by have:=j.hc.fx;have:=j.ev;simp;omega,LG⟩ ?_;rintro b7 ae ⟨bA,hB,gi⟩;simp only at bA;have⟨kd,hG,eS,eH⟩:=Qj hB;have aA:=(eS 1 G).trans p1;have fo:gJ (k.cons (dU 1 0 [J o])) C 1:=il (by rw[aE,fg,aw (by simp[size_cons];omega)]);simp[aA,eH 5 G,eH 1 G,fo,b8,eF];refine ma CC V ⟨sl (iy d.qV),iy d.qV⟩ ⟨rfl,V,by simp[T.cells],by have:=j.hc.wk;have:=j.ev;simp;omega,hG⟩ ?_;rintro b6 x ⟨gK,hA,gg⟩;simp only at gK;have⟨hW,okW,eR,fs⟩:=Qj hA;have hK:=(eR 1 G).trans aA;simp[gC.iW,gC.cells,bu.iW,bu.cells,bA.iW,bA.cells,gK.iW,gK.cells,fs 5 G,ap (h:=ae) (h':=x) (b:=x.size) hW,ap (h:=C) (h':=ae) (b:=x.size) G,ap (h:=k.cons (dU 1 0 [J o])) (h':=C) (b:=x.size) (by rw[size_cons];omega),ap (h:=K) (h':=k) (b:=x.size) G,ap (h:=F) (h':=K) (b:=x.size) G,okW.low];have w:=Ed.eq_1 u d o c e.eG e.qW;rw[gD]at w;generalize Ed u d o c e.eG e.qW=Q at*
 generalize hr:gY u.gG d.gH e.eG c.fc c.obj e.qW=r at*
 obtain⟨I,c7⟩:=r;have⟨s,bC⟩:∃s,s=x.cons (dU 9 1 [.eQ [sl (I.fQ.map fk.t),J I.tx,sl (I.done.map T.ej),sl (I.d8.map ew.t),bX,bZ,.arr (k.size+1) 0 0 (d.order.length+1) false,b7,b6]]):=⟨_,rfl⟩;simp only[<-bC];have eD:iS 0 s:=bC▸okW.cons _;have hV:s.size=x.size+1:=by rw[bC];rfl
 have fE:s.get x.size=D (dU 9 1 [.eQ [sl (I.fQ.map fk.t),J I.tx,sl (I.done.map T.ej),sl (I.d8.map ew.t),bX,bZ,.arr (k.size+1) 0 0 (d.order.length+1) false,b7,b6]]):=by rw[bC];simp
 have dd:∀b,b<x.size->s.get b=x.get b:=λb m=>by rw[bC,fg,aw G]
 have eM:∀b,b<ae.size->s.get b=ae.get b:=λb m=>(dd b G).trans (eR b m);have eL:∀b,b<C.size->s.get b=C.get b:=λb m=>(eM b G).trans (eS b m);have eK:∀b,b<k.size->s.get b=k.get b:=λb m=>(eL b G).trans (eP b m);have eI:∀b,b<K.size->s.get b=K.get b:=λb m=>(eK b G).trans (fb.get b m);have fC:∀b,b<6->s.get b=F.get b:=λb m=>(eI b G).trans (ee b m);have et:∀q,fa bX=D q->6<=q/\q<K.size:=λq n=>⟨iH (fY q n),by have⟨_,_,_,_,z,_⟩:=gC.box n;exact H.fN z⟩;have eu:∀q,fa bZ=D q->K.size<=q/\q<k.size:=λq n=>⟨gd q n,by have⟨_,_,_,_,z,_⟩:=bu.box n;exact H.fN z⟩;have eA:∀q,fa b7=D q->C.size<=q/\q<ae.size:=λq n=>⟨gi q n,by have⟨_,_,_,_,z,_⟩:=bA.box n;exact H.fN z⟩;have ey:∀q,fa b6=D q->ae.size<=q/\q<x.size:=λq n=>⟨gg q n,by have⟨_,_,_,_,z,_⟩:=gK.box n;exact H.fN z⟩;have c1:∀(E:Nat) (a:T×aa (Nat×List T)),(qH {d with gH:=I,order:=d.order++[o]} bX bZ (.arr (k.size+1) 0 0 (d.order.length+1) false) b7 b6)[E]? =D a->∀q,fa a.1=D q->6<=q/\q<x.size/\(E=4/\q<K.size\/E=5/\K.size<=q/\q<k.size\/E=6/\q=k.size+1\/E=7/\C.size<=q/\q<ae.size\/E=8/\ae.size<=q):=by
  intro E a al q n;unfold qH at al;rcases E with _|_|_|_|_|_|_|_|_|E<;>simp at al<;>subst al<;>simp at n
  have:=et q n;omega;have:=eu q n;omega;omega;have:=eA q n;omega;have:=ey q n;omega
 have g:oQ s x.size 9 1 (qH {d with gH:=I,order:=d.order++[o]} bX bZ (.arr (k.size+1) 0 0 (d.order.length+1) false) b7 b6):=by
  refine⟨eD,fE,λf cX=>?_,λE o gI a b al m q aN hI=>gI ?_⟩
  .simp only[qH,cz,cV,or_false]at cX;rcases cX with rfl|rfl|rfl|rfl|rfl|rfl|rfl|rfl|rfl
   iterate 4 (show fa _=none;simp)
   exact⟨gC.mono λb m=>eI b (et b m).2,show(2:Nat)≠9 by decide⟩;exact⟨bu.mono λb m=>eK b (eu b m).2,show(2:Nat)≠9 by decide⟩;exact⟨.inr ⟨k.size+1,0,0,false,iy d.order++[J o],V,(eL _ G).trans gO,by simp[bR,List.map_append]⟩,show(1:Nat)≠9 by decide⟩;exact⟨bA.mono λb m=>eM b (eA b m).2,show(1:Nat)≠9 by decide⟩;exact⟨gK.mono λb m=>dd b (ey b m).2,show(1:Nat)≠9 by decide⟩
  have cL:=c1 E a al q aN;have eV:=c1 o b m q hI;omega
 have eU:∀q,Fp s x.size q->6<=q:=λq n=>by
  rcases n with rfl|⟨A,U,v,e7,aN⟩;omega;rw[g.get]at U;cases U;simp only[ir,aV,cB,bJ,T.cells]at e7;obtain⟨f,cX,rfl⟩:=List.mem_map.1 e7;have⟨E,gF⟩:=cU cX;have:=c1 E f gF q aN;omega
 have W:∀b A,b<6->F.get b=D A->Lb x.size s b A:=λb A cL gw=>⟨(fC b cL).trans gw,λq=>iH (eU b q)⟩;have l0:=W 0 _ G fP;have l1:=W 1 _ G eO;have l2:=W 2 _ G fS;have l3:=W 3 _ G fW;have l4:=W 4 _ G fX;have kg:6<=x.size:=G;have fM:=(dd 4 G).symm.trans l4.get;clear W eU c1 fC eI eK eL eM dd et eu eA ey fE hK aA p1 de a1 fP eO fS fW fX hM fs eH fo ap b8 eF fl;generalize x.size=P at*
 have bp:(4=P)=False:=dP;have ha:=eD.low;have hb:s.low<=s.size+1:=G;have hC:∀b,b<7->(s.size=b)=False:=λb m=>by simp;omega
 have hD:∀b,b<7->(b=s.size)=False:=λb m=>by simp;omega
 simp[bp,fM,l0.get,l1.get,l2.get,l4.get,ha,hb,hC,hD,gE];have fB:=(g.cons (dU 2 1 [im.t ⟨c.value,true⟩])).cons (dU 2 1 [im.t ⟨0,false⟩]);have c9:=Step.cons g.ok g.lt (dU 2 1 [im.t ⟨c.value,true⟩]);have ca:=Step.cons (g.cons (dU 2 1 [im.t ⟨c.value,true⟩])).ok (g.cons (dU 2 1 [im.t ⟨c.value,true⟩])).lt (dU 2 1 [im.t ⟨0,false⟩]);have aN:=(l1.step c9).step ca;have ff:=(l3.step c9).step ca;have fi:=(l4.step c9).step ca;have eE:=(VJ g (dU 2 1 [im.t ⟨c.value,true⟩])).step ca;have X:=VJ (g.cons (dU 2 1 [im.t ⟨c.value,true⟩])) (dU 2 1 [im.t ⟨0,false⟩]);rw[size_cons]at X;have kk:6<=s.size:=G;generalize(s.cons _).cons _=ia at*
 generalize s.size=c6 at*
 clear c9 ca l0 l1 l2 l3 l4 fM g eD hV;refine lJ (λB h=>∃aX a7 a8 bi bn fL,oQ h P 9 1 (qH {d with gH:=I,order:=d.order++[o]} aX a7 a8 bi bn)/\Lb P h 1 (dU 9 0 [d.t])/\Lb P h 3 r8/\Lb P h 4 (dU 7 1 [c.t])/\Lb P h c6 (dU 2 1 [im.t ⟨c.value,true⟩])/\Lb P h (c6+1) (dU 2 fL [(cont ef c.value).t])/\TI.Y B 4=D (dY 1)/\TI.Y B 6=D (dY 3)/\TI.Y B 8=D (J o)/\TI.Y B 9=D (dY 4)/\TI.Y B 11=D (J c7)/\TI.Y B 13=D (dY P)/\TI.Y B 14=D (dY c6)/\TI.Y B 15=D (dY (c6+1))) (λn=>?_) (λn=>?_) ?_;subst n;simp[eE.get,X.get];exact⟨⟨_,_,_,_,_,fB.rx X _⟩,z9 aN X G,z9 ff X G,z9 fi X G,z9 eE X G,_,VI X _⟩;subst n;simp;exact⟨⟨_,_,_,_,_,fB⟩,aN,ff,fi,eE,_,X⟩;rintro B h ⟨aX,a7,a8,bi,bn,fL,g,l1,l3,l4,e9,W,O⟩;simp[O,l4.get];have eo:c.fc=3\/c.fc=4->jx c.obj d.cells.length=true:=λq=>by
  rw[gX];unfold ky at cv;rcases q with q|q<;>simpa[q]using cv
 have er:c.fc=22\/c.fc=23->jx c.obj d.fI.length=true:=λq=>by
  rw[gZ];unfold ky at cv;rcases q with q|q<;>simpa[q]using cv
 have gM:o.toNat<d.fixed.length:=j.hc.fx▸(fT.1 bN).2;have gP:o.toNat<d.qV.length:=j.hc.wk▸(fT.1 bN).2;have N:=g.get;simp only[qH,aR,bL]at N;have fv:∀A z:Bool,ly (.ej A) 0 [.ej z]=D (.ej z):=λ_ _=>rfl;have fA:∀A z:Int,ly (J A) 0 [J z]=D (J z):=λ_ _=>rfl;simp only at w;have⟨ie,h5,jC,h8,j5,cb,cp,Z,av⟩:=(g.gr 7 rfl).CI (te:=XJ) rfl (i:=o.toNat) (iD gM);simp at av;refine lJ (λB h=>JM P Q h/\TI.Y B 6=D (dY 3)/\TI.Y B 13=D (dY P)) (λds=>?_) (λds=>?_) ?_;have y:c.fc=3:=iD ds;have⟨A,aA,eN⟩:=jm (eo (.inl y));have S:=fT.1 (eo (.inl y));simp[y,MG eN]at w;have⟨M,L⟩:=g.elem 7 rfl cb Z o.toNat (.ej (decide (A=⟨c.value,true⟩)));simp[O,N,l1.get,l4.get,e9.get,fO S.1,aA,bs,cp,Z,av,fv,VW,Vu];exact⟨_,_,_,_,_,_,by rw[w];simpa[qH,bg]using L,l3.step M⟩;have ho:¬c.fc=3:=iD ds;simp;refine fG (λdn=>?_) (λdn=>?_);have y:c.fc=23:=iD dn;have⟨A,aA,eN⟩:=jm (er (.inr y));have S:=fT.1 (er (.inr y));simp[y,MG eN]at w;have⟨M,L⟩:=g.elem 7 rfl cb Z o.toNat (.ej (decide (A=⟨c.value,true⟩)));simp[O,N,l1.get,l4.get,e9.get,fO S.1,aA,bs,cp,Z,av,fv,VW,Vu];exact⟨_,_,_,_,_,_,by rw[w];simpa[qH,bg]using L,l3.step M⟩;have hj:¬c.fc=23:=iD dn;simp;refine fG (λbp=>?_) (λbp=>?_);have y:c.fc=4:=iD bp;have S:=fT.1 (eo (.inr y));have⟨q,gj,hJ,gk,hL,bS,eC,bT,bW⟩:=(g.gr 4 rfl).CI (te:=E4) rfl (i:=c.obj.toNat) (iD S.2);simp at bW;simp[y]at w;have⟨M,L⟩:=g.elem 4 rfl bS bT c.obj.toNat (cont ef c.value).t;simp[O,N,l4.get,W.get,fO S.1,eC,bT,bW];exact⟨_,_,_,_,_,_,by rw[w];simpa[qH,bg]using L,l3.step M⟩;have hq:¬c.fc=4:=iD bp;simp;refine fG (λdm=>?_) (λdm=>?_);have y:c.fc=22:=iD dm;have S:=fT.1 (er (.inl y));have⟨q,gj,hJ,gk,hL,bS,eC,bT,bW⟩:=(g.gr 5 rfl).CI (te:=E4) rfl (i:=c.obj.toNat) (iD S.2);simp at bW;simp[y]at w;have⟨M,L⟩:=g.elem 5 rfl bS bT c.obj.toNat (cont ef c.value).t;simp[O,N,l4.get,W.get,fO S.1,eC,bT,bW];exact⟨_,_,_,_,_,_,by rw[w];simpa[qH,bg]using L,l3.step M⟩;have hh:¬c.fc=22:=iD dm;have⟨ic,h4,jj,h7,j0,cb,cp,Z,av⟩:=(g.gr 8 rfl).CI (te:=Dp) rfl (i:=o.toNat) (iD gP);simp at av;simp;refine fG (λdi=>?_) (λdi=>?_);have y:c.fc=18:=iD di;simp[y]at w;simp[O];refine fG (λea=>?_) (λea=>?_);have eb:0<=c7:=iD ea;rw[ax eb]at w;have⟨M,L⟩:=g.elem 8 rfl cb Z o.toNat (J 1);simp[O,N,bs,cp,Z,av,fA];exact⟨_,_,_,_,_,_,by rw[w];simpa[qH,bg]using L,l3.step M⟩;have eb:¬0<=c7:=iD ea;rw[aw eb]at w;simp[O];exact⟨_,_,_,_,_,_,w▸g,l3⟩;have hf:¬c.fc=18:=iD di;simp;refine fG (λdk=>?_) (λdk=>?_);have y:c.fc=19:=iD dk;simp[y]at w;have⟨M,L⟩:=g.elem 8 rfl cb Z o.toNat (J c7);simp[O,N,bs,cp,Z,av,fA];exact⟨_,_,_,_,_,_,by rw[w];simpa[qH,bg]using L,l3.step M⟩;have hg:¬c.fc=19:=iD dk;simp[ho,hj,hq,hh,hf,hg]at w;simp[O];exact⟨_,_,_,_,_,_,w▸g,l3⟩;rintro B h ⟨⟨ii,aX,a7,a8,bi,bn,g,l3⟩,gy⟩;have N:=g.get;simp only[qH,aR,bL]at N;have e8:=l3.get;unfold r8 at e8;have b9:=g.rx l3 (dU 9 1 [.eQ [sl (Q.gH.fQ.map fk.t),J Q.gH.tx,sl (Q.gH.done.map T.ej),sl (Q.gH.d8.map ew.t),aX,a7,a8,bi,bn]]);have gn:=(ez l3.get (dU 9 1 [.eQ [sl (Q.gH.fQ.map fk.t),J Q.gH.tx,sl (Q.gH.done.map T.ej),sl (Q.gH.d8.map ew.t),aX,a7,a8,bi,bn]]) 3).trans (ax rfl);have hN:=(b9.gr 4 rfl).fz V;have hO:=(b9.gr 5 rfl).fz V;have hP:=(b9.gr 6 rfl).fz V;have hQ:=(b9.gr 7 rfl).fz V;have hR:=(b9.gr 8 rfl).fz V;simp[gy,N,e8,fD,gn,hN,hO,hP,hQ,hR,g.ok.hp]
def adi{d:ik}(ht:d.p 25=D Bn)(b:eJ)(a:fK)(c:io)(e:uq b a)(f:jw b a c.eG)(hr:FN 4 a.gH):rl prog cx d 25 [b.t,a.t,c.t]=D (.tuple [(kf b a c).1.t,.ej true]):=iF ht Yc (b,a,c) ⟨e,f,hr⟩
def FN.kf{b:eJ}{c:fK}{d:io}(e:FN 4 c.gH)(g:kj b)(a:jw b c d.eG):FN 4 (kf b c d).1.gH:=by
 have f:jx d.eG b.gG.d8.length:=by
  unfold jw jM at a;split at a;simp at a;simp[aC]at a;exact a.1.1.1.2
 unfold Go.Proofs.YtnfojkibhgjfmaaGreatDoor.kf;rw[ax a];have:=fT.1 f;have:=kW g.wb;exact BW e _ G _ _ _
def ym{b:eJ}{c:fK}{d:Int}(a:jw b c d):jx (jG b c d) b.ei.length=true:=by refine qP λe=>?_;unfold jw at a;rw[ax e]at a;simp at a
def IA{b:eJ}{a:fK}{c:Int}(d:uq b a)(e:jw b a c):(oh b a c).length<=5:=by have:=(d.l (pZ (ym e))).2.2;unfold oh;split;have:=Ao (mP b.ei (jG b a c)).obj a.gH.d8 0;omega;simp
def HI(c:eJ)(b:fK)(a:Nat):ux c b (a+1)=ux c b a++(if jw c b a=true then(oh c b a).map λd=>(⟨a,d⟩:io)else []):=by unfold ux;rw[List.range_succ,c8];simp
def Jm{c:eJ}{b:fK}(d:uq c b):∀a,(ux c b a).length<=5*a:=by
 intro a;induction a with
 |zero=>simp[ux]
 |succ a f=>
  rw[HI,aY];split;rename_i e;have:=IA d e;rw[aK];omega;simp;omega
structure ChR(w:eJ)(c:fK)(L:List io)(lv:T)(h:H):Prop where
 ok:iS 2 h
 b0:h.get 0=D (dU 15 0 [w.t])
 b1:h.get 1=D (dU 9 0 [c.t])
 gl:Gr h lv 2 (L.map io.t)
 dl:∀b,fa lv=D b->2<=b/\b<h.size
theorem ChR.cons{w:eJ}{e:fK}{d:List io}{g:T}{f:H}(a:ChR w e d g f)(h:jI):ChR w e d g (f.cons h):=by have i:=a.ok.sz;refine⟨a.ok.cons h,?_,?_,a.gl.mono λb c=>?_,λb c=>?_⟩;rw[fg,aw G];exact a.b0;rw[fg,aw G];exact a.b1;have:=a.dl b c;rw[fg,aw G];have:=a.dl b c;rw[size_cons];omega
def ChR.add{m:eJ}{i:fK}{f:List io}{g h:T}{b c:H}{n:io}(e:ChR m i f g b)(o:Xt b g 2 ((f++[n]).map io.t) h c):ChR m i (f++[n]) h c/\b.size<=c.size/\∀a,a<b.size->fa g≠some a->c.get a=b.get a/\fa h≠some a:=by obtain⟨a1,a2,a3,a4⟩:=o;have s:=e.ok.sz;have r:=a4.sz;have j:∀a,a<2->c.get a=b.get a:=λa d=>a2 a G λq=>iH (e.dl a q);refine⟨⟨⟨a4.hp,a4.low,G⟩,(j 0 G).trans e.b0,(j 1 G).trans e.b1,a1,λa d=>⟨?_,?_⟩⟩,r,λa d l=>⟨a2 a d l,λq=>?_⟩⟩;rcases a3 a d with q|q;exact(e.dl a q).1;omega;have⟨_,_,_,_,p,_⟩:=a1.box d;exact H.fN p;rcases a3 a q with k|k;exact l k;omega
def Ls:iE:=⟨eJ×fK,λa=>[a.1.t,a.2.t],λa=>uq a.1 a.2,λa=>sl ((ux a.1 a.2 a.1.gG.d8.length).map io.t),λa c b=>by simp at b;rw[show a=c from aG (eJ.inj b.1) (fK.inj b.2)]⟩
def ab8:Ls.Ok prog cx 28:=by
 refine iz [(63,qK),(64,u6)] (js 9241386564217587711 [(6,[(1,5),(5,8)])] func28) (λa=>100) (by simp[Ls]) ?_;rintro⟨p,d⟩ (x:uq p d) h S;simp[Ls]at S|-;have bs:=(kW x.hw.wb).2.2.2.2.2;simp[f28,S];refine gW p.gG.d8.length G (λj h i=>∃o,ChR p d (ux p d j) o i/\TI.Y h 2=D (dY 0)/\TI.Y h 3=D (dY 1)/\TI.Y h 5=D o/\TI.Y h 14=D (J p.gG.d8.length)/\TI.Y h 15=D (J j)) ?_ ?_ G ?_;rintro j h i ap L ⟨o,c,k⟩;have w:=HI p d j;have bp:=Jm x j;have bA:=c.ok.sz;simp[k,ap,c.b0,c.b1,Ej,x,(fT.2 ⟨G,G⟩:jx (j:Int) p.gG.d8.length=true)];refine fG (λg=>?_) (λg=>?_);rw[aw (iD g),bJ]at w;simp[k,L,w,c];have A:jw p d j:=iD g;rw[ax A]at w;have bu:=IA x A;have an:¬jG p d j<0:=λr=>by unfold jw at A;rw[ax r]at A;simp at A
 have K:=qP an;have⟨e,Q,aX,a7,a8,bi⟩:=x.hw.at K;have M:=fT.1 K;have hl:=x.l (pZ K);have F:oh p d j=if e.fc=18/\jh e.obj d.gH.d8 0≠ []then jh e.obj d.gH.d8 0 else [-1]:=by
  unfold oh;rw[qr M.1 Q];by_cases r:e.fc=18/\jh e.obj d.gH.d8 0≠ [];rw[ax r,ax ⟨M.1,r⟩];rw[aw r,aw λu=>r u.2]
 have N:=c.ok.low;have aA:=c.ok.ne (b:=0) G;have aE:=c.ok.ne (b:=1) G;simp[k,c.b0,c.b1,KK,x,fO M.1,Q,N,aA,aE];have v:(i.cons (dU 7 1 [e.t])).get i.size=D (dU 7 1 [e.t]):=V;have B:fa o≠some i.size:=λr=>iH (c.dl _ r).2;have c:=c.cons (dU 7 1 [e.t]);generalize i.size=y at*
 generalize i.cons (dU 7 1 [e.t])=i at*
 let n (m:Nat):List io:=if e.fc=18 then(jh e.obj (d.gH.d8.take m) 0).map λu=>(⟨j,u⟩:io)else []
 refine gW d.gH.d8.length G (λm h i=>∃o,ChR p d (ux p d j++n m) o i/\i.get y=D (dU 7 1 [e.t])/\fa o≠some y/\TI.Y h 2=D (dY 0)/\TI.Y h 3=D (dY 1)/\TI.Y h 5=D o/\TI.Y h 6=D (J j)/\TI.Y h 7=D (dY y)/\TI.Y h 8=D (.ej (decide (n m≠ [])))/\TI.Y h 14=D (J p.gG.d8.length)/\TI.Y h 15=D (J j)/\TI.Y h 33=D (sl (d.gH.d8.map ew.t))/\TI.Y h 34=D (J d.gH.d8.length)/\TI.Y h 35=D (J m)) ?_ ?_ G ⟨o,by simpa[n,jh]using c,v,B,by simp[k,n,jh]⟩;rintro m h i U T ⟨o,c,v,B,k⟩;have⟨s,W⟩:∃s,s=d.gH.d8[m]:=⟨_,rfl⟩;have N:=c.ok.low;have q:n (m+1)=n m++if(e.fc=18/\s.jq=3)/\s.cond=e.obj then [⟨j,m⟩]else []:=by
  have:=Bj e.obj d.gH.d8 U;simp[n,this,<-W,List.map_append];by_cases r:e.fc=18<;>by_cases aN:s.jq=3/\s.cond=e.obj<;>simp[r,aN]
 have bn:(i.cons (dU 3 1 [s.t])).get i.size=D (dU 3 1 [s.t]):=V;have O:(y=i.size)=False:=qN (H.fN v);simp[k,U,<-W,N,v,O];have ae:(n m).length<=m:=by
  have:=Ao e.obj (d.gH.d8.take m) 0;simp[n];split<;>simp at* <;>omega
 have c:=c.cons (dU 3 1 [s.t]);have R:(i.cons (dU 3 1 [s.t])).get y=D (dU 7 1 [e.t]):=by rw[fg,aw (iD O)];exact v
 refine fG (λg=>?_) (λg=>?_);rw[ax (by simpa[and_assoc]using g)]at q;have⟨X,Z,C,P⟩:=c.gl.mR (cx:=cx) (f:=io.t) (c.ok.Di (aB _)) KA rfl Kz rfl V (λ_=>rfl) (⟨j,m⟩:io) dP;rw[size_cons]at C;have⟨r2,bC,E⟩:=c.add P;have E:=E y (H.fN R) B;rw[aQ,<-q]at r2;simp[k,C,T];exact⟨X,r2,E.1.trans R,E.2,rfl,by rw[q];simp⟩;rw[aw (by simpa[and_assoc]using g),bJ]at q;simp[k,T,O];exact⟨o,q▸c,v,B,V,by rw[q]⟩;rintro h i ⟨o,c,v,B,k⟩;simp[k];have q:n d.gH.d8.length=if e.fc=18 then(jh e.obj d.gH.d8 0).map λu=>(⟨j,u⟩:io)else []:=by simp[n,aM]
 have ae:=Ao e.obj d.gH.d8 0;refine fG (λg=>?_) (λg=>?_);have g:n d.gH.d8.length=[]:=iD g;rw[g,bJ]at c;rw[aw (by rw[q]at g;rintro⟨I,av⟩;rw[ax I]at g;simp at g;exact av g)]at F;rw[F]at w;have⟨X,Z,C,P⟩:=c.gl.mR (cx:=cx) (f:=io.t) (c.ok.Di (aB _)) KA rfl Kz rfl V (λ_=>rfl) (⟨j,-1⟩:io) dP;simp[k,C,L];rw[w];exact(c.add P).1;have g:¬n d.gH.d8.length=[]:=iD g;have I:e.fc=18:=by
  by_cases u:e.fc=18;exact u;rw[q,aw u]at g;simp at g
 rw[q,ax I]at g c;rw[ax ⟨I,iD g⟩]at F;rw[F]at w;simp[k,L];rw[w];exact c;rintro h i ⟨o,c,k⟩;have z:=c.gl.qY V;simp[k,c.ok.hp,c.gl.iW,z];exact⟨dT,⟨⟨V,V,by simp[size_cons]⟩,by simp[size_cons],by simp[size_cons],Gr.nil _ _,λ_=>V⟩,V⟩
end
end
noncomputable section
open Go Go.TI
def On(g:Int)(f:List Int):∀(e:List fR) (b:Nat),
 (uw g f e b=-1/\∀a c,e[a]? =D c->c.eG=g->((b+a:Nat):Int)∈f)\/
 ∃a c,uw g f e b=(b+a:Nat)/\e[a]? =D c/\c.eG=g/\((b+a:Nat):Int)∉f/\∀d h,d<a->e[d]? =D h->h.eG=g->((b+d:Nat):Int)∈f:=by
 intro e;induction e with
 |nil=>intro b;exact .inl ⟨rfl,λ_=>V⟩
 |cons q e u=>
  intro b;simp only[uw];split;rename_i j;exact .inr ⟨0,q,V,V,j.1,iD j.2,λd h i=>by omega⟩;rename_i j;have p:q.eG=g->(b:Int)∈f:=λi=>by
   by_cases o:(b:Int)∈f;exact o;exact absurd ⟨i,o⟩ j
  rcases u (b+1)with⟨k,l⟩|⟨a,c,k,l,r,s,t⟩;refine .inl ⟨k,λa c n ht=>?_⟩;rcases a with _|a
  simp at n;subst n;simpa using p ht;have:=l a c (iD n) ht;rwa[show b+1+a=b+(a+1)by omega]at this;refine .inr ⟨a+1,c,by rw[k];congr 1;omega,iD l,r,by rwa[show b+1+a=b+(a+1)by omega]at s,λd h v m ht=>?_⟩;rcases d with _|d
  simp at m;subst m;simpa using p ht;have:=t d h G (iD m) ht;rwa[show b+1+d=b+(d+1)by omega]at this
end
noncomputable section
open Go Go.TI Tryz
attribute [-simp] List.map_take List.map_drop List.map_append ij fU fH Bool.not_or Bool.not_and
def y9(a:eJ)(d:List io):fK:=d.foldl (λb c=>(kf a b c).1) (ls a)
def A6(b:eJ)(c:fK)(a:iw):Bool:=pw b c a&&b.gx.vR a
def StO(c:eJ)(d:iw)(a:fK)(b:io):Prop:=jw c a b.eG=true/\b.qW∈oh c a b.eG/\A6 c a d=false
def yC(d:eJ)(e:iw)(c:List io):Prop:=∀(b:Nat) a,c[b]? =D a->StO d e (y9 d (c.take b)) a
def Dt(a:eJ)(c:List io)(b:io):y9 a (c++[b])=(kf a (y9 a c) b).1:=by unfold y9;rw[List.foldl_append];rfl
def yC.snoc{d:eJ}{e:iw}{b:List io}{ch:io}(g:yC d e b)(h:StO d e (y9 d b) ch):yC d e (b++[ch]):=λc i a=>by
 by_cases f:c<b.length;rw[cH f]at a;rw[dg G];exact g c i a;rw[cZ G]at a;have:c-b.length=0:=by
  rcases Nat.eq_zero_or_pos (c-b.length)with q|q;exact q;rw[bY dP]at a;simp at a
 rw[this]at a;simp at a;subst a;rw[show c=b.length by omega,List.take_left];exact h
def We{d:eJ}{b:fK}{g:Nat}{c:io}(a:c∈ux d b g):jw d b c.eG/\c.qW∈oh d b c.eG:=by unfold ux at a;have⟨h,_,a⟩:=List.mem_flatMap.1 a;by_cases e:jw d b h=true;rw[ax e]at a;obtain⟨i,f,rfl⟩:=List.mem_map.1 a;exact⟨e,f⟩;rw[aw e]at a;simp at a
structure OdO(w:eJ)(c:fK)(k:Nat):Prop where
 i:∀o∈c.order,jx o w.ei.length
 nd:c.order.Nodup
 ln:c.order.length=k
def OdO.le{k:eJ}{l:fK}{j:Nat}(g:OdO k l j):j<=k.ei.length:=by
 have q:∀(c:Nat) (a:List Int),a.Nodup->(∀b∈a,0<=b/\b.toNat<c)->a.length<=c:=by
  intro c;induction c with
  |zero=>intro a _ hl;rcases a with _|⟨f,a⟩;simp;have:=hl f V;omega
  |succ c o=>
   intro a d hl;have m:=o (a.filter λb=>decide (b≠(c:Int))) (d.filter _) λb e=>by
    simp[List.mem_filter]at e;have:=hl b e.1;omega
   have r:a.length<=(a.filter λb=>decide (b≠(c:Int))).length+1:=by
    clear m hl;induction a with
    |nil=>simp
    |cons f a p=>
     rw[List.nodup_cons]at d;by_cases h:f=(c:Int);have:(a.filter λb=>decide (b≠(c:Int)))=a:=List.filter_eq_self.2 λs n=>by
      simp;rintro rfl;exact d.1 (h▸n)
     rw[List.filter_cons_of_neg (by simp[h]),this];simp;have:=p d.2;simp[ne_eq,aZ]at*
     rw[List.filter_cons_of_pos (iD h),aZ];omega
   omega
 rw[<-g.ln];exact q _ _ g.nd λb e=>fT.1 (g.i b e)
def OdO.step{b:eJ}{a:fK}{j:Nat}{c:io}(d:OdO b a j)(g:jw b a c.eG):OdO b (kf b a c).1 (j+1):=by
 have h:=ym g;have m:jG b a c.eG∉a.order:=by
  have k:=(fT.1 h).1;unfold jG at*
  rcases On c.eG a.order b.ei 0 with⟨q,_⟩|⟨t,s,q,_,_,o,_⟩;rw[q]at k;omega;rw[q];exact o
 have e:(kf b a c).1.order=a.order++[jG b a c.eG]:=by unfold kf;rw[ax g];rfl
 refine⟨λn q=>?_,?_,by rw[e];simp[d.ln]⟩;rw[e]at q;rcases List.mem_append.1 q with q|q
 exact d.i n q;simp at q;rw[q];exact h;rw[e,List.nodup_append];exact⟨d.nd,V,λp l r f=>by simp at f;subst f;rintro rfl;exact m l⟩
structure NdQ(w:eJ)(g:iw)(k:Nat)(x:fK×List io):Prop where
 ln:x.2.length=k
 c:x.1=y9 w x.2
 p:yC w g x.2
 h:A6 w x.1 g=false
 co:yS (1000+k) w x.1
 rd:FN 4 x.1.gH
 od:OdO w x.1 k
def NdQ.step{a:eJ}{g:iw}{f:Nat}{b:fK×List io}{ch:io}{s:Nat}(d:NdQ a g f b)(r:kj a)(q:ch∈ux a b.1 s):yC a g (b.2++[ch])/\(kf a b.1 ch).1=y9 a (b.2++[ch])/\jw a b.1 ch.eG/\
 (A6 a (kf a b.1 ch).1 g=false->NdQ a g (f+1) ((kf a b.1 ch).1,b.2++[ch]))/\yS (1000+(f+1)) a (kf a b.1 ch).1/\FN 4 (kf a b.1 ch).1.gH/\OdO a (kf a b.1 ch).1 (f+1):=by
 have⟨e,n⟩:=We q;have l:=d.p.snoc (ch:=ch) (d.c▸⟨e,n,d.h⟩);have i:=(Dt a b.2 ch).symm;rw[<-d.c]at i;have j:=(d.co.step ch e).up (Mq:=1000+(f+1)) G;have m:=d.rd.kf r e;have k:=d.od.step e;exact⟨l,i,e,λo=>⟨by simp[d.ln],i,l,o,j,m,k⟩,j,m,k⟩
section
attribute [-simp] size_cons
section
section
variable {M:Nat}{e:Env}{h:H}
def zf(a:List (List Nat)):List T:=a.map λb=> .tuple [.str b,.ej true]
def EU(c:List Nat):∀(b:List (List Nat)) (a:Nat),∃f,rJ .str (.str c) (zf b) a=D (if c∈b then some (f,.ej true)else none):=by
 intro b;induction b with
 |nil=>intro a;exact⟨0,rfl⟩
 |cons d b l=>
  intro a;have⟨f,j⟩:=l (a+1);have i:rJ .str (.str c) (zf (d::b)) a=Z (some (YV c d)) λm=> @Bool.rec (λ_=>aa (aa (Nat×T))) (Z (iZ (Nat.succ a)) λk=>rJ .str (.str c) (zf b) k) (some (some (a,.ej true))) m:=rfl;rw[i,Qy,fj];by_cases g:c=d;subst g;exact⟨a,V⟩;refine⟨f,?_⟩;simp[g,decide_false,jv,fj,cz,false_or];exact j
@[simp]theorem ajW:ka (.makeMap 83 none) cx M e h=be (.map h.size) (h.cons ⟨0,0,0,true,true,[]⟩):=by
 show(Z (cx.ty 83) λb=>(match b.u with
  | .map _ _=>km (h.new (λa=> .map a) ⟨0,0,0,true,true,[]⟩)
  |_=>none))=_
 rw[O9,fj,show NB.u= .map 9 4 from rfl];rfl
def luS(h:H)(f a:T):aa ni:=iT (EP .str a) (Z (h.entries f) λb=>Z (rJ .str a b 0) λd=>val h (some (Option.casesOn d (.ej false) λc=>c.2)))
@[simp]theorem ajZ (a b:ah):ka (.lookup 83 a b false) cx M e h=Z (iG cx M e a) λa=>Z (iG cx M e b) λc=>luS h a c:=by show wA _ a b false cx M e h=_;unfold wA luS;rw[O9,fj,show NB.u= .map 9 4 from rfl];simp only[xL,Jj,fj,show ty9.u= .str from rfl];rfl
def YG{c j:Nat}{a:List (List Nat)}(g:h.get c=D ⟨0,0,j,true,true,zf a⟩)(b:List Nat):luS h (.map c) (.str b)=be (.ej (decide (b∈a))) h:=by
 unfold luS;have f:h.entries (.map c)=D (zf a):=by
  show(Z (h.get c) λk=>_)=_;rw[g];rfl
 have⟨l,i⟩:=EU b a 0;rw[f,fj,i,fj,show EP .str (.str b)=true from rfl,iO];by_cases d:b∈a;rw[ax d,bh d];rfl;rw[aw d,aS d];rfl
def muS(h:H)(l a c:T):aa ni:=iT (EP .str a) (iT c.iW (match l with
 | .map d=>Z (h.get d) λf=>jI.casesOn f λo g p exact k b=>iT k (Z (rJ .str a b 0) λn=>Z (iZ (Nat.succ p)) λq=>
  (Z (Option.casesOn n (Ep b [.tuple [a,c]]) λm=>lQ b m.1 (.tuple [a,c])) λi=>Z (h.put d ⟨o,g,q,exact,true,i⟩) λj=>be .undef j))
 |_=>none))
@[simp]theorem ajV (a b c:ah):ka (.mapUpdate 83 a b c) cx M e h=Z (iG cx M e a) λa=>Z (iG cx M e b) λd=>Z (iG cx M e c) λf=>muS h a d f:=by show qG _ a b c cx M e h=_;unfold qG muS;rw[O9,fj,show NB.u= .map 9 4 from rfl];simp[xL,fj];rfl
def YF{c f:Nat}{b:List (List Nat)}(d:h.get c=D ⟨0,0,f,true,true,zf b⟩){a:List Nat}(i:a∉b):
 muS h (.map c) (.str a) (.ej true)=be .undef (fF h c ⟨0,0,f+1,true,true,zf (b++[a])⟩):=by
 unfold muS;have⟨j,g⟩:=EU a b 0;rw[show EP .str (.str a)=true from rfl,iO,show(T.ej true).iW=true from rfl,iO];simp[d,fj,iO];rw[g,fj,aw i];simp[fj,zx d];unfold zf;rw[List.map_append];rfl
def Gr.akC{d:Nat}{q s:ab}{i k:Ty}{z:T}{a:List T}(B:Gr h z d a)(t:cx.ty q=D i)(g:i.u= .slice s)(j:cx.ty s=D k)(n:k.size=d)(v:1<=k.bytes)(w:∀e∈a,e.cells.length=d)(x:(a.length+1)*k.bytes<=70368744177664):
 ∃y:T,H8 cx h i z none (some a.length) (some a.length)=be y h/\∀(c:H) (e:T),h.size<=c.size->(∀b,b<h.size->c.get b=h.get b)->e.cells.length=d->ju cx (c.cons (dU d 0 [e])) q q y (.arr c.size 0 0 1 false)=be (.arr (c.size+1) 0 0 (a.length+1) false) ((c.cons (dU d 0 [e])).cons ⟨d,0,0,false,false,a++[e]⟩):=by
 rcases B with⟨rfl,rfl⟩|⟨b,f,M,L,r,rfl,m,o⟩;exact⟨dT,by unfold H8 jy;simp[g,j];rfl,λc e _ _ l=>FL t g j n v w x l λr o=>by cases r with|nil=>exact absurd rfl o|cons=>rfl⟩;refine⟨.arr b f 0 a.length true,?_,λc e _ C l=>FL t g j n v w x l λA E=>?_⟩;unfold H8;have p:jy cx h i.u (.arr b f 0 a.length false):=by
  unfold jy;simp only[g,j,m];rw[n];simp
 rw[p,iO,show zO (some a.length) (some a.length)=true from by simp[zO],iO,show asSlice i.u (.arr b f 0 a.length false)= .arr b f 0 a.length false by rw[g];rfl];show val h (iT (Nat.ble 0 a.length) (iT (Nat.ble a.length a.length) (Z (iZ (Nat.add 0 0)) λK=>Z (iZ (Nat.sub a.length 0)) λF=>iT (Nat.beq a.length a.length) (some (T.arr b f K F true)))))=_;simp;have p:(c.cons (dU d 0 [e])).jQ (.arr b f 0 a.length true)=D a:=by
  have I:=H.fN m;rw[iU,fg,aw G,C b I,m];have:a.length<=r.length:=by have:=cd List.length o;simp at this;omega
  simp[*]
 rcases A with _|⟨N,A⟩;exact absurd rfl E;show(Z ((c.cons (dU d 0 [e])).jQ (.arr b f 0 a.length true)) λa=>_)=_;rw[p];rfl
end
end
def BR(b:List Nat):List T:=b.map λ(a:Nat)=>T.int .u8 a
def dN{a:Int}(b:0<=a)(c:a<18446744073709551616):IntKind.u64.wrap a=a:=by simp[IntKind.wrap,IntKind.bits,IntKind.signed];omega
structure XD where
 (v:T) (l:List Nat) (n:Int)
def EH(d:Nat)(c:ak)(f:List T)(a:XD)(e:List T)(b:H):Prop:=e=[a.v,.int c a.n,J 36]++f/\Gr b a.v 1 (BR a.l)/\iS 0 b/\a.l.length<=d/\(c= .u64->0<=a.n/\a.n<18446744073709551616)
def zI(e:Nat)(d:T->T)(b:XD)(j:List T)(g:H)(i:T)(h:H):Prop:=∃c a,i=d c/\a.length<=e/\(∀f∈a,f<256)/\Xt g b.v 1 (BR (b.l++a)) c h
abbrev acV:List Nat:=[48,49,50,51,52,53,54,55,56,57,97,98,99,100,101,102,103,104,105,106,107,108,109,110,111,112,113,114,115,116,117,118,119,120,121,122]
def aaX(b:Nat)(c:b<36):∃a,acV[b]? =D a/\a<256:=⟨acV[b],by simp[c],by have:=(by decide:∀a∈acV,a<256);exact this _ (aH _)⟩
def abv{c:H}{a k b:Nat}{d:List T}(f:c.get a=D ⟨1,0,k,true,false,d⟩)(h:d.length=65)(g:b<=65):H8 cx c FY (dY a) (some b) none none=be (.arr a 0 b (65-b) false) c:=by
 unfold H8;have e:jy cx c FY.u (dY a):=by
  unfold jy;simp only[show FY.u= .array 65 5 from rfl,EW,f,kG,h];rfl
 rw[e,iO,show zO none none=true from rfl,iO,show asSlice FY.u (dY a)= .arr a 0 0 65 false by rw[show FY.u= .array 65 5 from rfl];rfl];show val c (iT (Nat.ble b 65) (iT (Nat.ble 65 65) (Z (iZ (Nat.add 0 b)) λj=>Z (iZ (Nat.sub 65 b)) λi=>some (T.arr a 0 j i false))))=_;simp[g]
def agT{c:H}{b h a:Nat}{d:List T}(e:c.get b=D ⟨1,0,h,true,false,d⟩)(f:a<65):pB c 65 ty5 (dY b) a=be (.eZ b 0 a 0) c:=by unfold pB;simp only[e,fj,show Nat.blt a 65=true from aP▸f,iO];show iT true (Z (iZ (Nat.add 0 a)) λg=>some (ni.val (.eZ b 0 g 0) c))=_;simp
def WI{xs:List Nat}{k:Nat}(a:k<xs.length):∃b:Int,(BR xs)[k]? =D (.int .u8 b):=⟨xs[k],by simp[BR,a]⟩
def Q5(c:List Nat)(b a:Nat):(BR c).set b (.int .u8 a)=BR (c.set b a):=by simp[BR,bg]
structure DgR(h0 h:H)(xs:List Nat):Prop where
 nb:Nb h0 h
 sz:h.size=h0.size+1
 bx:∃ver,h.get h0.size=D ⟨1,0,ver,true,false,BR xs⟩
 ln:xs.length=65
 by':∀c∈xs,c<256
theorem DgR.put{b f:H}{d:List Nat}(a:DgR b f d)(g c h:Nat)(j:c<256):DgR b (fF f b.size ⟨1,0,h,true,false,BR (d.set g c)⟩) (d.set g c):=by have⟨k,e⟩:=a.bx;refine⟨a.nb.put e (az _) _,by rw[iB];exact a.sz,⟨h,by rw[ez e,ax rfl]⟩,by simp[a.ln],λx i=>?_⟩;rcases cw i with q|q;exact a.by' x q;omega
@[simp]theorem aj7 {b:Nat} {a:Env} {c:H} (f g:ab) (d e:ah):ka (.binOp .and f d e g) cx b a c=Ae .and (iG cx b a d) (iG cx b a e) c:=rfl
def T7:iE:=⟨Unit,λ_=>[J 36],λ_=>True,λ_=> .ej false,λ_ _ _=>rfl⟩
def afZ:T7.Ok prog cx 270:=by refine iz [] (js 5 [] func270) (λb=>5) (by simp[T7]) ?_;rintro⟨⟩ _ e a;simp[T7]at a|-;have c:binop .and (J 36) (J 35)=D (J 32):=rfl;have d:binop .sub (J 36) (J 1)=D (J 35):=rfl;simp[*,f270]
def akG{a:ik}(ht:a.p 270=D T7):rl prog cx a 270 [J 36]=D (.ej false):=iF ht afZ () trivial
def af6:(jS XD (EH 10000000001 .u64 [.ej false,.ej true]) (zI 66 λr=> .tuple [r,.str []])).Ok prog cx 237:=by
 refine jz (tb:=⟨pt [(270,T7)],ht []⟩) jk iX (js 20426010943356750102455122975 [] func237) (λ_ _=>100) (λi U a Q=>by obtain⟨rfl,_⟩:=Q;simp[f237]) ?_;rintro⟨r,w,n⟩ _ a ⟨rfl,E,aN,hl,al⟩ bs P
 dsimp at E hl al
 simp at P;have an:∀x y:Int,ly (.int .u8 x) 0 [.int .u8 y]=D (.int .u8 y):=λ_ _=>rfl;have ap:∀a:H,V6 cx a 3 286 IB (J 36)=be (.int .u64 36) a:=λa=>FE QF rfl rfl;have aX:=aN.hr;simp[f237,P,akG,ap];have⟨aE,bS⟩:=al rfl;obtain⟨e,rfl⟩:=Int.eq_ofNat_of_zero_le aE;refine KW (σ:=Nat×Nat×List Nat) (λg b j=>b.tmps= .nil/\DgR (TI.hr a) j g.2.2/\g.1<2^g.2.1/\g.2.1<=64/\TI.Y b.vars 0=D r/\TI.Y b.vars 1=D (.int .u64 g.1)/\TI.Y b.vars 3=D (.ej false)/\TI.Y b.vars 4=D (.ej true)/\TI.Y b.vars 11=D (.str [])/\TI.Y b.vars 12=D (dY a.size)/\TI.Y b.vars 13=D (J (g.2.1+1))/\TI.Y b.vars 17=D (.int .u64 36)) (λg=>g.2.1) ?_ 100 (e,64,List.replicate 65 0) _ _ V ?_;rintro⟨e,i,xs⟩ ⟨bs,bW⟩ j ⟨ht,m,R,ae,F,v,N,O,I,K,L,M⟩;simp only at ht m R ae F v N O I K L M;subst ht;have⟨u,o⟩:=m.bx;replace o:j.get a.size=_:=o;have bX:(e:Int)<18446744073709551616:=by
  have:2^i<=2^64:=Nat.pow_le_pow_right dR ae;have:(2:Nat)^64=18446744073709551616:=dR;omega
 simp[v,M];refine fG (λp=>?_) (λp=>?_);have p:36<=e:=by simp at p;omega
 obtain⟨c,rfl⟩:∃c,i=c+1:=⟨i-1,by
  rcases i with _|i;·simp at R;omega
  rfl⟩
 have⟨h,t,A,bA,bC,bH⟩:∃h t A,h=e/36/\t=h*36/\A=e-t:=⟨_,_,_,rfl,rfl,rfl⟩;have Q:h<2^c:=by rw[Nat.pow_succ]at R;omega
 have T:binop .sub (J ((c:Int)+1+1)) (J 1)=D (J ((c:Int)+1)):=Ey G G G;have bn:lr ((c:Int)+1)=D (c+1):=F0 (c+1);have a7:binop .quo (.int .u64 e) (.int .u64 36)=D (.int .u64 h):=by
  rw[abG dR,Int.tdiv_eq_ediv_of_nonneg G,dN G G];congr 2;omega
 have a8:binop .mul (.int .u64 h) (.int .u64 36)=D (.int .u64 t):=by
  rw[ack,dN G G];congr 2;omega
 have bi:binop .sub (.int .u64 e) (.int .u64 t)=D (.int .u64 A):=by
  rw[tv,dN G G];congr 2;omega
 have⟨d,B,C⟩:=aaX A G;have⟨x,S⟩:=WI (xs:=xs) (k:=c+1) (iH m.ln);simp[F,v,N,O,I,K,L,M,T,a7,a8,bi,B,agT o (show c+1<65 by omega),o,bn,S,an,Q5];exact⟨h,c,G,⟨_,m.put (c+1) d _ C⟩,Q,G,rfl,rfl⟩;have p:e<36:=by simp at p;omega
 have T:binop .sub (J ((i:Int)+1)) (J 1)=D (J (i:Int)):=Ey G G G;have⟨d,B,C⟩:=aaX e p;have⟨x,S⟩:=WI (xs:=xs) (k:=i) (iH m.ln);simp[F,v,N,O,K,L,T,B,agT o (show i<65 by omega),o,S,an,Q5];have f:=m.put i d (u+1) C;have⟨bZ,X⟩:=f.bx;have bT:=f.sz;have Z:Gr (fF j a.size ⟨1,0,u+1,true,false,BR (xs.set i d)⟩) r 1 (BR w):=E.mono λW av=>by
  have⟨_,_,_,_,q,_⟩:=E.box av;exact(f.nb.get W (H.fN q)).trans (iI a W)
 have z:(xs.set i d).length=65:=f.ln;generalize xs.set i d=l at*
 have⟨bp,bN,b,U⟩:=Z.app (cx:=cx) (f.nb.ok.Di (aB _)) Ei rfl EW Ei rfl rfl V (x:= .arr a.size 0 i (65-i) false) (xs:=BR (l.drop i)) (by
  rw[iU,show(fF j a.size ⟨1,0,u+1,true,false,BR l⟩).get a.size=_ from X];simp[BR,List.map_drop,z];exact⟨G,bR (by simp[z])⟩) (λb aA=>by obtain⟨_,_,rfl⟩:=List.mem_map.1 aA;rfl) (by simp[BR];omega) (by simp[BR,z];omega)
 simp[abv (show(fF j a.size ⟨1,0,u+1,true,false,BR l⟩).get a.size=_ from X) (by simp[BR,z]) (show i<=65 by omega),b,I];have bu:Xt (TI.hr a) r 1 (BR w) r (fF j a.size ⟨1,0,u+1,true,false,BR l⟩):=⟨Z,λd s _=>f.nb.get d s,λ_ k=> .inl k,f.nb.ok⟩;exact⟨bp,l.drop i,rfl,dP,λd s=>f.by' d (bQ s),by
  have:=(bu.trans U.xt).out;rwa[show BR w++BR (l.drop i)=BR (w++l.drop i)by unfold BR;rw[List.map_append]]at this⟩
 refine⟨rfl,⟨(Nb.refl aX).cons _,by rw[size_cons],⟨0,by unfold BR;simp⟩,V,λd s=>by rw[bU s];decide⟩,?_,by simp[P]⟩;have:(2:Nat)^64=18446744073709551616:=dR;show e<2^64;omega
def agb:(jS XD (EH 10000000001 .u64 []) (zI 66 λa=>a)).Ok prog cx 185:=by
 refine jz (tb:=⟨pt [],ht [(237,jS XD (EH 10000000001 .u64 [.ej false,.ej true]) (zI 66 λa=> .tuple [a,.str []]))]⟩) jk iX (js 5575 [] func185) (λ_ _=>9) (λr p c j=>by obtain⟨rfl,_⟩:=j;simp[f185]) ?_;rintro⟨a,k,m⟩ _ c ⟨rfl,b,n,hl,e⟩ s d
 dsimp at b hl e
 simp at d;simp[f185,d];refine jl af6 V ⟨a,k,m⟩ ⟨rfl,b.mono λg _=>iI c g,n.hr,hl,λ_=>e rfl⟩ ?_;rintro _ q ⟨o,l,rfl,i,h,f⟩;simp only at f;simp[exV];exact⟨o,l,rfl,i,h,f.out⟩
def dS(a:Int):0<=IntKind.u64.wrap a/\IntKind.u64.wrap a<18446744073709551616:=by simp[IntKind.wrap,IntKind.bits,IntKind.signed];omega
def cvU(a:H)(b:Int):V6 cx a 2 286 IB (J b)=be (.int .u64 (IntKind.u64.wrap b)) a:=by
 unfold V6;rw[show IB.u= .int .u64 from rfl];show val a (Z (cx.ty 286) λc=>match c.u with
  | .int d=>rk d b
  | .str=>none
  |_=>none)=_
 rw[QF,fj,show IB.u= .int .u64 from rfl];simp[rk,kz]
def agc:(jS XD (EH 10000000000 .i64 []) (zI 67 λa=>a)).Ok prog cx 133:=by
 refine jz (tb:=⟨pt [],ht [(185,jS XD (EH 10000000001 .u64 []) (zI 66 λa=>a))]⟩) jk iX (js 2247 [] func133) (λ_ _=>9) (λL p b A=>by obtain⟨rfl,_⟩:=A;simp[f133]) ?_;rintro⟨a,m,n⟩ _ b ⟨rfl,l,q,hl,z⟩ h i
 dsimp at l hl z
 simp at i;simp[f133,i,cvU];refine lJ (λh t=>∃e d g,Xt (TI.hr b) a 1 (BR (m++d)) e t/\d.length<=1/\(∀c∈d,c<256)/\0<=g/\g<18446744073709551616/\TI.Y h 0=D e/\TI.Y h 2=D (J 36)/\TI.Y h 7=D (.int .u64 g)) (λy=>?_) (λy=>?_) ?_;have⟨e,F,k,p⟩:=(l.mono λj _=>iI b j:Gr (TI.hr b) a 1 (BR m)).mR (cx:=cx) (f:=λ(c:Nat)=>T.int .u8 c) q.hr Ei rfl EW rfl V (λ_=>rfl) 45 dP;have r:=dS (-IntKind.u64.wrap n);have k:ju cx ((TI.hr b).cons (dU 1 0 [.int .u8 45])) 22 22 a (.arr b.size 0 0 1 false)=_:=k;simp[i,agq,k];exact⟨e,[45],p,V,V,_,r.1,r.2,rfl,rfl⟩;simp[i];exact⟨a,[],iD (Xt.refl (l.mono λj _=>iI b j) q.hr),V,V,_,(dS n).1,(dS n).2,rfl,rfl⟩;rintro h t ⟨e,d,g,o,I,v,B,C,u⟩;simp[u];refine jl agb V ⟨e,m++d,g⟩ ⟨rfl,o.1,o.2.2.2.Di (aB _),dP,λ_=>⟨B,C⟩⟩ ?_;rintro E H ⟨_,l2,rfl,K,w,s⟩;simp[aQ]at s;simp;exact⟨E,d++l2,rfl,dP,λc x=>(List.mem_append.1 x).elim (v c) (w c),(o.trans s).out⟩
def agd:(jS XD (EH 10000000000 .i64 []) (zI 67 λa=>a)).Ok prog cx 75:=by
 refine jz (tb:=⟨pt [],ht [(133,jS XD (EH 10000000000 .i64 []) (zI 67 λa=>a))]⟩) jk iX (js 71 [] func75) (λ_ _=>9) (λr p c i=>by obtain⟨rfl,_⟩:=i;simp[f75]) ?_;rintro⟨a,j,l⟩ _ c ⟨rfl,b,m,hl,e⟩ s d
 dsimp at b hl e
 simp at d;simp[f75,d];refine jl agc V ⟨a,j,l⟩ ⟨rfl,b.mono λf _=>iI c f,m.hr,hl,e⟩ ?_;rintro n q ⟨_,k,rfl,h,g,o⟩;simp;exact⟨n,k,rfl,h,g,o.out⟩
structure XB(h:H)(b:Nat)(v:T)(l:List Nat):Prop where
 gl:∃ver,h.get b=D (dU 1 ver [v])
 g:Gr h v 1 (BR l)
 ne:fa v≠some b
 lt:∀c∈l,c<256
structure Rg where
 (b:Nat) (v:T) (l:List Nat) (n:Int) (f:Nat)
def GA(e:Rg->List T)(f:Rg->H->Prop)(a:Rg)(d:List T)(c:H):Prop:=d=e a/\f a c/\XB c a.b a.v a.l/\iS 0 c/\a.l.length<=9000000000
def Bv(a:Rg)(g:List T)(f:H)(h:T)(c:H):Prop:=∃e d,XB c a.b e d/\d.length<=a.l.length+68/\Fm f c a.b a.v e
abbrev XX(a:Rg):List T:=[J a.n,dY a.b]
def Oe:(jS Rg (GA XX λ_ _=>True) Bv).Ok prog cx 74:=by
 refine jz (tb:=⟨pt [],ht [(75,jS XD (EH 10000000000 .i64 []) (zI 67 λi=>i))]⟩) jk iX (js 3 [] func74) (λ_ _=>9) (λM I h z=>by obtain⟨rfl,_⟩:=z;simp[f74]) ?_;rintro⟨b,i,r,A,f⟩ _ h ⟨rfl,_,d,B,hl⟩ O p;simp only at d hl;simp at p;have⟨E,o⟩:=d.gl;have gl0:=(iI h b).trans o;simp[f74,p,gl0,d.g.cells];refine jl agd V ⟨i,r,A⟩ ⟨rfl,d.g.mono λb _=>iI h b,B.hr,dQ,λq=>by cases q⟩ ?_;rintro C t ⟨_,l1,rfl,L,y,k⟩;simp only at k;have⟨j,u,n,F⟩:=k.1.mR (cx:=cx) (f:=λ(a:Nat)=>T.int .u8 a) (k.2.2.2.Di (aB _)) Ei rfl EW rfl V (λ_=>rfl) 32 dP;have n:ju cx (t.cons (dU 1 0 [.int .u8 32])) 22 22 C (.arr t.size 0 0 1 false)=_:=n;have c:=k.trans F;have x:=(c.2.1 b (H.fN gl0) d.ne).trans gl0;have N:=c.2.2.2.low;have sv:ly i 0 [j]=D j:=wI (qk.na (h:=h) (sz:=1) (.inr d.g));have K:=H.fN o;have s:fa j≠some b:=λq=>(c.2.2.1 b q).elim d.ne (by show¬h.size<=b;omega);have m:∀l a,(fF u b l).get a=if a=b then some l else u.get a:=λl a=>ez x l a;simp[*,c.1.iW,c.1.cells];exact⟨j,r++l1++[32],⟨⟨E+1,(iA h _ b).trans ((m _ b).trans (ax rfl))⟩,(c.1.mono λa e=>by rw[m,aw (λq=>s (by rw[<-q];exact e))]).out h,s,λa e=>by
  simp only[List.mem_append,List.mem_singleton]at e;rcases e with(q|q)|q
  exact d.lt a q;exact y a q;omega⟩,dP,⟨(c.2.2.2.put _ _).out h,λa e v w=>(iA h _ a).trans ((m _ a).trans ((aw v).trans ((c.2.1 a e w).trans (iI h a)))),c.2.2.1⟩⟩
abbrev abo(a:Rg):List T:=[.ej (decide (a.n=1)),dY a.f]
abbrev abn(a:Rg)(c:H):Prop:=c.get a.f=D (dU 1 1 [.func 74 [dY a.b]])
def XB.hr{a:H}{c:Nat}{e:T}{d:List Nat}(b:XB a c e d):XB (TI.hr a) c e d:=⟨b.gl.imp λ_ h=>(iI a c).trans h,b.g.mono λf _=>iI a f,b.ne,b.lt⟩
def XB.out{h c:H}{b:Nat}{e:T}{d:List Nat}(a:XB c b e d):XB (mF h c) b e d:=⟨a.gl.imp λ_ f=>(iA h c b).trans f,a.g.out h,a.ne,a.lt⟩
def Ya:(jS Rg (GA abo abn) Bv).Ok prog cx 76:=by
 refine jz (tb:=⟨pt [],ht [(74,jS Rg (GA XX λ_ _=>True) Bv)]⟩) jk iX (js 11 [] func76) (λ_ _=>9) (λt r h o=>by obtain⟨rfl,_⟩:=o;simp[f76]) ?_;rintro⟨g,m,j,u,n⟩ _ h ⟨rfl,l,c,k,hl⟩ v i
 dsimp at l c hl
 simp at i;have s:=(iI h n).trans l;simp[f76,i];refine fG (λ_=>?_) (λ_=>?_);simp[*];refine jl Oe V ⟨g,m,j,1,0⟩ ⟨rfl,trivial,c.hr,k.hr,hl⟩ ?_;rintro q p ⟨f,e,d,b,a⟩;simp;exact⟨f,e,d.out,b,a.out⟩;simp[*];refine jl Oe V ⟨g,m,j,0,0⟩ ⟨rfl,trivial,c.hr,k.hr,hl⟩ ?_;rintro q p ⟨f,e,d,b,a⟩;simp;exact⟨f,e,d.out,b,a.out⟩
section
structure KyP(c:fK)(us:List Int):Prop where
 uL:us.length<=1000
 ul:∀u∈us,u<us.length
 od:∀o∈c.order,jx o us.length
 ol:c.order.length<=1000000
 fx:c.fixed.length=us.length
 lk:c.gH.fQ.length<=4/\c.gH.done.length<=2/\c.gH.d8.length<=4
 rd:∀l∈c.gH.fQ,l.fZ.length<=1000000
 ce:c.cells.length<=1000/\c.fI.length<=1000
structure Rf(c:fK)(us:List Int)(xs:List Bool)(v:T)(l:List Nat)(h:H):Prop where
 ok:iS 4 h
 b0:h.get 0=D (dU 9 0 [c.t])
 kb:XB h 1 v l
 b2:h.get 2=D (dU 1 1 [.func 74 [dY 1]])
 b3:∃ver ex,h.get 3=D ⟨1,0,ver,ex,false,xs.map T.ej⟩
 ln:xs.length=us.length
 vb:∀b,fa v=D b->4<=b
def Rf.fm{c:fK}{us:List Int}{xs:List Bool}{v i:T}{l k:List Nat}{h f:H}(b:Rf c us xs v l h)(p:XB f 1 i k)(e:Fm h f 1 v i):Rf c us xs i k f:=by have s:=b.ok.sz;have g:∀a,a<4->a≠1->f.get a=h.get a:=λa j o=>e.fr a G o λq=>iH (b.vb a q);have⟨r,m,n⟩:=b.b3;exact⟨⟨e.ok.hp,e.ok.low,iH e.ok.sz⟩,(g 0 G G).trans b.b0,p,(g 2 G G).trans b.b2,⟨r,m,(g 3 G G).trans n⟩,b.ln,λa j=>(e.bx a j).elim (b.vb a) G⟩
def Rf.set{c:fK}{us:List Int}{xs:List Bool}{v:T}{l:List Nat}{h:H}(a:Rf c us xs v l h){i:Nat}{e:Bool}(n:h.get 3=D ⟨1,0,i,e,false,xs.map T.ej⟩)(f:Nat)(b:Bool):Rf c us (xs.set f b) v l (fF h 3 ⟨1,0,i+1,e,false,(xs.map T.ej).set f (.ej b)⟩):=by rw[<-bg];have m:∀d,(fF h 3 ⟨1,0,i+1,e,false,(xs.set f b).map T.ej⟩).get d=if d=3 then some ⟨1,0,i+1,e,false,(xs.set f b).map T.ej⟩else h.get d:=λd=>ez n _ d;have j:∀d,d≠3->(fF h 3 ⟨1,0,i+1,e,false,(xs.set f b).map T.ej⟩).get d=h.get d:=λd k=>(m d).trans (aw k);have⟨p,o⟩:=a.kb.gl;exact⟨a.ok.put _ _,(j 0 G).trans a.b0,⟨⟨p,(j 1 G).trans o⟩,a.kb.g.mono λd k=>j d (iH (a.vb d k)),a.kb.ne,a.kb.lt⟩,(j 2 G).trans a.b2,⟨_,_,(m 3).trans (ax rfl)⟩,iD a.ln,a.vb⟩
def KpZ(h:H)(v:T)(a:Nat)(b:jI):Prop:=4<=a/\h.get a=D b/\fa v≠some a
def KpZ.fm{h f:H}{v g:T}{b:Nat}{i:jI}(a:KpZ h v b i)(e:Fm h f 1 v g):KpZ f g b i:=by have j:=H.fN a.2.1;exact⟨a.1,(e.fr b j (iH a.1) a.2.2).trans a.2.1,λk=>(e.bx b k).elim a.2.2 G⟩
def Rf.nb{c:fK}{us:List Int}{xs:List Bool}{v:T}{l:List Nat}{h:H}(a:Rf c us xs v l h)(e:jI):Rf c us xs v l (h.cons e)/\KpZ (h.cons e) v h.size e:=by
 have o:=a.ok.sz;have i:Nb h (h.cons e):=(Nb.refl (a.ok.Di (aB _))).cons e;have⟨n,m⟩:=a.kb.gl;have k:∀b,fa v=D b->b<h.size:=λb f=>by have⟨_,_,_,_,j,_⟩:=a.kb.g.box f;exact H.fN j
 exact⟨a.fm ⟨⟨n,(i.get 1 G).trans m⟩,a.kb.g.mono λb f=>i.get b (k b f),a.kb.ne,a.kb.lt⟩ (Fm.nb i),o,V,λj=>iH (k _ j)⟩
section
variable {c:fK}{us:List Int}{xs:List Bool}{v:T}{l:List Nat}{h:H}{tb:ik}{ops:af Oper}{d:aa Tmp}{lo:List Oper}{vs tm:iP}{K:jD}{M:Nat}
def OB(f:Rf c us xs v l h)(hl:l.length<=9000000000)(k:Int)(ht:tb.h 74=D (jS Rg (GA XX λ_ _=>True) Bv))
 (o:∀g a e b,Rf c us xs e b a->b.length<=l.length+68->(∀i m,KpZ h v i m->KpZ a e i m)->XK (some (g,a)) cx (rY prog cx tb) M ops d lo vs tm K):XK (TI.hl prog cx tb 74 [J k,dY 1] h) cx (rY prog cx tb) M ops d lo vs tm K:=
 jl Oe ht ⟨1,v,l,k,0⟩ ⟨rfl,trivial,f.kb,f.ok.Di (aB _),hl⟩ λg a ⟨e,b,p,n,j⟩=>o g a e b (f.fm p j) n λ_ _ q=>q.fm j
def SB(e:Rf c us xs v l h)(hl:l.length<=9000000000)(a:Bool)(ht:tb.h 76=D (jS Rg (GA abo abn) Bv))
 (n:∀i b g f,Rf c us xs g f b->f.length<=l.length+68->(∀a k,KpZ h v a k->KpZ b g a k)->XK (some (i,b)) cx (rY prog cx tb) M ops d lo vs tm K):XK (TI.hl prog cx tb 76 [.ej a,dY 2] h) cx (rY prog cx tb) M ops d lo vs tm K:=
 jl Ya ht ⟨1,v,l,if a then 1 else 0,2⟩ ⟨by cases a<;>rfl,e.b2,e.kb,e.ok.Di (aB _),hl⟩ λi b ⟨g,f,o,m,j⟩=>n i b g f (e.fm o j) m λ_ _ p=>p.fm j
end
def cvS{h:H}{v:T}{l:List Nat}(b:Gr h v 1 (BR l))(a:∀c∈l,c<256)(hl:l.length<=4294967296):V6 cx h 22 9 ty9 v=be (.str l) h:=by
 have e:Ie cx h 22 v=D (.str l):=by
  have i:∀l:List Nat,(∀c∈l,c<256)->iK TI.byteOf (BR l)=D l:=by
   intro l;induction l with
   |nil=>intro _;rfl
   |cons c l g=>
    intro a;show iK TI.byteOf (T.int .u8 (c:Nat)::BR l)=_;rw[kv,show TI.byteOf (.int .u8 (c:Nat))=D c from by
     show iT true (iT (Nat.blt c 256) (some c))=_;rw[iO,show Nat.blt c 256=true from aP▸a c V,iO],fj,g (λd f=>a d (by simp[f])),fj]
  unfold Ie;simp only[Ei,show abm.u= .slice 5 from rfl,EW,show ty5.u= .int .u8 from rfl,fj,b.jQ,i l a,kG];rw[show ar l.length 4294967296=true from Nat.ble_eq▸hl];rfl
 unfold V6;rw[show ty9.u= .str from rfl];rcases b with⟨rfl,_⟩|⟨_,_,_,_,_,rfl,_⟩<;>simp only[e]<;>rfl
abbrev K2(us:List Int)(vs:iP):Prop:=TI.Y vs 1=D (sl (iy us))/\TI.Y vs 2=D (dY 0)/\TI.Y vs 5=D (dY 1)/\TI.Y vs 6=D (dY 2)/\TI.Y vs 7=D (.func 76 [dY 2])/\TI.Y vs 8=D (.arr 3 0 0 us.length false)
def JK(c:fK)(us:List Int)(a:Nat)(vs:iP)(h:H):Prop:=∃xs v l,Rf c us xs v l h/\l.length<=a/\K2 us vs
def aaK:pI prog cx 27 (λz:fK×List Int=>[z.1.t,sl (iy z.2)]) (λz=>KyP z.1 z.2) (λ_ o=>∃s,o= .str s):=by
 refine yF (tb:=⟨pt [],ht [(74,jS Rg (GA XX λ_ _=>True) Bv),(76,jS Rg (GA abo abn) Bv)]⟩) jk iX (js 5508284103923639383255319264801237402987617783 [] func27) (λ_=>1000005) (λz b h=>by simp at h;exact aG (fK.inj h.1) (j3 (λ_ _ h=>iD h) h.2)) V nl9 ?_;rintro⟨c,us⟩ (i:KyP c us) vs P;simp at P;have bi:=i.uL;have bp:∀I:T,(∀L,I≠ .eQ L)->∀C,ly I 0 [C]=D C:=λI y C=>wI y;have aX:∀X L,ly .mw 0 [.func X L]=D (.func X L):=λ_ _=>rfl;have aN:∀I C:Bool,ly (.ej I) 0 [.ej C]=D (.ej C):=λ_ _=>rfl;simp[f27,P,aX,show us.length<=70368744177664 by omega];refine gW c.order.length (iH i.ol) (λf vs h=>JK c us 0 vs h/\TI.Y vs 31=D (sl (iy c.order))/\TI.Y vs 32=D (J c.order.length)/\TI.Y vs 33=D (J f)) ?_ ?_ (iH i.ol) ?_;rintro f vs h n p ⟨⟨xs,v,l,a,hl,e⟩,O⟩;have al:=fT.1 (i.od _ (aH n));have⟨U,W,A⟩:=a.b3;have y:(xs.map T.ej)[c.order[f].toNat]? =D (.ej (xs[c.order[f].toNat]'(iH a.ln))):=V;simp[e,O,n,fO al.1,al.2,A,y,aN,p];exact⟨_,v,l,a.set A _ true,hl,by simp[K2,e]⟩;rintro vs h ⟨⟨xs,v,l,a,hl,e⟩,O⟩;simp[e,O];refine gW us.length G (λf vs h=>JK c us (136*f) vs h/\TI.Y vs 41=D (sl (iy us))/\TI.Y vs 42=D (J us.length)/\TI.Y vs 43=D (J f)) ?_ ?_ G ⟨⟨xs,v,l,a,G,by simp[K2,e]⟩,V⟩;rintro f vs h n p ⟨⟨xs,v,l,a,hl,e⟩,E⟩;have⟨U,W,A⟩:=a.b3;have bn:=a.ln;have y:(xs.map T.ej)[f]? =D (.ej (xs[f]' G)):=V;simp[e,E,n,A,y];refine SB a G _ V λo h v l a q k=>?_;have⟨U,W,A⟩:=a.b3;have av:f<c.fixed.length:=i.fx▸n;have a8:=i.ul _ (aH n);by_cases S:0<=us[f];have aA:us[f].toNat<us.length:=G;have y:(xs.map T.ej)[us[f].toNat]? =D (.ej (xs[us[f].toNat]' G)):=V;simp[e,S,fO S,aA,y,A,a.b0,av];refine SB a G _ V λo h v l a q k=>?_;simp[E,p];exact⟨_,v,l,a,G,by simp[K2,e]⟩;simp[e,S];refine SB a G _ V λo h v l a q k=>?_;simp[E,p];exact⟨_,v,l,a,G,by simp[K2,e]⟩;rintro vs h ⟨⟨xs,v,l,a,hl,e⟩,E⟩;simp[e,E,a.b0];refine gW c.gH.fQ.length (iH i.lk) (λf vs h=>JK c us (200000+80000000*f) vs h/\TI.Y vs 75=D (sl (c.gH.fQ.map fk.t))/\TI.Y vs 76=D (J c.gH.fQ.length)/\TI.Y vs 77=D (J f)) ?_ ?_ (iH i.lk) ⟨⟨xs,v,l,a,G,by simp[K2,e]⟩,V⟩;rintro f vs h n p ⟨⟨xs,v,l,a,hl,e⟩,u⟩;have ae:=i.lk;have aE:=i.rd _ (aH n);have⟨lk,B⟩:∃lk,lk=c.gH.fQ[f]:=⟨_,rfl⟩;rw[<-B]at aE;have F:=a.ok.low;have⟨a,j⟩:=a.nb (dU 2 1 [lk.t]);simp[e,u,n,<-B,F,a.b2,j.2.1];generalize h.size=m at*
 refine OB a G _ V λo h v l a q k=>?_;have j:=k _ _ j;simp[e,a.b2,j.2.1];refine OB a G _ V λo h v l a q k=>?_;have j:=k _ _ j;simp[j.2.1];refine gW lk.fZ.length G (λw vs h=>JK c us (200136+80000000*f+68*w) vs h/\TI.Y vs 75=D (sl (c.gH.fQ.map fk.t))/\TI.Y vs 76=D (J c.gH.fQ.length)/\TI.Y vs 77=D (J f)/\TI.Y vs 91=D (sl (iy lk.fZ))/\TI.Y vs 92=D (J lk.fZ.length)/\TI.Y vs 93=D (J w)) ?_ ?_ G ⟨⟨xs,v,l,a,G,by simp[K2,e]⟩,by simp[u]⟩;rintro w vs h R Q ⟨⟨xs,v,l,a,hl,e⟩,u⟩;simp[e,u,R,a.b2];refine OB a G _ V λo h v l a q k=>?_;simp[u,Q];exact⟨_,v,l,a,G,by simp[K2,e]⟩;rintro vs h ⟨⟨xs,v,l,a,hl,e⟩,u⟩;simp[u,p];exact⟨_,v,l,a,G,by simp[K2,e]⟩;rintro vs h ⟨⟨xs,v,l,a,hl,e⟩,u⟩;simp[e,u,a.b0,a.b2];refine OB a (iH i.lk) _ V λo h v l a q k=>?_;simp[e,a.b0];refine gW c.gH.done.length (iH i.lk) (λf vs h=>JK c us (600000000+68*f) vs h/\TI.Y vs 109=D (sl (c.gH.done.map T.ej))/\TI.Y vs 110=D (J c.gH.done.length)/\TI.Y vs 111=D (J f)) ?_ ?_ (iH i.lk) ⟨⟨xs,v,l,a,iH i.lk,by simp[K2,e]⟩,V⟩;rintro f vs h n p ⟨⟨xs,v,l,a,hl,e⟩,M⟩;have ae:=i.lk;simp[e,M,n];refine SB a G _ V λo h v l a q k=>?_;simp[M,p];exact⟨_,v,l,a,G,by simp[K2,e]⟩;rintro vs h ⟨⟨xs,v,l,a,hl,e⟩,M⟩;simp[e,M,a.b0];refine gW c.gH.d8.length (iH i.lk) (λf vs h=>JK c us (700000000+204*f) vs h/\TI.Y vs 121=D (sl (c.gH.d8.map ew.t))/\TI.Y vs 122=D (J c.gH.d8.length)/\TI.Y vs 123=D (J f)) ?_ ?_ (iH i.lk) ⟨⟨xs,v,l,a,iH i.lk,by simp[K2,e]⟩,V⟩;rintro f vs h n p ⟨⟨xs,v,l,a,hl,e⟩,N⟩;have ae:=i.lk;have⟨lk,B⟩:∃lk,lk=c.gH.d8[f]:=⟨_,rfl⟩;have F:=a.ok.low;have⟨a,j⟩:=a.nb (dU 3 1 [lk.t]);simp[e,N,n,<-B,F,a.b2,j.2.1];generalize h.size=m at*
 refine OB a G _ V λo h v l a q k=>?_;have j:=k _ _ j;simp[e,a.b2,j.2.1];refine OB a G _ V λo h v l a q k=>?_;have j:=k _ _ j;simp[e,j.2.1];refine SB a G _ V λo h v l a q k=>?_;simp[N,p];exact⟨_,v,l,a,G,by simp[K2,e]⟩;rintro vs h ⟨⟨xs,v,l,a,hl,e⟩,N⟩;simp[e,N,a.b0];have Z:=i.ce;refine gW 2 G (λf vs h=>JK c us (800000000+200000*f) vs h/\TI.Y vs 144=D (.eQ [sl (c.cells.map im.t),sl (c.fI.map im.t)])/\TI.Y vs 145=D (J f)) ?_ ?_ G ⟨⟨xs,v,l,a,iH i.lk,by simp[K2,e]⟩,V⟩;rintro f vs h n p ⟨⟨xs,v,l,a,hl,e⟩,r⟩;have⟨x,a7,an⟩:∃x:List im,x.length<=1000/\∀h,icW cx h TG (.eQ [sl (c.cells.map im.t),sl (c.fI.map im.t)]) f=be (sl (x.map im.t)) h:=by
  obtain rfl|rfl:f=0\/f=1:=G;exact⟨c.cells,Z.1,λh=>by simp⟩;exact⟨c.fI,Z.2,λh=>by simp⟩
 simp[-VP,r,show(f:Int)<2 by omega,an];refine gW x.length G (λw vs h=>JK c us (800000000+200000*f+136*w) vs h/\TI.Y vs 144=D (.eQ [sl (c.cells.map im.t),sl (c.fI.map im.t)])/\TI.Y vs 145=D (J f)/\TI.Y vs 148=D (sl (x.map im.t))/\TI.Y vs 149=D (J x.length)/\TI.Y vs 150=D (J w)) ?_ ?_ G ⟨⟨xs,v,l,a,G,by simp[K2,e]⟩,by simp[r]⟩;rintro w vs h R Q ⟨⟨xs,v,l,a,hl,e⟩,r⟩;have⟨lk,B⟩:∃lk,lk=x[w]:=⟨_,rfl⟩;have F:=a.ok.low;have⟨a,j⟩:=a.nb (dU 2 1 [lk.t]);simp[e,r,R,<-B,F,a.b2,j.2.1];generalize h.size=m at*
 refine OB a G _ V λo h v l a q k=>?_;have j:=k _ _ j;simp[e,j.2.1];refine SB a G _ V λo h v l a q k=>?_;simp[r,Q];exact⟨_,v,l,a,G,by simp[K2,e]⟩;rintro vs h ⟨⟨xs,v,l,a,hl,e⟩,r⟩;simp[r,(iD (p:binop .add (J f) (J 1)=D (J (f+1))))];exact⟨_,v,l,a,G,by simp[K2,e]⟩;rintro vs h ⟨⟨xs,v,l,a,hl,e⟩,r⟩;have⟨U,ap⟩:=a.kb.gl;simp[e,r,ap,a.kb.g.cells,cvS a.kb.g a.kb.lt G];exact a.ok.hp;refine⟨⟨ao us.length false,dT,[],⟨⟨V,by simp[size_cons],by simp[size_cons]⟩,by simp[size_cons],⟨⟨0,by simp[size_cons]⟩,Gr.nil _ _,V,V⟩,by simp[size_cons],⟨0,true,by simp[size_cons]⟩,V,V⟩,V,by simp[K2,P]⟩,V⟩
end
structure IMz where
 (b:Nat) (c:fK) (l:List Int)
def mzF(a:Nat):T:= .func 72 [dY a]
def Cv(a:IMz)(d:H):Prop:=(∃e,d.get a.b=D (dU 9 e [a.c.t]))/\iS 0 d/\a.c.order.length<=1000000/\a.l.length<=1000000
def Cv.nb{f:IMz}{d e:H}(b:Cv f d)(a:Nb d e):Cv f e:=by obtain⟨⟨g,c⟩,h,b⟩:=b;exact⟨⟨g,(a.get _ (H.fN c)).trans c⟩,⟨a.ok.hp,a.ok.low,aB _⟩,b⟩
def Yi:(jS (IMz×Int) (λc d a=>d=[J c.2,dY c.1.b]/\Cv c.1 a) (λc d a l g=>E8 l/\Nb a g)).Ok prog cx 72:=by
 refine jz (tb:=⟨pt [(73,nO)],ht []⟩) jk iX (js 11 [] func72) (λ_ _=>9) (λc d a j=>by obtain⟨rfl,_⟩:=j;simp[f72]) ?_;rintro⟨⟨f,m,o⟩,r⟩ _ a ⟨rfl,⟨p,e⟩,k,i,hl⟩ q h
 dsimp at e i hl
 simp at h;have n:=(iI a f).trans e;simp[*,f72,oP];exact(Nb.refl k.hr).out
def ab6:(jS IMz (λa e c=>e=[sl (iy a.l),mzF a.b]/\Cv a c) (λa e c k h=>Ia k/\Nb c h)).Ok prog cx 132:=by
 refine jz (tb:=⟨pt [],ht [(72,jS (IMz×Int) (λa e c=>e=[J a.2,dY a.1.b]/\Cv a.1 c) (λa e c k h=>E8 k/\Nb c h))]⟩) jk iX (js 66483 [] func132) (λ_ _=>1000005) (λa e c r=>by obtain⟨rfl,_⟩:=r;simp[f132]) ?_;rintro⟨n,q,f⟩ _ c ⟨rfl,j⟩ d i;have hl:=j.2.2.2
 dsimp at hl
 simp[mzF]at i;simp[f132,i];refine gW f.length G (λa d m=>Nb (TI.hr c) m/\TI.Y d 0=D (sl (iy f))/\TI.Y d 1=D (.func 72 [dY n])/\TI.Y d 7=D (J f.length)/\TI.Y d 8=D (J a)) ?_ ?_ G ⟨Nb.refl j.2.1.hr,by simp[i]⟩;rintro a d m t s ⟨g,o⟩;simp[*];refine jl Yi V (⟨n,q,f⟩,f[a]) ⟨rfl,j.nb g.hr⟩ ?_;rintro _ v ⟨⟨u,rfl⟩,p⟩;simp;refine fG (λ_=>?_) (λ_=>?_);simp;exact(g.trans p).out;simp[*];exact g.trans p;rintro d m ⟨g,o⟩;simp[o];exact g.out
def af8:(jS IMz (λa d c=>d=[sl (iy a.l),mzF a.b]/\Cv a c) (λa d c f e=>E8 f/\Nb c e)).Ok prog cx 71:=by refine jz (tb:=⟨pt [],ht [(132,jS IMz (λa d c=>d=[sl (iy a.l),mzF a.b]/\Cv a c) (λa d c f e=>Ia f/\Nb c e))]⟩) jk iX (js 19 [] func71) (λ_ _=>9) (λa d c k=>by obtain⟨rfl,_⟩:=k;simp[f71]) ?_;rintro⟨i,j,m⟩ _ c ⟨rfl,h⟩ p g;simp[mzF]at g;simp[f71,g];refine jl ab6 V ⟨i,j,m⟩ ⟨rfl,h.nb (Nb.refl h.2.1.hr).hr⟩ ?_;rintro _ q ⟨⟨o,rfl⟩,n⟩;simp;exact n.out
structure MsP(c:fK)(g:iw):Prop where
 ol:c.order.length<=1000000
 od:∀o∈c.order,jx o c.qV.length
 cy:g.jo.length<=1000000
def LI:pI prog cx 26 (λc:fK×iw=>[c.1.t,c.2.t]) (λc=>MsP c.1 c.2) (λ_=>E8):=by refine yF (tb:=⟨pt [(70,wc),(73,nO)],ht [(71,jS IMz (λe c d=>c=[sl (iy e.l),mzF e.b]/\Cv e d) (λe c d q m=>E8 q/\Nb d m))]⟩) jk iX (js 1125908631781503 [] func26) (λ_=>9) (λc r d=>by simp at d;exact aG (fK.inj d.1) (iw.inj d.2)) V nl9 ?_;rintro⟨f,g⟩ (h:MsP f g) u n;simp at n;have j:=h.ol;simp[*,f26,KL];refine fG (λ_=>?_) (λ_=>?_);simp;simp;refine fG (λ_=>?_) (λ_=>?_);simp;refine jl af8 V ⟨0,f,g.jo⟩ ⟨rfl,⟨0,by simp[size_cons]⟩,⟨V,by simp[size_cons],V⟩,j,h.cy⟩ ?_;rintro _ v ⟨⟨s,rfl⟩,p⟩;simp;exact p.ok.hp;simp;refine fG (λ_=>?_) (λ_=>?_);by_cases i:0<=qA f.order g.a 0;have o:=h.od _ (Bw.1 i);have k:=fT.1 o;simp[i,fO k.1,k.2];simp[i];simp;refine fG (λ_=>?_) (λ_=>?_);simp[oP,j];simp
structure OwR(n:Int)(k:Nat)(E:List T)(h:H):Prop where
 get:∃ver,h.get 2=D ⟨1,0,ver,true,false,E⟩
 gr:∀(t:Nat) v,E[t]? =D v->∃l,Gr h v 1 (iy l)/\(∀x∈l,0<=x/\x<n)/\l.length<=k/\∀c,fa v=D c->3<=c
 ne:∀(t u:Nat) v v' c,t≠u->E[t]? =D v->E[u]? =D v'->fa v=D c->fa v'≠some c
def OwR.mono{l:Int}{j k:Nat}{d:List T}{b h':H}(c:OwR l j d b)(u:j<=k)(i:∀a,2<=a->a<b.size->h'.get a=b.get a):OwR l k d h':=by have⟨s,e⟩:=c.get;refine⟨⟨s,(i 2 (az _) (H.fN e)).trans e⟩,λq r n=>?_,c.ne⟩;have⟨o,f,m,t,g⟩:=c.gr q r n;exact⟨o,f.mono λa h=>by have⟨_,_,_,_,p,_⟩:=f.box h;exact i a (iH (g a h)) (H.fN p),m,G,g⟩
def OwR.app{n x:Int}{A g S:Nat}{h:List T}{t m:H}{l i:T}{o:List Int}(p:OwR n A h t)(X:3<=t.size)(z:h[g]? =D l)(U:Gr t l 1 (iy o))(F:(∀x∈o,0<=x/\x<n)/\o.length<=A/\∀a,fa l=D a->3<=a)
 (Q:0<=x/\x<n) (N:Xt t l 1 (iy (o++[x])) i m) (P:m.get 2=D ⟨1,0,S,true,false,h⟩) (v:Nat):OwR n (A+1) (h.set g i) (fF m 2 ⟨1,0,v,true,false,h.set g i⟩):=by
 obtain⟨a1,a2,a3,a4⟩:=N;have y:∀a,(fF m 2 ⟨1,0,v,true,false,h.set g i⟩).get a=if a=2 then some ⟨1,0,v,true,false,h.set g i⟩else m.get a:=λa=>ez P _ a;have C:g<h.length:=(List.getElem?_eq_some_iff.1 z).1;have M:∀a,fa i=D a->3<=a:=λa f=>(a3 a f).elim (F.2.2 a) G;have u:∀b d,b≠g->(h.set g i)[b]? =D d->h[b]? =D d:=λb d j c=>by rwa[dh (bE j)]at c
 have K:∀(b:Nat) d a,b≠g->h[b]? =D d->fa d=D a->fa i≠some a:=λb d a j c f e=>(a3 a e).elim (λe=>p.ne b g d l a j c z f e) λe=>by
  have⟨_,s,_⟩:=p.gr b d c;have⟨_,_,_,_,r,_⟩:=s.box f;have:=H.fN r;omega
 refine⟨⟨v,by rw[y,ax rfl]⟩,λb d c=>?_,λb q d w a j c k f=>?_⟩;by_cases e:b=g;subst e;rw[cR C]at c;cases c;exact⟨o++[x],a1.mono λa f=>by rw[y,aw (iH (M a f))],λr R=>(List.mem_append.1 R).elim (F.1 r) λe=>by simp at e;rw[e];exact Q,dP,M⟩;have c:=u b d e c;have⟨l2,s,O,W,E⟩:=p.gr b d c;exact⟨l2,s.mono λa f=>by
  rw[y,aw (iH (E a f))];have⟨_,_,_,_,r,_⟩:=s.box f;exact a2 a (H.fN r) λB=>p.ne b g d l a e c z f B,O,G,E⟩
 by_cases e:b=g;subst e;rw[cR C]at c;cases c;have k:=u q w (bE j) k;exact λB=>K q w a (bE j) k B f;have I:=u b d e c;by_cases L:q=g;subst L;rw[cR C]at k;cases k;exact K b d a e I f;exact p.ne b q d w a j I (u q w L k) f
structure Tz(w:eJ)(k:Nat)(E:List T)(us:List Int)(h:H):Prop where
 ok:iS 3 h
 b0:h.get 0=D (dU 15 0 [w.t])
 b1:∃ver,h.get 1=D ⟨1,0,ver,true,false,iy us⟩
 ul:us.length=w.ei.length/\∀u∈us,-1<=u/\u<w.ei.length
 ow:OwR w.ei.length k E h
 el:E.length=w.gG.d8.length
theorem Tz.cons{w:eJ}{h:Nat}{f:List T}{i:List Int}{c:H}(a:Tz w h f i c)(e:jI):Tz w h f i (c.cons e):=by
 have l:=a.ok.sz;have d:∀b,b<c.size->(c.cons e).get b=c.get b:=λb g=>by rw[fg,aw G]
 have⟨k,j⟩:=a.b1;exact⟨a.ok.cons e,(d 0 G).trans a.b0,⟨k,(d 1 G).trans j⟩,a.ul,a.ow.mono (az _) λb _ g=>d b g,a.el⟩
def Tz.up{f:eJ}{b:Nat}{c:List T}{e:List Int}{d:H}(a:Tz f b c e d):Tz f (b+1) c e d:=⟨a.ok,a.b0,a.b1,a.ul,a.ow.mono (Nat.le_succ b) λ_ _ _=>rfl,a.el⟩
def Tz.set{i:eJ}{k:Nat}{j:List T}{c:List Int}{e:H}(b:Tz i k j c e){f:Nat}(l:e.get 1=D ⟨1,0,f,true,false,iy c⟩)(g:Nat)(d:Int)(n: -1<=d/\d<i.ei.length):Tz i k j (c.set g d) (fF e 1 ⟨1,0,f+1,true,false,(iy c).set g (J d)⟩):=by
 have h:∀a,(fF e 1 ⟨1,0,f+1,true,false,(iy c).set g (J d)⟩).get a=if a=1 then some ⟨1,0,f+1,true,false,(iy c).set g (J d)⟩else e.get a:=λa=>ez l _ a;refine⟨b.ok.put _ _,by rw[h,aw G];exact b.b0,⟨f+1,by rw[h,ax rfl];simp[iy,bg]⟩,⟨iD b.ul.1,λo m=>?_⟩,b.ow.mono (az _) λa p _=>by rw[h,aw G],b.el⟩;rcases cw m with q|q
 exact b.ul.2 o q;rw[q];exact n
abbrev Xh(b:eJ)(a:iP):Prop:=TI.Y a 1=D (dY 0)/\TI.Y a 3=D (.arr 1 0 0 b.ei.length false)/\TI.Y a 5=D (.arr 2 0 0 b.gG.d8.length false)
def luQ(c:eJ)(d:T):Prop:=∃a:List Int,d=sl (iy a)/\a.length=c.ei.length/\∀b∈a,-1<=b/\b<c.ei.length
def P7:pI prog cx 21 (λe:eJ=>[e.t]) kj luQ:=by
 refine j2 [] (js 2475880648186041451831757567 [(23,[(2,10)])] func21) (λ_=>1000005) (λv b h=>by simp at h;exact eJ.inj h) ?_;rintro(e:eJ) U a a7;simp at a7;have c7:=U.ok.len;have c9:=(kW U.wb).2.2.2.2.2;have bu:∀x p:Int,ly (J x) 0 [J p]=D (J p):=λ_ _=>rfl;simp[f21,a7,show e.ei.length*8<=70368744177664 by omega];refine gW e.ei.length G (λi a h=>(∃d y,iS 2 h/\h.size=2/\h.get 0=D (dU 15 0 [e.t])/\h.get 1=D ⟨1,0,y,true,false,iy d⟩/\d.length=e.ei.length/\∀K∈d,-1<=K/\K<e.ei.length)/\TI.Y a 1=D (dY 0)/\TI.Y a 3=D (.arr 1 0 0 e.ei.length false)/\TI.Y a 17=D (J e.ei.length)/\TI.Y a 18=D (J i)) ?_ ?_ G ?_;rintro i a h P S ⟨⟨d,y,Q,W,R,q,ap,an⟩,m⟩;have F:(iy d)[i]? =D (J (d[i]' G)):=V;have aE:=λp n=>ez q p n;simp[m,P,q,F,bu,S];exact⟨Q.put _ _,W,by rw[aE,aw G];exact R,d.set i (-1),⟨y+1,by rw[aE,ax rfl];simp[iy,bg]⟩,iD ap,λK E=>(cw E).elim (an K) λs=>by omega⟩;rintro a h ⟨⟨d,y,Q,W,R,q,ap,an⟩,m⟩;have bs:=Q.low;simp[m,R,show e.gG.d8.length*24<=70368744177664 by omega,W];refine gW e.ei.length G (λi a h=>(∃u d,Tz e i u d h)/\Xh e a/\TI.Y a 31=D (sl (e.ei.map fR.t))/\TI.Y a 32=D (J e.ei.length)/\TI.Y a 33=D (J i)) ?_ ?_ G ?_;rintro i a h P S ⟨⟨u,d,c⟩,m,N⟩;have⟨k,M,cb,cp,bC,cv⟩:=U.at (i:=(i:Int)) (fT.2 ⟨G,G⟩);simp[cN]at M;have M:e.ei[i]=k:=by simpa[P]using M
 have t0:=fT.1 bC;have bs:=c.ok.low;have c6:=c.ok.sz;have c:=c.cons (dU 7 1 [k.t]);have o:(h.cons (dU 7 1 [k.t])).get h.size=D (dU 7 1 [k.t]):=V;simp[m,N,P,M,bs,o,c.b0,show¬k.eG<0 by omega,show¬(e.gG.d8.length:Int)<=k.eG by omega];generalize h.size=z at*
 generalize h.cons (dU 7 1 [k.t])=h at*
 refine fG (λs=>?_) (λs=>?_);simp[N,S];exact⟨⟨u,d,c.up⟩,by simp[Xh,m]⟩;have s:k.eG.toNat<e.kH.count.length:=by simp at s;omega
 simp[o];refine gW 2 G (λv a h=>(∃d,Tz e i u d h)/\h.get z=D (dU 7 1 [k.t])/\Xh e a/\TI.Y a 6=D (J i)/\TI.Y a 7=D (dY z)/\TI.Y a 31=D (sl (e.ei.map fR.t))/\TI.Y a 32=D (J e.ei.length)/\TI.Y a 33=D (J i)/\TI.Y a 61=D (.eQ [sl (iy k.nH),sl (iy k.vU)])/\TI.Y a 62=D (J v)) ?_ ?_ G ⟨⟨d,c⟩,o,by simp[Xh,m],by simp[N]⟩;rintro v a h c4 bT ⟨⟨d,c⟩,o,m,r⟩;have bi:=U.ev k (M▸aH P);have⟨B,c1,bN⟩:∃B:List Int,B.length<=1000000/\∀h,icW cx h TJ (.eQ [sl (iy k.nH),sl (iy k.vU)]) v=be (sl (iy B)) h:=by
  obtain rfl|rfl:v=0\/v=1:=G;exact⟨k.nH,bi.1,λh=>by simp⟩;exact⟨k.vU,bi.2,λh=>by simp⟩
 simp[-VP,r,show(v:Int)<2 by omega,bN];refine gW B.length G (λj a h=>(∃d,Tz e i u d h)/\h.get z=D (dU 7 1 [k.t])/\Xh e a/\TI.Y a 6=D (J i)/\TI.Y a 7=D (dY z)/\TI.Y a 31=D (sl (e.ei.map fR.t))/\TI.Y a 32=D (J e.ei.length)/\TI.Y a 33=D (J i)/\TI.Y a 61=D (.eQ [sl (iy k.nH),sl (iy k.vU)])/\TI.Y a 62=D (J v)/\TI.Y a 65=D (sl (iy B))/\TI.Y a 66=D (J B.length)/\TI.Y a 67=D (J j)) ?_ ?_ G ⟨⟨d,c⟩,o,by simp[Xh,m],by simp[r]⟩;rintro j a h bW a8 ⟨⟨d,c⟩,o,m,r⟩;have I:k.eG.toNat<u.length:=c.el▸t0.2;have⟨l,w,l2,l3,l4⟩:=c.ow.gr _ _ (aF I);have⟨y,C⟩:=c.ow.get;have bp:=λh=>w.len (cx:=cx) h pJ _ rfl;simp at bp;simp[m,r,bW,o,c.b0,fO t0.1,t0.2,s,tv,C,I,w.cells,bp];generalize IntKind.i64.wrap _=x;refine fG (λF=>?_) (λF=>?_);have F:0<=x/\x<l.length:=iD F;have⟨b,cL,di,cX,dk,dd,bX,bZ,aA⟩:=w.CI (te:=Dp) rfl (i:=x.toNat) dP;simp at aA;have⟨p,bn⟩:∃p,p=l[x.toNat]' G:=⟨_,rfl⟩;have ca:=l2 p (bn▸aH _);rw[<-bn]at aA;have⟨bA,q⟩:=c.b1;have de:=c.ul.1;have E:(iy d)[p.toNat]? =D (J (d[p.toNat]' G)):=V;simp[m,r,o,fO t0.1,t0.2,C,I,w.cells,fO F.1,bX,bZ,aA,fO ca.1,show p.toNat<e.ei.length by omega,q,E,bu,a8];exact⟨⟨_,c.set q _ _ ⟨G,G⟩⟩,(ez q _ z).trans ((aw G).trans o),by simp[Xh,m]⟩;simp[r,a8];exact⟨⟨d,c⟩,o,by simp[Xh,m]⟩;rintro a h ⟨⟨d,c⟩,o,m,r⟩;simp[r,(iD (bT:binop .add (J v) (J 1)=D (J (v+1))))];exact⟨⟨d,c⟩,o,by simp[Xh,m]⟩;rintro a h ⟨⟨d,c⟩,o,m,r⟩;simp[m,r,o];have I:k.eG.toNat<u.length:=c.el▸t0.2;have⟨l,w,l2,l3,l4⟩:=c.ow.gr _ _ (aF I);have⟨y,C⟩:=c.ow.get;have aX:=aF I;generalize u[k.eG.toNat]=X at*
 have b7:=c.ok.Di (aB 3);have⟨Z,al,bH,A⟩:=w.mR (cx:=cx) (f:=T.int .i64) b7 kE rfl nc rfl V (λ_=>rfl) (i:Int) dP;have b6:fa X≠some z:=λs=>by have⟨_,_,_,_,p,_⟩:=w.box s;rw[o]at p;simp at p
 have bS:=(A.2.1 z (H.fN o) b6).trans o;have ae:=(A.2.1 2 (H.fN C) λs=>iH (l4 2 s)).trans C;have sv:∀n x,h.get n=D x->al.get n=D x->gJ (h.cons (dU 1 0 [J i])) al n=true:=λn x p L=>il (by rw[L,fg,aw (iH (H.fN p)),p]);have b8:ly X 0 [Z]=D Z:=wI (qk.na (h:=h) (sz:=1) (.inr w));simp[r,fO t0.1,t0.2,C,aX,w.cells,bH,sv z _ o bS,ae,b8,A.1.iW,A.1.cells,S];have L:=c.ok.sz;have aN:∀n,n<2->(fF al 2 ⟨1,0,y+1,true,false,u.set k.eG.toNat Z⟩).get n=h.get n:=λn O=>(ez ae _ n).trans ((aw G).trans (A.2.1 n G λs=>iH (l4 n s)));have⟨bA,q⟩:=c.b1;exact⟨⟨_,d,⟨(A.2.2.2.Di L).put _ _,(aN 0 G).trans c.b0,⟨bA,(aN 1 G).trans q⟩,c.ul,c.ow.app L aX w ⟨l2,l3,l4⟩ ⟨G,G⟩ A ae _,by simp[c.el]⟩⟩,by simp[Xh,m]⟩;rintro a h ⟨⟨u,d,c⟩,m,N⟩;have⟨y,q⟩:=c.b1;have L:TI.qY h (.arr 1 0 0 e.ei.length false)=D (sl (iy d)):=by
  rw[show e.ei.length=(iy d).length by simp[c.ul.1]];exact(Gr.new q).qY (f:=T.int .i64) V
 simp[m,N,c.ok.hp];exact⟨_,⟨d,rfl,c.ul⟩,iD L⟩;refine⟨⟨ao e.gG.d8.length dT,d,?_⟩,by simp[Xh,m],V⟩;have g:∀n,n<2->(h.cons ⟨1,0,0,true,false,ao e.gG.d8.length dT⟩).get n=h.get n:=λn O=>by rw[fg,aw G]
 exact⟨⟨(Q.cons _).hp,(Q.cons _).low,by rw[size_cons];omega⟩,(g 0 G).trans R,⟨y,(g 1 G).trans q⟩,⟨ap,an⟩,⟨⟨0,by rw[fg,ax W.symm]⟩,λb9 X av=>by
  have:=bU (aD av);subst this;exact⟨[],Gr.nil _ _,V,V,λ_=>V⟩,λb9 K X Z n _ av _ O=>by
  have:=bU (aD av);subst this;simp at O⟩,V⟩
 simp;exact⟨ao e.ei.length 0,by simp[iy],V,λK E=>by have:=List.length_pos_of_mem E;simp at this;have:=bU E;omega⟩
end
section
attribute [-simp] size_cons
def Ik(a:fK)(b:T):T:= .eQ (a.cs++[b])
def NdR(d:H)(c:T)(b:fK×List io):Prop:=∃a,c=Ik b.1 a/\Gr d a 2 (b.2.map io.t)
def Tx(b:H)(d:T)(c:List (fK×List io)):Prop:=∃a,Gr b d 10 a/\jr (NdR b) a c
structure Xe(w:eJ)(g:iw)(us:List Int)(Bq:Nat)(v:T)(ns:List (fK×List io))(h:H):Prop where
 ok:iS 0 h
 n5:5<=Bq
 b0:h.get 0=D (dU 15 0 [w.t])
 b1:h.get 1=D (dU 6 0 [g.t])
 b2:h.get 2=D (dU 1 1 [sl (iy us)])
 bB:∃ver,h.get Bq=D (dU 1 ver [v])
 bF:∃ver fv,h.get (Bq+1)=D (dU 1 ver [fv])/\∀cs,fv≠ .eQ cs
 bm:∃ver l,h.get (Bq+2)=D ⟨0,0,ver,true,true,zf l⟩
 bM:h.get (Bq+3)=D (dU 1 1 [.map (Bq+2)])
 lv:Tx h v ns
structure Fv(h h':H)(Bq:Nat)(v v':T):Prop where
 ok:iS h.size h'
 fr:∀c,c<h.size->c≠Bq->c≠Bq+1->c≠Bq+2->fa v≠some c->h'.get c=h.get c
 bx:∀c,fa v'=D c->fa v=D c\/h.size<=c
def Fv.nb{a b:H}{e:Nat}{d:T}(c:Nb a b):Fv a b e d d:=⟨c.ok,λf g _ _ _ _=>c.get f g,λ_ h=> .inl h⟩
structure IVi where
 (w:eJ) (g:iw) (us:List Int) (B:Nat) (v:T) (ns:List (fK×List io)) (x:fK×List io) (pv:T) (ch:io) (k:Nat)
def aas(a:IVi)(c:List T)(b:H):Prop:=c=[Ik a.x.1 a.pv,a.ch.t,dY 0,dY 1,dY (a.B+1),dY 2,dY (a.B+3),dY a.B]/\Xe a.w a.g a.us a.B a.v a.ns b/\Gr b a.pv 2 (a.x.2.map io.t)/\
 kj a.w/\a.w.ei.length<=8/\a.g.jo.length<=1000000/\NdQ a.w a.g a.k a.x/\a.ch∈ux a.w a.x.1 a.w.gG.d8.length/\a.us.length=a.w.ei.length/\(∀d∈a.us,d<a.us.length)/\a.ns.length<=30000000000
def DP(a:IVi)(j:List T)(h:H)(e:T)(b:H):Prop:=
 (e= .ej false/\∃f c,Xe a.w a.g a.us a.B f c b/\Fv h b a.B a.v f/\(c=a.ns\/c=a.ns++[((kf a.w a.x.1 a.ch).1,a.x.2++[a.ch])]/\A6 a.w (kf a.w a.x.1 a.ch).1 a.g=false))\/
 (e= .ej true/\A6 a.w (kf a.w a.x.1 a.ch).1 a.g/\Hp b/\∃i d,b.get (a.B+1)=D (dU 1 i [d])/\Gr b d 2 ((a.x.2++[a.ch]).map io.t))
def NdR.mono{e h':H}{c:T}{f:fK×List io}(l:NdR e c f)(j:∀b a,e.get b=D a->a.sz=2->h'.get b=D a):NdR h' c f:=by obtain⟨k,h,d⟩:=l;exact⟨k,h,d.mono λg i=>by have⟨_,_,_,_,a,_⟩:=d.box i;rw[a];exact j g _ a rfl⟩
def Xe.nb{q:eJ}{l:iw}{o:List Int}{k:Nat}{p:T}{n:List (fK×List io)}{f g:H}(b:Xe q l o k p n f)(h:Nb f g):Xe q l o k p n g:=by have a:∀c j,f.get c=D j->g.get c=D j:=λc j d=>(h.get c (H.fN d)).trans d;have⟨s,m,r⟩:=b.lv;exact⟨⟨h.ok.hp,h.ok.low,aB _⟩,b.n5,a _ _ b.b0,a _ _ b.b1,a _ _ b.b2,b.bB.imp λ_=>a _ _,by have⟨i,t,x,y⟩:=b.bF;exact⟨i,t,a _ _ x,y⟩,by have⟨i,w,d⟩:=b.bm;exact⟨i,w,a _ _ d⟩,a _ _ b.bM,s,m.mono λz u=>by have⟨_,_,_,_,e,_⟩:=m.box u;rw[a _ _ e,e],r.imp λ_ _ d=>d.mono λc e v _=>a c e v⟩
def X8:(jS IVi aas DP).Ok prog cx 24:=by
 refine jz (tb:=⟨pt [(25,Bn),(23,wg),(26,LI.jV),(27,aaK.jV)],ht []⟩) jk iX (js 2270491528167423 [] func24) (λ_ _=>9) (λe7 a h b8=>by obtain⟨rfl,_⟩:=b8;simp[f24]) ?_;rintro⟨f,g,eX,j,F,bn,⟨b,W⟩,eh,m,R⟩ _ h ⟨rfl,w,bT,aA,eI,bZ,q,s,b9,ds,eK⟩ fe dn;simp only at w bT aA eI bZ q s b9 ds eK;have⟨eS,eH,av,eU,K,eo,cX⟩:=q.step aA s;simp only at eS eH av eU K eo cX;have b8:uq f b:=⟨aA,q.co.up (iH q.od.le)⟩;have a7:uq f (kf f b m).1:=⟨aA,K.up (iH q.od.le)⟩;have eC:=λ{tb:ik} (ht:tb.p 25=D Bn)=>adi ht f b m b8 av q.rd;obtain⟨_,⟨e9,rfl⟩,di⟩:=LI.use ((kf f b m).1,g) ⟨a7.od,λo b7=>K.wk▸cX.i o b7,bZ⟩;have cv:f.ei≠ []:=pZ (ym av);have e6:=kW aA.wb;obtain⟨_,⟨ca,rfl⟩,de⟩:=aaK.use ((kf f b m).1,eX) ⟨dQ,ds,λo b7=>b9▸cX.i o b7,a7.od,b9▸K.fx,a7.l cv,λeL hl=>iH (eo.len K.C9 eL hl),(⟨iH (K.ce cv),iH (K.fu cv)⟩:(kf f b m).1.cells.length<=1000/\(kf f b m).1.fI.length<=1000)⟩;simp only at di de;have dd:=λ{tb:ik} (ht:tb.p 23=D wg)=>Q1 ht f (kf f b m).1 g a7 bZ;have eF:(pw f (kf f b m).1 g&&f.gx.vR g)=A6 f (kf f b m).1 g:=rfl;rw[eF]at dd;generalize a8:kf f b m=eV at*
 obtain⟨y,fb⟩:=eV;simp only at*
 simp at dn;obtain⟨eE,bX,O⟩:=dn;have ff:=H.fN w.b0;have ef:=w.ok.hr;have fi:=H.fN w.b2;have eP:∀k,k<3->(k=h.size)=False/\(k=h.size+1)=False/\(k=h.size+1+1)=False:=λk Q=>by simp;omega
 have p3:∀x c z c6,fF ((((TI.hr h).cons x).cons c).cons z) (h.size+1+1) c6=(((TI.hr h).cons x).cons c).cons c6:=λx c z c6=>zH _ _ _ _ rfl ((ef.cons x).cons c).low;simp[f24,eE,bX,O,Ik,fK.cs,w.b0,(eP 0 G).1,eC,p3];generalize P:(((TI.hr h).cons _).cons _).cons _=r;have ey:r.size=h.size+1+1+1:=by rw[<-P];rfl
 have bi:Nb (TI.hr h) r:=P▸(((Nb.refl ef).cons _).cons _).cons _;have et:r.get (h.size+1)=D (dU 2 0 [m.t]):=by rw[<-P];simp[size_cons]
 have eu:r.get (h.size+1+1)=D (dU 9 1 [y.t]):=by rw[<-P];simp[size_cons]
 have c4:r.get h.size=D (dU 10 0 [Ik b eh]):=by rw[<-P];simp[size_cons,Ik,fK.cs]
 simp only[Ik,fK.cs,cg,cm]at c4;have eA:=w.nb bi.hr;have bS:Gr r eh 2 (W.map io.t):=bT.mono λk Q=>by have⟨_,_,_,_,c,_⟩:=bT.box Q;exact bi.hr.get k (H.fN c)
 clear P p3;have cb:=λbX=>bS.len (cx:=cx) bX fq _ rfl;have⟨u,bH,B⟩:=Gr.akC bS KA rfl Kz rfl V (λe av=>by obtain⟨_,_,rfl⟩:=List.mem_map.1 av;rfl) (by have:=q.ln;have:=q.od.le;simp at*;omega);have B:=B r m.t (az _) (λ_ _=>rfl) rfl;simp only[aK]at cb bH B;have sv:∀k,gJ r r k:=λk=>il rfl;simp[cb,bH,B,c4,et];generalize an:(r.cons _).cons _=n;have A:Nb (TI.hr h) n:=an▸(bi.cons _).cons _;have Y:n.get (h.size+1+1)=D (dU 9 1 [y.t]):=by rw[<-an];simp[size_cons,eu,ey]
 have C:Gr n (.arr (r.size+1) 0 0 (W.length+1) false) 2 ((W++[m]).map io.t):=by
  have:n.get (r.size+1)=D ⟨2,0,0,false,false,W.map io.t++[m.t]⟩:=by rw[<-an];simp[size_cons]
  have:=Gr.new this;rw[List.map_append];simpa using this
 have fl:h.size+5=n.size:=by rw[<-an,size_cons,size_cons,ey]
 have d:=w.nb A.hr;clear an B bH cb c4 et eu eA bS sv bi;generalize T.arr (r.size+1) 0 0 (W.length+1) false=bp at*
 simp[O,d.b0,d.b1,Y,dd];refine fG (λb6=>?_) (λb6=>?_);have⟨bu,dm,M,bN⟩:=d.bF;simp[O,M,wI bN,C.iW,C.cells];unfold DP;simp only[a8];have I:=λc b=>ez M c b;exact .inr ⟨trivial,b6,((A.ok.put _ _).out h).hp,bu+1,bp,(iA h _ _).trans ((I _ _).trans (ax rfl)),(C.mono λk Q=>by
  have⟨_,_,_,_,c,_⟩:=C.box Q;rw[I,aw λq=>by rw[q,M]at c;simp at c]).out h⟩
 simp[O,d.b1,Y,di];refine fG (λ_=>?_) (λ_=>?_);simp;unfold DP;simp only[a8];exact .inl ⟨trivial,F,bn,w.nb A.out,Fv.nb A.out,.inl rfl⟩;have⟨bu,L,U⟩:=d.bm;have er:∀k,lj NB (T.map k).cells=D (.map k):=λ_=>rfl;simp[O,d.b2,d.bM,Y,de,er,YG U];refine fG (λaX=>?_) (λaX=>?_);rotate_left;simp;unfold DP;simp only[a8];exact .inl ⟨trivial,F,bn,w.nb A.out,Fv.nb A.out,.inl rfl⟩;have aX:ca∉L:=iD aX;have ec:=λc b=>ez U c b;have⟨bs,aN⟩:=d.bB;have⟨dk,al,c7⟩:=d.lv;have ee:=YF U aX;have⟨E,ap⟩:∃E,E=fF n (j+2) ⟨0,0,bu+1,true,true,zf (L++[ca])⟩:=⟨_,rfl⟩;rw[<-ap]at ee;have I:∀b,b≠j+2->E.get b=n.get b:=λb s=>by rw[ap,ec,aw s]
 have eR:iS h.size E:=ap▸A.ok.put _ _;have e5:E.size=n.size:=by rw[ap,iB]
 have eO:=d.n5;have N:∀b,fa F=D b->b<n.size/\b≠j/\b≠j+1/\b≠j+2/\b≠j+3/\3<=b:=λb s=>by
  have⟨_,_,_,_,c,_⟩:=al.box s;refine⟨H.fN c,λq=>?_,λq=>?_,λq=>?_,λq=>?_,?_⟩;rw[q,aN]at c;simp at c;have⟨_,_,M,_⟩:=d.bF;rw[q,M]at c;simp at c;rw[q,U]at c;simp at c;rw[q,d.bM]at c;simp at c;rcases aW b 3 with q|q;have:b=0\/b=1\/b=2:=G;rcases this with rfl|rfl|rfl
  rw[d.b0]at c;simp at c;rw[d.b1]at c;simp at c;rw[d.b2]at c;simp at c;exact q
 have eD:Gr E F 10 dk:=al.mono λb s=>I b (N b s).2.2.2.1;have eM:=c7.length;have⟨X,bW,B,v⟩:=eD.yA (cx:=cx) (eR.Di (aB _)) acY rfl acZ rfl V (x:=Ik y bp) rfl (by rw[eM];show(bn.length+1)*224<=_;omega);simp only[Ik,fK.cs,cg,cm]at B;have⟨_,_,eN⟩:=w.bm;have e8:=H.fN eN;have e4:=(I (h.size+1+1) G).trans Y;have bA:=(I j G).trans aN;have c9:=(v.2.1 j (H.fN bA) (λq=>(N j q).2.1 rfl)).trans bA;have eW:ly F 0 [X]=D X:=wI (qk.na (h:=n) (sz:=10) (.inr al));simp[O,d.bM,er,ee,bA,e4,al.cells,C.iW,C.cells,B,c9,eW,v.1.iW,v.1.cells];unfold DP;simp only[a8];have aE:=λc b=>ez c9 c b;have fs:=v.2.2.2.sz;have fo:=A.ok.sz;have eb:∀b,b<E.size->b≠j->b≠j+2->fa F≠some b->(mF h (fF bW j (dU 1 (bs+1) [X]))).get b=n.get b:=λb bC y Z ae=>by rw[iA,aE,aw y,v.2.1 b bC ae,I b Z]
 have cp:∀b c,n.get b=D c->b<E.size:=λb c q=>e5▸H.fN q;have S:∀b c,n.get b=D c->b≠j->b≠j+2->fa F≠some b->(mF h (fF bW j (dU 1 (bs+1) [X]))).get b=D c:=λb c q y Z ae=>(eb b (cp b c q) y Z ae).trans q;have ea:∀b c,n.get b=D c->c.sz=2->(mF h (fF bW j (dU 1 (bs+1) [X]))).get b=D c:=λb c q c1=>S b c q (λR=>by rw[R,aN]at q;simp at q;subst q;simp at c1) (λR=>by rw[R,U]at q;simp at q;subst q;simp at c1) λR=>by have⟨_,_,_,_,Y,_⟩:=al.box R;rw[Y]at q;simp at q;subst q;simp at c1
 have cL:∀b,b<3->fa F≠some b:=λb s q=>iH (N b q).2.2.2.2.2;refine .inl ⟨trivial,X,bn++[(y,W++[m])],⟨⟨((v.2.2.2.put _ _).out h).hp,((v.2.2.2.put _ _).out h).low,aB _⟩,eO,S 0 _ d.b0 G G (cL 0 G),S 1 _ d.b1 G G (cL 1 G),S 2 _ d.b2 G G (cL 2 G),⟨bs+1,by rw[iA,aE,ax rfl]⟩,?_,⟨bu+1,L++[ca],?_⟩,S _ _ d.bM G G (λq=>(N _ q).2.2.2.2.1 rfl),dk++[Ik y bp],?_,?_⟩,⟨?_,?_,?_⟩,.inr ⟨rfl,iD b6⟩⟩;have⟨e0,dm,M,bN⟩:=d.bF;exact⟨e0,dm,S _ _ M G G (λq=>(N _ q).2.2.1 rfl),bN⟩;rw[iA,aE,aw G,v.2.1 _ (cp _ _ U) (λq=>(N _ q).2.2.2.1 rfl),ap,ec,ax rfl];exact(v.1.mono λb s=>by
  rw[aE,aw];rintro rfl;exact(v.2.2.1 _ s).elim (λq=>(N _ q).2.1 rfl) (iH (cp _ _ aN))).out h
 exact(c7.imp λ_ _ q=>q.mono ea).append (.cons ⟨bp,rfl,C.mono λk Q=>by have⟨_,_,_,_,c,_⟩:=C.box Q;rw[c];exact ea _ _ c rfl⟩ .nil);exact((v.2.2.2.put _ _).out h).Di G;exact λb eB bC y Z ae=>(eb b G bC Z ae).trans (A.hr.get b eB);exact λb s=>(v.2.2.1 b s).imp id G 
section
def chT(a:List io):T:=if a=[]then .jb else sl (a.map io.t)
def fdQ(a:eJ×iw)(c:T):Prop:=c= .tuple [.jb,.ej false]\/∃b,c= .tuple [chT b,.ej true]/\yC a.1 a.2 b/\A6 a.1 (y9 a.1 b) a.2=true
structure FdP(w:eJ)(g:iw):Prop where
 hw:kj w
 hn:w.ei.length<=8
 cy:g.jo.length<=1000000
section
variable {w:eJ}{g:iw}{us:List Int}{Bq:Nat}{v v' t:T}{ms ns:List (fK×List io)}{h h':H}
def Xe.k2(b:Xe w g us Bq v ms h)(k:Fv h h' Bq v v'){d:Nat}{e:jI}(a:h.get d=D e)(c:e.sz=2):h'.get d=D e:=by have⟨_,f⟩:=b.bB;have⟨_,_,i,_⟩:=b.bF;have⟨_,_,j⟩:=b.bm;have⟨_,l,_⟩:=b.lv;refine(k.fr d (H.fN a) ?_ ?_ ?_ λm=>?_).trans a;rintro rfl;rw[f]at a;simp at a;subst a;simp at c;rintro rfl;rw[i]at a;simp at a;subst a;simp at c;rintro rfl;rw[j]at a;simp at a;subst a;simp at c;have⟨_,_,_,_,n,_⟩:=l.box m;rw[n]at a;simp at a;subst a;simp at c
def Xe.mp(f:Xe w g us Bq v ms h)(c:Fv h h' Bq v v')(k:∀a,fa v=D a->Bq<a)(l:Tx h t ns)(ht:∀a,fa t=D a->a<Bq):Tx h' t ns:=by obtain⟨j,d,i⟩:=l;refine⟨j,d.mono λa e=>?_,i.imp λ_ _ b=>b.mono λ_ _ n o=>f.k2 c n o⟩;have:=ht a e;have⟨_,_,_,_,m,_⟩:=d.box e;exact c.fr a (H.fN m) G G G λb=>iH (k a b)
def Tx.nb(l:Tx h t ns)(c:Nb h h'):Tx h' t ns:=by obtain⟨j,a,e⟩:=l;exact⟨j,a.mono λf k=>by have⟨_,_,_,_,d,_⟩:=a.box k;exact c.get f (H.fN d),e.imp λ_ _ m=>m.mono λi d b _=>(c.get i (H.fN b)).trans b⟩
end
def fnV(Bq:Nat):T:= .func 24 [dY 0,dY 1,dY (Bq+1),dY 2,dY (Bq+3),dY Bq]
structure LvJ(w:eJ)(g:iw)(us:List Int)(Bq k N:Nat)(t:T)(ns:List (fK×List io))(v:T)(ms:List (fK×List io))(vs:iP)(h:H):Prop where
 S:Xe w g us Bq v ms h
 dv:∀b,fa v=D b->Bq<b
 lv:Tx h t ns
 q:∀y∈ms,NdQ w g (k+1) y
 ln:ms.length<=N
 h2:TI.Y vs 2=D (dY 0)
 h3:TI.Y vs 3=D (dY 1)
 h6:TI.Y vs 6=D (dY 2)
 h9:TI.Y vs 9=D (dY Bq)
 pR:TI.Y vs 10=D (dY (Bq+1))
 wB:TI.Y vs 12=D (fnV Bq)
 h37:TI.Y vs 37=D t
 YL:TI.Y vs 38=D (J ns.length)
def ui:pI prog cx 8 (λQ:eJ×iw=>[Q.1.t,Q.2.t]) (λQ=>FdP Q.1 Q.2) fdQ:=by
 refine yF (tb:=⟨pt [(20,Av),(21,P7.jV),(22,Ch),(23,wg),(28,Ls)],ht [(24,jS IVi aas DP)]⟩) jk iX (js 37086407215374335 [] func8) (λ_=>30000000000) (λQ c h=>by simp at h;exact aG (eJ.inj h.1) (iw.inj h.2)) V nl9 ?_;rintro⟨w,g⟩ ⟨m,ea,bi⟩ d dd;simp only at m ea bi;simp at dd;obtain⟨eF,bH⟩:=dd;obtain⟨_,⟨us,rfl,eb,eV⟩,eB⟩:=P7.use w m;have eS:uq w (ls w):=⟨m,(yS.start m).up G⟩;have cX:=λ{tb:ik} (ht:tb.p 23=D wg)=>Q1 ht w (ls w) g eS bi;have eI:(pw w (ls w) g&&w.gx.vR g)=A6 w (ls w) g:=rfl;rw[eI]at cX;simp[f8,eF,bH,QV,m,bi];refine fG (λeW=>?_) (λeW=>?_);simp[fdQ];simp[eB,Zm,m,cX];refine fG (λaE=>?_) (λaE=>?_);simp[fdQ];exact⟨[],rfl,λ_=>V,aE⟩;simp;refine KW (σ:=Nat×List (fK×List io)) (λO e h=>e.tmps= .nil/\(5<=h.size/\iS 0 h/\h.get 0=D (dU 15 0 [w.t])/\h.get 1=D (dU 6 0 [g.t])/\h.get 2=D (dU 1 1 [sl (iy us)]))/\(∃t,Tx h t O.2/\TI.Y e.vars 8=D t)/\(∀a∈O.2,NdQ w g O.1 a)/\O.2.length<=20^O.1/\O.1<=9/\TI.Y e.vars 2=D (dY 0)/\TI.Y e.vars 3=D (dY 1)/\TI.Y e.vars 6=D (dY 2)) (λO=>10-O.1) ?_ 30000000000 (0,[(ls w,[])]) _ _ V ?_;rintro⟨k,ns⟩ ⟨d,fX⟩ h ⟨ht,⟨fM,b7,et,eu,ey⟩,⟨t,B,bT⟩,bp,hl,eN,n,s,x⟩;simp only at ht B bT bp hl eN n s x;subst ht;obtain⟨eC,bC,cp⟩:=B;have al:=λbH=>bC.len (cx:=cx) bH dO _ rfl;rw[cp.length]at al;have p4:∀a y z u b8,fF ((((h.cons a).cons y).cons z).cons u) (h.size+1+1+1) b8=(((h.cons a).cons y).cons z).cons b8:=λa y z u b8=>zH _ _ _ _ rfl (((b7.cons a).cons y).cons z).low;simp[bT,al];refine fG (λdm=>?_) (λdm=>?_);have eP:0<ns.length:=iD dm;have e6:∀c,(T.map c).iW/\(T.map c).cells=[.map c]:=λ_=>⟨rfl,rfl⟩;have e7:∀c,ly NB.kV 0 [.map c]=D (.map c):=λ_=>rfl;simp[n,s,x,bT,al,p4,e6,e7];have⟨Bq,Z⟩:∃Bq,Bq=h.size:=⟨_,rfl⟩;generalize ae:(((h.cons _).cons _).cons _).cons _=a8;have ap:Nb h a8:=ae▸((((Nb.refl b7).cons _).cons _).cons _).cons _;have gw:a8.size=Bq+4:=by rw[<-ae,Z];rfl
 have e0:∀c,fa t=D c->c<Bq:=λc A=>by have⟨_,_,_,_,y,_⟩:=bC.box A;rw[Z];exact H.fN y
 have er:Xe w g us Bq dT [] a8:=⟨⟨ap.ok.hp,ap.ok.low,aB _⟩,G,(ap.get 0 G).trans et,(ap.get 1 G).trans eu,(ap.get 2 G).trans ey,⟨0,by rw[<-ae,Z];simp[size_cons]⟩,⟨0,dT,by rw[<-ae,Z];simp[size_cons],V⟩,⟨0,[],by rw[<-ae,Z];simp[size_cons,zf]⟩,by rw[<-ae,Z];simp[size_cons],[],Gr.nil _ _,.nil⟩;have e4:Tx a8 t ns:=Tx.nb ⟨eC,bC,cp⟩ ap;rw[<-Z];have eM:∀a∈ns,(ux w a.1 w.gG.d8.length).length<=20:=λa l=>by
  have:=Jm (⟨m,(bp a l).co.up G⟩:uq w a.1) w.gG.d8.length;have:=(kW m.wb).2.2.2.2.2;omega
 have c9:k<=7->ns.length<=1280000000:=λo=>by
  have:20^k<=20^7:=Nat.pow_le_pow_right dR o;have:(20:Nat)^7=1280000000:=dR;omega
 have eO:k<=8:=by
  have⟨a,l⟩:=List.exists_mem_of_length_pos eP;have:=(bp a l).od.le;omega
 have fS:ns.length<30000000000:=by
  have:20^k<=20^8:=Nat.pow_le_pow_right dR eO;have:(20:Nat)^8=25600000000:=dR;omega
 clear ae p4 ap;refine gW ns.length G (λi d y=>(∃v ms,LvJ w g us Bq k (20*i) t ns v ms d y)/\TI.Y d 39=D (J i)) ?_ ?_ G ⟨⟨_,_,er,V,e4,V,V,by simp[n],by simp[s],by simp[x],V,V,by simp[fnV],V,V⟩,V⟩;rintro i d y bZ eK ⟨⟨v,ms,P⟩,M⟩;obtain⟨b,R,B,o,al,n,s,x,X,S,U,W,L⟩:=P;have⟨AM,c6,cv⟩:=id B;have⟨a,l⟩:∃a,a=ns[i]:=⟨_,rfl⟩;have b9:=bp a (l▸aH bZ);have gi:=eM a (l▸aH bZ);obtain⟨e,bX,N,rfl,E⟩:=cv.get (k:=i) (y:=a) (by rw[l];simp);have ds:=(List.getElem?_eq_some_iff.1 bX).1;have⟨c,fB,gg,fE,gj,e5,ef,eh,bu⟩:=c6.CI (te:=eg) rfl (i:=i) ds;rw[(List.getElem?_eq_some_iff.1 bX).2]at bu;have bs:=b.ok.low;have fl:uq w a.1:=⟨m,b9.co.up G⟩;have eA:=λ{tb:ik} (ht:tb.p 28=D Ls)=>(show rl prog cx tb 28 [w.t,a.1.t]=D (sl ((ux w a.1 w.gG.d8.length).map io.t))from iF ht ab8 (w,a.1) fl);have gn:=b.n5;have fs:=H.fN b.bM;have eo:(0=y.size)=False:=dP;simp only[Ik,fK.cs,cg,cm]at bu;simp[n,W,L,M,bZ,ef,eh,bu,bs,b.b0,eo,eA];generalize eH:ux w a.1 w.gG.d8.length=C at*
 have K:(y.cons (dU 10 1 [Ik a.1 N])).get y.size=D (dU 10 1 [Ik a.1 N]):=V;have aN:Nb y (y.cons (dU 10 1 [Ik a.1 N])):=(Nb.refl b.ok).cons _;have aA:fa v≠some y.size:=λe9=>by have⟨_,eD,_⟩:=b.lv;have⟨_,_,_,_,F,_⟩:=eD.box e9;have:=H.fN F;omega
 have cb:=b.nb aN;have ee:=Tx.nb B aN;have c7:Gr (y.cons (dU 10 1 [Ik a.1 N])) N 2 (a.2.map io.t):=E.mono λc A=>by have⟨_,_,_,_,F,_⟩:=E.box A;exact aN.get c (H.fN F)
 simp only[Ik,fK.cs,cg,cm]at K aN cb ee c7;generalize y.cons _=gm at*
 have⟨q,bW⟩:∃q,q=y.size:=⟨_,rfl⟩;rw[<-bW]at K aA|-;have fv:Bq+3<q:=bW▸fs;clear bW e5 ef eh bu bX ds c6 cv bs b B E aN eo;refine gW C.length G (λj d y=>(∃v ms,LvJ w g us Bq k (20*i+j) t ns v ms d y/\fa v≠some q)/\y.get q=D (dU 10 1 [Ik a.1 N])/\Gr y N 2 (a.2.map io.t)/\TI.Y d 14=D (dY q)/\TI.Y d 39=D (J i)/\TI.Y d 46=D (sl (C.map io.t))/\TI.Y d 47=D (J C.length)/\TI.Y d 48=D (J j)) ?_ ?_ G ?_;rintro j d y dn eL ⟨⟨v,ms,P,aA⟩,K,E,bN,M,bS,aX,a7⟩;obtain⟨b,R,B,o,al,n,s,x,X,S,U,W,L⟩:=P;have⟨I,de⟩:∃I,I=C[j]:=⟨_,rfl⟩;have di:I∈ux w a.1 w.gG.d8.length:=by rw[eH,de];exact aH dn
 have bs:=b.ok.low;have fo:=H.fN K;have e8:(q=y.size)=False:=dP;have an:Nb y (y.cons (dU 2 1 [I.t])):=(Nb.refl b.ok).cons _;have gv:=H.fN b.bM;have⟨fb,fe,fW,ff,_,_,fi⟩:=b9.step m di;have fP:=fi.le;have c9:=c9 G;simp[U,bN,bS,aX,a7,dn,<-de,bs,K,e8,fnV,Ik,fK.cs];refine jl X8 V ⟨w,g,us,Bq,v,ms,a,N,I,k⟩ ⟨rfl,b.nb an,E.mono λc A=>?_,m,ea,bi,b9,di,eb,λu eU=>?_,?_⟩ ?_;have⟨_,_,_,_,F,_⟩:=E.box A;exact an.get c (H.fN F);have:=(eV u eU).2;rw[eb];exact this;simp only;omega;rintro r gk (⟨rfl,v',b6,ca,f,bn⟩|⟨rfl,dk,eR,gd,fL,c4,bA⟩);simp only at ca f bn;simp[M,bS,aX,a7,eL];have eX:q<(y.cons (dU 2 1 [I.t])).size:=by rw[size_cons];omega
 have c1:=(f.fr q eX G G G aA).trans ((an.get q fo).trans K);simp only[Ik,fK.cs,cg,cm]at c1;have ec:b6.length<=20*i+(j+1)/\∀y∈b6,NdQ w g (k+1) y:=by
  rcases bn with rfl|⟨rfl,aE⟩;exact⟨G,o⟩;exact⟨dP,λy av=>(List.mem_append.1 av).elim (o y) λav=>by simp at av;subst av;exact ff aE⟩
 exact⟨⟨v',⟨b6,ca,λc A=>(f.bx c A).elim (R c) (by rw[size_cons];omega),(b.nb an).mp f R (Tx.nb B an) e0,ec.2,ec.1,by simp[n],by simp[s],by simp[x],by simp[X],by simp[S],by simp[U],by simp[W],by simp[L]⟩,λo=>(f.bx q o).elim aA (by rw[size_cons];omega)⟩,c1,E.mono λc A=>by
  have⟨_,_,_,_,F,_⟩:=E.box A;rw[(b.nb an).k2 f ((an.get c (H.fN F)).trans F) rfl,F],bN⟩
 simp only at c4 bA dk;have z:=bA.qY V;simp[S,c4,bA.cells];exact⟨.tuple [chT (a.2++[I]),.ej true],.inr ⟨a.2++[I],rfl,fb,fe▸dk⟩,eR,by rw[z];simp[chT]⟩;rintro d y ⟨⟨v,ms,P,aA⟩,K,E,bN,M,bS,aX,a7⟩;obtain⟨b,R,B,o,al,n,s,x,X,S,U,W,L⟩:=P;simp[M,aX,a7,eK];exact⟨v,ms,b,R,B,o,G,by simp[n],by simp[s],by simp[x],by simp[X],by simp[S],by simp[U],by simp[W],by simp[L]⟩;exact⟨⟨v,ms,⟨cb,R,ee,o,G,by simp[n],by simp[s],by simp[x],by simp[X],by simp[S],by simp[U],by simp[W],by simp[L]⟩,aA⟩,K,c7,by simp[M]⟩;rintro d y ⟨⟨v,ms,P⟩,M⟩;obtain⟨b,R,B,o,al,n,s,x,X,S,U,W,L⟩:=P;have⟨fY,cL⟩:=b.bB;have⟨fC,eE,fA⟩:=b.lv;simp[L,M,X,cL,eE.cells];exact⟨k+1,G,⟨by have:=b.n5;have:=H.fN cL;omega,b.ok,b.b0,b.b1,b.b2⟩,ms,b.lv,λQ c bn=>o _ bn,by rw[Nat.pow_succ];omega,G,n,s,x⟩;simp;exact⟨.inl rfl,b7.hp⟩;exact⟨rfl,⟨by simp[size_cons],⟨V,by simp[size_cons],aB _⟩,by simp[size_cons],by simp[size_cons],by simp[size_cons]⟩,⟨_,⟨[Ik (ls w) dT],.inr ⟨4,0,0,true,[Ik (ls w) dT],rfl,by simp[size_cons,Ik,fK.cs],rfl⟩,.cons ⟨_,rfl,Gr.nil _ _⟩ .nil⟩,V⟩,λa l=>by
  simp at l;subst l;exact⟨rfl,rfl,λ_=>V,aE,yS.start m,m.rdt,⟨by simp[ls],by simp[ls],rfl⟩⟩,V,V,V⟩
end
def NP(a:T):ly .mw 0 [a]=D a:=wI V 
structure IDl where
 (z:iC) (bx bl:Nat) (v:T) (es:List T) (gs:List iw)
def Ef(a:iC)(c:Nat):List iw:=(jn c a.w.ei.length).flatMap λ(b:Nat)=>(a.w.gx.O8 b).map gC
def aaC(a:IDl)(c:List T)(b:H):Prop:=c=[a.z.t,WZ a.bx a.bl]/\(∃d,b.get a.bx=D (dU 16 d [a.z.t]))/\FP b a.bl a.v a.es a.gs/\iS 0 b/\An a.z/\a.gs.length+(Ef a.z 0).length<=1000000
def Uv(a:IDl)(f:List T)(e:H)(g:T)(b:H):Prop:=∃c d,FP b a.bl c d (a.gs++Ef a.z 0)/\Fm e b a.bl a.v c
def J5:(jS IDl aaC Uv).Ok prog cx 88:=by
 refine jz (tb:=⟨pt [],ht [(140,jS IDd (λL h a=>Uh L h a/\5-L.p.length<6) NY)]⟩) jk iX (js 7231 [] func88) (λ_ _=>100) (λL h a aX=>by obtain⟨rfl,_⟩:=aX;simp[f88]) ?_;rintro⟨b,s,d,X,an,R⟩ _ a ⟨rfl,⟨bn,I⟩,v,o,K,U⟩ r T
 dsimp at I v K U
 simp at T;obtain⟨ap,av⟩:=T;have bu:=K.w.ok.len;have a8:(TI.hr a).low<=a.size:=by have:=o.hr.low;simp
 have bi:∀h y e u,fF ((((TI.hr a).cons h).cons y).cons e) (a.size+1+1) u=(((TI.hr a).cons h).cons y).cons u:=λh y e u=>zH _ _ _ _ rfl dP;simp[f88,ap,av,bi,WZ,NP];generalize f:H.cons _ _=m;have W:iS a.size m:=f▸(((⟨o.hr.hp,o.hr.low,az _⟩:iS a.size (TI.hr a)).cons _).cons _).cons _;have bN:m.size=a.size+1+1+1:=by rw[<-f];rfl
 have M:Nb a m:=f▸⟨((((Nb.refl o.hr).cons _).cons _).cons _).ok,λe C=>(((((Nb.refl o.hr).cons _).cons _).cons _).get e C).trans (iI a e)⟩;have ae:EnD m b (a.size+1) a.size (a.size+1+1) s d:=⟨⟨0,by rw[<-f];simp[WZ]⟩,⟨0,by rw[<-f];simp⟩,⟨1,by rw[<-f];simp[YU]⟩,⟨bn,(M.get s (H.fN I)).trans I⟩⟩;clear f;refine pU b.w.ei.length (λk r c=>∃q t i,FP c d q t i/\i++Ef b k=R++Ef b 0/\EnD c b (a.size+1) a.size (a.size+1+1) s d/\Fm m c d X q/\TI.Y r 4=D (dY (a.size+1+1))/\TI.Y r 10=D (J b.w.ei.length)/\TI.Y r 11=D (J k)) ?_ G (k:=0) G ⟨X,an,R,v.nb M,rfl,ae,Fm.nb ⟨⟨W.hp,W.low,az _⟩,λ_ _=>rfl⟩,V⟩;rintro k r c bs ⟨q,t,i,j,g,z,l,S,A,B⟩;have N:iS 0 c:=⟨l.ok.hp,l.ok.low,aB _⟩;have⟨bC,O⟩:=z.e3;by_cases E:k<b.w.ei.length;have aE:binop .add (J (k:Int)) (J 1)=D (J ((k:Int)+1)):=jf G G;have F:Ef b k=(b.w.gx.O8 k).map gC++Ef b (k+1):=by unfold Ef;rw[kM E];rfl
 rw[F]at g;have aN:i.length+(b.w.gx.O8 k).length<=1000000:=by
  have:=cd List.length g;simp at this U;omega
 have bS:=l.ok.sz;have P:=O;simp[YU]at P;have bA:(a.size+1+1=c.size)=False:=qN (H.fN O);have a8:=N.low;simp[S,A,B,E,P];have n:Nb c (c.cons (dU 1 0 [J k])):=(Nb.refl N).cons _;have bp:d<a.size:=by have⟨bH,g⟩:=v.gl;exact H.fN g
 refine jl (ab7 6) V ⟨b,[(k:Int)],.arr c.size 0 0 1 false,a.size+1,a.size,a.size+1+1,s,d,q,t,i⟩ ⟨⟨rfl,z.fm j (Fm.nb n),j.nb n,N.cons _,K,.inr ⟨c.size,0,0,true,[J k],rfl,V,rfl⟩,λe C=>?_,V,V,λu a7=>?_,aN⟩,V⟩ ?_;simp at C;show e≠d;omega;rw[List.mem_singleton.1 a7];exact fT.2 ⟨G,dQ⟩;rintro _ aA ⟨Z,AM,x,Q⟩;have al:=(z.fm j (Fm.nb n)).fm (j.nb n) Q;have x:FP aA d Z AM (i++(b.w.gx.O8 k).map gC):=x;simp[S,A,B,aE];exact⟨k+1,G,G,Z,AM,_,x,by rw[aQ];exact g,al,(l.trans (Fm.nb n)).trans Q,V⟩;have F:Ef b k=[]:=by unfold Ef;rw[lO G];rfl
 rw[F,bJ]at g;subst g;simp[A,B,E];exact⟨q,t,j.out a,((Fm.nb M).trans l).abR⟩
def Bo:iE:=⟨eJ,λa=>[a.t],λa=>kj a,λa=>sl (a.gx.pA.map iw.t),λc d b=>by simp at b;rw[eJ.inj b]⟩
def WE{b:ik}(ht:b.p 57=D u9)(a:eJ)(c:kj a):rl prog cx b 57 [a.t]=D (.tuple [iC.t ⟨a,a.gx.st⟩,.ej true]):=iF ht I1 a c
structure Pu(w:eJ)(h:H)(v:T)(es:List T)(gs:List iw):Prop where
 ac:FP h 2 v es gs
 ok:iS 3 h
 b0:h.get 0=D (dU 15 0 [w.t])
 b1:h.get 1=D (dU 16 1 [iC.t ⟨w,w.gx.st⟩])
def Pu.fm{k:eJ}{i c:H}{d e:T}{m f:List T}{n h:List iw}(a:Pu k i d m n)(b:Fm i c 2 d e)(l:FP c 2 e f h):Pu k c e f h:=by
 have r:=a.ok.sz;have p:=a.ac.ne a.b1 (.inl rfl);have o:fa d≠some 0:=λq=>by
  have⟨_,_,_,_,j,_⟩:=a.ac.g.box q;rw[a.b0]at j;simp at j
 exact⟨l,⟨b.ok.hp,b.ok.low,iH b.ok.sz⟩,(b.fr 0 G G o).trans a.b0,(b.fr 1 G G p.2).trans a.b1⟩
def Pu.len{b:eJ}{g:H}{l:T}{e:List T}{c d:List iw}(k:Pu b g l e c)(j:kj b)(i:c++d=b.gx.pA):e.length<=1000000/\c.length+d.length<=1000000:=by have h:=k.ac.a.length;have f:=DW b.gx j.ok.len;rw[<-GX.J8,<-i]at f;simp at h f;omega
def kj.ana{a:eJ}(b:kj a):An ⟨a,a.gx.st⟩:=⟨b,rfl⟩
def Pu.pre{b:eJ}{e:H}{i:T}{d:List T}{c j:List iw}(a:Pu b e i d c)(h:kj b)(k:c++j=b.gx.pA){g:iw}(f:g.jo=[]):PW ⟨⟨b,b.gx.st⟩,g,dT,1,2,i,d,c⟩ [Kn g dT,dY 1,dY 2] e:=
 ⟨rfl,⟨1,a.b1⟩,a.ac,⟨a.ok.hp,a.ok.low,aB _⟩,h.ana,(a.len h k).1,by simp[f],by simp[f];exact Gr.nil _ _,λ_=>V⟩
def Yk:Bo.Ok prog cx 39:=by
 refine yW (tb:=⟨pt [(57,u9),(89,x6)],ht [(87,jS IAd PW N4),(88,jS IDl aaC Uv)]⟩) jk iX (js 40953575029616206113996799 [] func39) (λ_=>100) (by simp[Bo]) nl9 ?_;rintro(d:eJ) I b bu;replace I:kj d:=I;simp[Bo]at bu|-;have c6:=I.ok.len;have⟨c,bN⟩:∃c,c=d.ei.length:=⟨_,rfl⟩;have X:d.gx.pA=((jn 0 c).flatMap λ(j:Nat)=>(jn (j+1) c).flatMap λ(r:Nat)=>jJ d.gx.vG (gR j r))++(Ef ⟨d,d.gx.st⟩ 0++(((jn 0 c).flatMap λ(j:Nat)=>(jn 0 j).flatMap λ(r:Nat)=>jJ d.gx.vG (gL j r))++
  ((jn 0 c).flatMap λ(j:Nat)=>(jn (j+1) c).flatMap λ(r:Nat)=>if d.gx.M6 j r=true then(jn 0 c).flatMap λ(l:Nat)=>(jn l c).flatMap λ(v:Nat)=>jJ d.gx.vG (gA j r l v)else []))):=by
  unfold GX.pA Ef;rw[show d.gx.n=c from bN.symm];simp[FW,aQ,<-bN]
 generalize b7:((jn 0 c).flatMap λ(j:Nat)=>(jn (j+1) c).flatMap λ(r:Nat)=>if d.gx.M6 j r=true then(jn 0 c).flatMap λ(l:Nat)=>(jn l c).flatMap λ(v:Nat)=>jJ d.gx.vG (gA j r l v)else [])=al at X;generalize b6:((jn 0 c).flatMap λ(j:Nat)=>(jn 0 j).flatMap λ(r:Nat)=>jJ d.gx.vG (gL j r))++al=bS at X;generalize bZ:Ef ⟨d,d.gx.st⟩ 0++bS=aN at X;have cp:(d.ei.length:Int)=c:=G;simp[f39,bu,cp,WE,I];refine pU c (λk b y=>∃o m f,Pu d y o m f/\f++(((jn k c).flatMap λ(j:Nat)=>(jn (j+1) c).flatMap λ(r:Nat)=>jJ d.gx.vG (gR j r))++aN)=d.gx.pA/\TI.Y b 1=D (dY 0)/\TI.Y b 3=D (dY 1)/\TI.Y b 5=D (dY 2)/\TI.Y b 6=D (.func 87 [dY 1,dY 2])/\TI.Y b 7=D (J c)/\TI.Y b 27=D (J c)/\TI.Y b 28=D (J k)) ?_ G (k:=0) G ?_;rintro k b y bH ⟨o,m,f,h,e,z,w,x,u,s,M,N⟩;by_cases A:k<c;have Q:=ml A G;rw[kM A,aV,aQ]at e;simp[M,N,A,Q];refine pU c (λi b y=>∃o m f,Pu d y o m f/\f++(((jn i c).flatMap λ(r:Nat)=>jJ d.gx.vG (gR k r))++(((jn (k+1) c).flatMap λ(j:Nat)=>(jn (j+1) c).flatMap λ(r:Nat)=>jJ d.gx.vG (gR j r))++aN))=d.gx.pA/\TI.Y b 1=D (dY 0)/\TI.Y b 3=D (dY 1)/\TI.Y b 5=D (dY 2)/\TI.Y b 6=D (.func 87 [dY 1,dY 2])/\TI.Y b 7=D (J c)/\TI.Y b 8=D (J k)/\TI.Y b 27=D (J c)/\TI.Y b 28=D (J k)/\TI.Y b 9=D (J i)) ?_ G (k:=k+1) G ⟨o,m,f,h,e,by simp[z,w,x,u,s,M,N]⟩;rintro i b y bC ⟨o,m,f,h,e,z,w,x,u,s,bp,M,N,aA⟩;by_cases E:i<c;have U:=ml E G;rw[kM E,aV]at e;have W:=h.pre I e (g:=gR k i) rfl;rw[aQ,<-aQ]at e;simp[u,s,bp,aA,E];refine jl Qg V _ W ?_;rintro _ bn ⟨R,AM,K,L⟩;simp[z,w,x,u,s,bp,aA,M,N,U];exact⟨i+1,G,G,R,AM,_,h.fm L K,e,V⟩;rw[lO (show c<=i by omega)]at e;simp[z,w,x,u,s,aA,M,N,E,Q];exact⟨k+1,G,G,o,m,f,h,e,V⟩;rw[lO (show c<=k by omega)]at e;simp[w,u,M,N,A,h.b1];clear A M N;rw[<-bZ,cB,cm]at e;have bA:=h.len I e;refine jl J5 V ⟨⟨d,d.gx.st⟩,1,2,o,m,f⟩ ⟨rfl,⟨1,h.b1⟩,h.ac,⟨h.ok.hp,h.ok.low,aB _⟩,I.ana,by have:=bA.2;simp at this|-;omega⟩ ?_;rintro _ cL ⟨R,AM,K,L⟩;have aE:=h.fm L K;rw[<-aQ]at e
 dsimp at aE
 clear h K L bA;simp[s];rw[<-b6]at e;generalize f++Ef ⟨d,d.gx.st⟩ 0=bX at*
 refine pU c (λk b y=>∃o m f,Pu d y o m f/\f++(((jn k c).flatMap λ(j:Nat)=>(jn 0 j).flatMap λ(r:Nat)=>jJ d.gx.vG (gL j r))++al)=d.gx.pA/\TI.Y b 1=D (dY 0)/\TI.Y b 3=D (dY 1)/\TI.Y b 5=D (dY 2)/\TI.Y b 6=D (.func 87 [dY 1,dY 2])/\TI.Y b 7=D (J c)/\TI.Y b 47=D (J c)/\TI.Y b 48=D (J k)) ?_ G (k:=0) G ⟨R,AM,bX,aE,e,by simp[z,w,x,u,s]⟩;rintro k b y bH ⟨o,m,f,h,e,z,w,x,u,s,O,P⟩;by_cases A:k<c;have Q:=ml A G;rw[kM A,aV,aQ]at e;simp[O,P,A];refine pU k (λi b y=>∃o m f,Pu d y o m f/\f++(((jn i k).flatMap λ(r:Nat)=>jJ d.gx.vG (gL k r))++(((jn (k+1) c).flatMap λ(j:Nat)=>(jn 0 j).flatMap λ(r:Nat)=>jJ d.gx.vG (gL j r))++al))=d.gx.pA/\TI.Y b 1=D (dY 0)/\TI.Y b 3=D (dY 1)/\TI.Y b 5=D (dY 2)/\TI.Y b 6=D (.func 87 [dY 1,dY 2])/\TI.Y b 7=D (J c)/\TI.Y b 10=D (J k)/\TI.Y b 47=D (J c)/\TI.Y b 48=D (J k)/\TI.Y b 51=D (J k)/\TI.Y b 52=D (J i)) ?_ G (k:=0) G ⟨o,m,f,h,e,by simp[z,w,x,u,s,O,P]⟩;rintro i b y bC ⟨o,m,f,h,e,z,w,x,u,s,a8,O,P,ap,av⟩;by_cases E:i<k;have U:=ml (show i<c by omega) G;rw[kM E,aV]at e;have W:=h.pre I e (g:=gL k i) rfl;rw[aQ,<-aQ]at e;simp[u,a8,ap,av,E];refine jl Qg V _ W ?_;rintro _ bn ⟨R,AM,K,L⟩;simp[z,w,x,u,s,a8,O,P,ap,av,U];exact⟨i+1,G,G,R,AM,_,h.fm L K,e,V⟩;rw[lO (show k<=i by omega)]at e;simp[z,w,x,u,s,O,P,ap,av,E,Q];exact⟨k+1,G,G,o,m,f,h,e,V⟩;rw[lO (show c<=k by omega)]at e;simp[s,O,P,A];clear A O P;rw[<-b7,cB,cm]at e;refine pU c (λk b y=>∃o m f,Pu d y o m f/\f++((jn k c).flatMap λ(j:Nat)=>(jn (j+1) c).flatMap λ(r:Nat)=>if d.gx.M6 j r=true then(jn 0 c).flatMap λ(l:Nat)=>(jn l c).flatMap λ(v:Nat)=>jJ d.gx.vG (gA j r l v)else [])=d.gx.pA/\TI.Y b 1=D (dY 0)/\TI.Y b 3=D (dY 1)/\TI.Y b 5=D (dY 2)/\TI.Y b 6=D (.func 87 [dY 1,dY 2])/\TI.Y b 7=D (J c)/\TI.Y b 62=D (J c)/\TI.Y b 63=D (J k)) ?_ G (k:=0) G ⟨o,m,f,h,e,by simp[z,w,x,u,s]⟩;rintro k b y bH ⟨o,m,f,h,e,z,w,x,u,s,B,C⟩;by_cases A:k<c;have Q:=ml A G;rw[kM A,aV]at e;simp[B,C,A,Q];generalize b9:((jn (k+1) c).flatMap λ(j:Nat)=>(jn (j+1) c).flatMap λ(r:Nat)=>if d.gx.M6 j r=true then(jn 0 c).flatMap λ(l:Nat)=>(jn l c).flatMap λ(v:Nat)=>jJ d.gx.vG (gA j r l v)else [])=a7 at e;refine pU c (λi b y=>k<i/\∃o m f,Pu d y o m f/\f++(((jn i c).flatMap λ(r:Nat)=>if d.gx.M6 k r=true then(jn 0 c).flatMap λ(l:Nat)=>(jn l c).flatMap λ(v:Nat)=>jJ d.gx.vG (gA k r l v)else [])++a7)=d.gx.pA/\TI.Y b 1=D (dY 0)/\TI.Y b 3=D (dY 1)/\TI.Y b 5=D (dY 2)/\TI.Y b 6=D (.func 87 [dY 1,dY 2])/\TI.Y b 7=D (J c)/\TI.Y b 12=D (J k)/\TI.Y b 13=D (J i)/\TI.Y b 62=D (J c)/\TI.Y b 63=D (J k)) ?_ G (k:=k+1) G ⟨G,o,m,f,h,e,by simp[z,w,x,u,s,B,C]⟩;rintro i b y bC ⟨c4,o,m,f,h,e,z,w,x,u,s,H,F,B,C⟩;by_cases E:i<c;have U:=ml E G;rw[kM E,aV,aQ]at e;generalize bs:((jn (i+1) c).flatMap λ(r:Nat)=>if d.gx.M6 k r=true then(jn 0 c).flatMap λ(l:Nat)=>(jn l c).flatMap λ(v:Nat)=>jJ d.gx.vG (gA k r l v)else [])++a7=aX at e;have bW:∀{tb:ik},tb.p 89=D x6->rl prog cx tb 89 [iC.t ⟨d,d.gx.st⟩,J k,J i]=D (.ej (d.gx.M6 k i)):=λht=>iF ht LZ (⟨d,d.gx.st⟩,(k:Int),(i:Int)) ⟨I.ana,(fT.2 ⟨G,G⟩:jx (k:Int) d.ei.length=true),(fT.2 ⟨G,G⟩:jx (i:Int) d.ei.length=true)⟩;simp[w,s,H,F,E,h.b1,bW];refine fG (λq=>?_) (λq=>?_);rw[aw (by rw[show d.gx.M6 k i=false from iD q];simp),cm,<-bs]at e;simp[z,w,x,u,s,H,F,B,C,U];exact⟨i+1,G,G,G,o,m,f,h,e,V⟩;rw[ax (iD q)]at e;simp[s];refine pU c (λl b y=>∃o m f,Pu d y o m f/\f++(((jn l c).flatMap λ(l:Nat)=>(jn l c).flatMap λ(v:Nat)=>jJ d.gx.vG (gA k i l v))++aX)=d.gx.pA/\TI.Y b 1=D (dY 0)/\TI.Y b 3=D (dY 1)/\TI.Y b 5=D (dY 2)/\TI.Y b 6=D (.func 87 [dY 1,dY 2])/\TI.Y b 7=D (J c)/\TI.Y b 12=D (J k)/\TI.Y b 13=D (J i)/\TI.Y b 62=D (J c)/\TI.Y b 63=D (J k)/\TI.Y b 78=D (J c)/\TI.Y b 79=D (J l)) ?_ G (k:=0) G ⟨o,m,f,h,e,by simp[z,w,x,u,s,H,F,B,C]⟩;rintro l b y cX ⟨o,m,f,h,e,z,w,x,u,s,H,F,B,C,S,T⟩;by_cases Z:l<c;have ca:=ml Z G;rw[kM Z,aV,aQ]at e;simp[S,T,Z];generalize b8:((jn (l+1) c).flatMap λ(l:Nat)=>(jn l c).flatMap λ(v:Nat)=>jJ d.gx.vG (gA k i l v))++aX=bT at e;refine pU c (λv b y=>∃o m f,Pu d y o m f/\f++(((jn v c).flatMap λ(v:Nat)=>jJ d.gx.vG (gA k i l v))++bT)=d.gx.pA/\TI.Y b 1=D (dY 0)/\TI.Y b 3=D (dY 1)/\TI.Y b 5=D (dY 2)/\TI.Y b 6=D (.func 87 [dY 1,dY 2])/\TI.Y b 7=D (J c)/\TI.Y b 12=D (J k)/\TI.Y b 13=D (J i)/\TI.Y b 14=D (J l)/\TI.Y b 15=D (J v)/\TI.Y b 62=D (J c)/\TI.Y b 63=D (J k)/\TI.Y b 78=D (J c)/\TI.Y b 79=D (J l)) ?_ G (k:=l) G ⟨o,m,f,h,e,by simp[z,w,x,u,s,H,F,B,C,S,T]⟩;rintro v b y c1 ⟨o,m,f,h,e,z,w,x,u,s,H,F,bi,an,B,C,S,T⟩;by_cases ae:v<c;have cb:=ml ae G;rw[kM ae,aV]at e;have W:=h.pre I e (g:=gA k i l v) rfl;rw[aQ,<-aQ]at e;simp[u,s,H,F,bi,an,ae];refine jl Qg V _ W ?_;rintro _ bn ⟨R,AM,K,L⟩;simp[z,w,x,u,s,H,F,bi,an,B,C,S,T,cb];exact⟨v+1,G,G,R,AM,_,h.fm L K,e,V⟩;rw[lO (show c<=v by omega)]at e;simp[z,w,x,u,s,H,F,an,B,C,S,T,ae,ca];exact⟨l+1,G,G,o,m,f,h,b8▸e,V⟩;rw[lO (show c<=l by omega)]at e;simp[z,w,x,u,s,H,F,B,C,S,T,Z,U];exact⟨i+1,G,G,G,o,m,f,h,bs▸e,V⟩;rw[lO (show c<=i by omega)]at e;simp[z,w,x,u,s,F,B,C,E,Q];exact⟨k+1,G,G,o,m,f,h,b9▸e,V⟩;rw[lO (show c<=k by omega)]at e;rw[cB,bJ]at e;have⟨c7,cv⟩:=h.ac.gl;simp[x,B,C,A,cv,h.ac.g.cells,h.ac.g.iW];exact⟨h.ok.hp,by rw[Gr.ag9 h.ac.g G h.ac.a,e]⟩;refine⟨dT,[],[],⟨⟨⟨0,V⟩,Gr.nil _ _,.nil⟩,by exact⟨V,V,V⟩,V,V⟩,X.symm,V⟩
end
def TC{f:GX}{b:iw}(a:f.vR b):b.jo.length<=4:=by
 unfold GX.vR at a;split at a;unfold GX.dead GX.Ji at a;simp[aC,aO]at a;exact a.2.1.1.2;split at a;rotate_left;simp at a;have e:∀{d:Bool},(decide (b.jo=[])&&d)->b.jo.length<=4:=λc=>by
  simp[aC,aO]at c;rw[c.1];simp
 split at a;simp[aC,aO]at a;rw[a.1.2];simp;split at a;simp[aC,aO]at a;rw[a.1.2];simp;split at a;exact e a;simp at a
def Lg{a:eJ}(d:kj a):a.gx.pA.length<=1000000/\∀b∈a.gx.pA,b.jo.length<=1000000:=by rw[GX.J8];refine⟨aU (DW a.gx d.ok.len) G,λb c=>?_⟩;have:=TC (GX.G7 c);omega
def adk{b:ik}(ht:b.p 39=D Bo)(a:eJ)(c:kj a):rl prog cx b 39 [a.t]=D (sl (a.gx.pA.map iw.t)):=iF ht Yk a c
def Zp{b:ik}(ht:b.p 14=D uG)(a:eJ)(c:kj a):rl prog cx b 14 [a.t]=D (sl (a.gx.pA.map iw.t)):=(iF ht LJ a c).trans (by rw[GX.J8];rfl)
