/- Texts DData to TiFT. -/
import Derived.Test.YtmaeadedikngoaaGreatDoorA9
set_option linter.unusedVariables false
set_option linter.unusedSimpArgs false
set_option linter.defProp false
set_option maxRecDepth 100000
set_option maxHeartbeats 8000000
namespace Go.Proofs.YtmaeadedikngoaaGreatDoor
noncomputable section
open Go Go.TI
structure fZ where
 name:List Nat
 index:Int
 size:Int
 sq:Bool
 jG:Int
 deriving DecidableEq,Inhabited
def fZ.cs(a:fZ):List T:=[.str a.name,dw a.index,dw a.size,.bool a.sq,dw a.jG]
def fZ.t(a:fZ):T:= .agg a.cs
@[simp] theorem fZ.ag (a:fZ):qp a.t [.str a.name,dw a.index,dw a.size,.bool a.sq,dw a.jG] 5:=by
 unfold fZ.t fZ.cs;exact⟨rfl,rfl,λ_ _=>rfl,rfl,by simp[jz],λ_=>by simp,λ_ _=>by simp,dp,dp⟩
@[simp] theorem fZ.fold (a0:List Nat) (a1:Int) (a2:Int) (a3:Bool) (a4:Int):T.agg [.str a0,dw a1,dw a2,.bool a3,dw a4]=fZ.t ⟨a0,a1,a2,a3,a4⟩:=rfl
@[simp] theorem fZ.eta (a:fZ):fZ.mk a.name a.index a.size a.sq a.jG=a:=rfl
def fZ.inj{a b:fZ}(c:a.t=b.t):a=b:=by
 rcases a with⟨_,_,_,_,_⟩;rcases b with⟨_,_,_,_,_⟩;simp only[fZ.t,fZ.cs,T.agg.injEq,aJ]at c;obtain⟨d,e,f,g,h,_⟩:=c;obtain rfl:=mp d;obtain rfl:=gh e;obtain rfl:=gh f;obtain rfl:=rS g;obtain rfl:=gh h;rfl
structure ij where
 name:List Nat
 rW:Bool
 deriving DecidableEq,Inhabited
def ij.cs(a:ij):List T:=[.str a.name,.bool a.rW]
def ij.t(a:ij):T:= .agg a.cs
@[simp] theorem ij.ag (a:ij):qp a.t [.str a.name,.bool a.rW] 2:=by
 unfold ij.t ij.cs;exact⟨rfl,rfl,λ_ _=>rfl,rfl,by simp[jz],λ_=>by simp,λ_ _=>by simp,dp,dp⟩
@[simp] theorem ij.fold (a0:List Nat) (a1:Bool):T.agg [.str a0,.bool a1]=ij.t ⟨a0,a1⟩:=rfl
@[simp] theorem ij.eta (a:ij):ij.mk a.name a.rW=a:=rfl
def ij.inj{a b:ij}(c:a.t=b.t):a=b:=by
 rcases a with⟨_,_⟩;rcases b with⟨_,_⟩;simp only[ij.t,ij.cs,T.agg.injEq,aJ]at c;obtain⟨d,e,_⟩:=c;obtain rfl:=mp d;obtain rfl:=rS e;rfl
structure iB where
 name:List Nat
 ke:Int
 deriving DecidableEq,Inhabited
def iB.cs(a:iB):List T:=[.str a.name,dw a.ke]
def iB.t(a:iB):T:= .agg a.cs
@[simp] theorem iB.ag (a:iB):qp a.t [.str a.name,dw a.ke] 2:=by
 unfold iB.t iB.cs;exact⟨rfl,rfl,λ_ _=>rfl,rfl,by simp[jz],λ_=>by simp,λ_ _=>by simp,dp,dp⟩
@[simp] theorem iB.fold (a0:List Nat) (a1:Int):T.agg [.str a0,dw a1]=iB.t ⟨a0,a1⟩:=rfl
@[simp] theorem iB.eta (a:iB):iB.mk a.name a.ke=a:=rfl
def iB.inj{a b:iB}(c:a.t=b.t):a=b:=by
 rcases a with⟨_,_⟩;rcases b with⟨_,_⟩;simp only[iB.t,iB.cs,T.agg.injEq,aJ]at c;obtain⟨d,e,_⟩:=c;obtain rfl:=mp d;obtain rfl:=gh e;rfl
structure il where
 dN:Int
 stmt:Int
 uc:Int
 deriving DecidableEq,Inhabited
def il.cs(a:il):List T:=[dw a.dN,dw a.stmt,dw a.uc]
def il.t(a:il):T:= .agg a.cs
@[simp] theorem il.ag (a:il):qp a.t [dw a.dN,dw a.stmt,dw a.uc] 3:=by
 unfold il.t il.cs;exact⟨rfl,rfl,λ_ _=>rfl,rfl,by simp[jz],λ_=>by simp,λ_ _=>by simp,dp,dp⟩
@[simp] theorem il.fold (a0:Int) (a1:Int) (a2:Int):T.agg [dw a0,dw a1,dw a2]=il.t ⟨a0,a1,a2⟩:=rfl
@[simp] theorem il.eta (a:il):il.mk a.dN a.stmt a.uc=a:=rfl
def il.inj{a b:il}(c:a.t=b.t):a=b:=by
 rcases a with⟨_,_,_⟩;rcases b with⟨_,_,_⟩;simp only[il.t,il.cs,T.agg.injEq,aJ]at c;obtain⟨d,e,f,_⟩:=c;obtain rfl:=gh d;obtain rfl:=gh e;obtain rfl:=gh f;rfl
structure dR where
 cells:List fZ
 dV:List ij
 fV:List iB
 dT:List (List Nat)
 dB:List (List Nat)
 ik:List il
 deriving DecidableEq,Inhabited
def dR.cs(a:dR):List T:=[sl (a.cells.map fZ.t),sl (a.dV.map ij.t),sl (a.fV.map iB.t),sl (a.dT.map T.str),sl (a.dB.map T.str),sl (a.ik.map il.t)]
def dR.t(a:dR):T:= .agg a.cs
@[simp] theorem dR.ag (a:dR):qp a.t [sl (a.cells.map fZ.t),sl (a.dV.map ij.t),sl (a.fV.map iB.t),sl (a.dT.map T.str),sl (a.dB.map T.str),sl (a.ik.map il.t)] 6:=by
 unfold dR.t dR.cs;exact⟨rfl,rfl,λ_ _=>rfl,rfl,by simp[jz],λ_=>by simp,λ_ _=>by simp,dp,dp⟩
@[simp] theorem dR.fold (a0:List fZ) (a1:List ij) (a2:List iB) (a3:List (List Nat)) (a4:List (List Nat)) (a5:List il):T.agg [sl (a0.map fZ.t),sl (a1.map ij.t),sl (a2.map iB.t),sl (a3.map T.str),sl (a4.map T.str),sl (a5.map il.t)]=dR.t ⟨a0,a1,a2,a3,a4,a5⟩:=rfl
@[simp] theorem dR.eta (a:dR):dR.mk a.cells a.dV a.fV a.dT a.dB a.ik=a:=rfl
def dR.inj{a b:dR}(c:a.t=b.t):a=b:=by
 rcases a with⟨_,_,_,_,_,_⟩;rcases b with⟨_,_,_,_,_,_⟩;simp only[dR.t,dR.cs,T.agg.injEq,aJ]at c;obtain⟨d,e,f,g,h,i,_⟩:=c;obtain rfl:=gW (λ_ _=>fZ.inj) _ _ d;obtain rfl:=gW (λ_ _=>ij.inj) _ _ e;obtain rfl:=gW (λ_ _=>iB.inj) _ _ f;obtain rfl:=gW (λ_ _=>mp) _ _ g;obtain rfl:=gW (λ_ _=>mp) _ _ h;obtain rfl:=gW (λ_ _=>il.inj) _ _ i;rfl
structure dS where
 iF:Int
 d8:List Int
 deriving DecidableEq,Inhabited
def dS.cs(a:dS):List T:=[dw a.iF,sl (a.d8.map (T.int .i64))]
def dS.t(a:dS):T:= .agg a.cs
@[simp] theorem dS.ag (a:dS):qp a.t [dw a.iF,sl (a.d8.map (T.int .i64))] 2:=by
 unfold dS.t dS.cs;exact⟨rfl,rfl,λ_ _=>rfl,rfl,by simp[jz],λ_=>by simp,λ_ _=>by simp,dp,dp⟩
@[simp] theorem dS.fold (a0:Int) (a1:List Int):T.agg [dw a0,sl (a1.map (T.int .i64))]=dS.t ⟨a0,a1⟩:=rfl
@[simp] theorem dS.eta (a:dS):dS.mk a.iF a.d8=a:=rfl
def dS.inj{a b:dS}(c:a.t=b.t):a=b:=by
 rcases a with⟨_,_⟩;rcases b with⟨_,_⟩;simp only[dS.t,dS.cs,T.agg.injEq,aJ]at c;obtain⟨d,e,_⟩:=c;obtain rfl:=gh d;obtain rfl:=gW (λ_ _=>gh) _ _ e;rfl
structure dD where
 iv:Int
 cond:Int
 atomic:Bool
 deriving DecidableEq,Inhabited
def dD.cs(a:dD):List T:=[dw a.iv,dw a.cond,.bool a.atomic]
def dD.t(a:dD):T:= .agg a.cs
@[simp] theorem dD.ag (a:dD):qp a.t [dw a.iv,dw a.cond,.bool a.atomic] 3:=by
 unfold dD.t dD.cs;exact⟨rfl,rfl,λ_ _=>rfl,rfl,by simp[jz],λ_=>by simp,λ_ _=>by simp,dp,dp⟩
@[simp] theorem dD.fold (a0:Int) (a1:Int) (a2:Bool):T.agg [dw a0,dw a1,.bool a2]=dD.t ⟨a0,a1,a2⟩:=rfl
@[simp] theorem dD.eta (a:dD):dD.mk a.iv a.cond a.atomic=a:=rfl
def dD.inj{a b:dD}(c:a.t=b.t):a=b:=by
 rcases a with⟨_,_,_⟩;rcases b with⟨_,_,_⟩;simp only[dD.t,dD.cs,T.agg.injEq,aJ]at c;obtain⟨d,e,f,_⟩:=c;obtain rfl:=gh d;obtain rfl:=gh e;obtain rfl:=rS f;rfl
structure fg where
 dV:List dS
 tx:Int
 done:List Bool
 dB:List dD
 deriving DecidableEq,Inhabited
def fg.cs(a:fg):List T:=[sl (a.dV.map dS.t),dw a.tx,sl (a.done.map T.bool),sl (a.dB.map dD.t)]
def fg.t(a:fg):T:= .agg a.cs
@[simp] theorem fg.ag (a:fg):qp a.t [sl (a.dV.map dS.t),dw a.tx,sl (a.done.map T.bool),sl (a.dB.map dD.t)] 4:=by
 unfold fg.t fg.cs;exact⟨rfl,rfl,λ_ _=>rfl,rfl,by simp[jz],λ_=>by simp,λ_ _=>by simp,dp,dp⟩
@[simp] theorem fg.fold (a0:List dS) (a1:Int) (a2:List Bool) (a3:List dD):T.agg [sl (a0.map dS.t),dw a1,sl (a2.map T.bool),sl (a3.map dD.t)]=fg.t ⟨a0,a1,a2,a3⟩:=rfl
@[simp] theorem fg.eta (a:fg):fg.mk a.dV a.tx a.done a.dB=a:=rfl
def fg.inj{a b:fg}(c:a.t=b.t):a=b:=by
 rcases a with⟨_,_,_,_⟩;rcases b with⟨_,_,_,_⟩;simp only[fg.t,fg.cs,T.agg.injEq,aJ]at c;obtain⟨d,e,f,g,_⟩:=c;obtain rfl:=gW (λ_ _=>dS.inj) _ _ d;obtain rfl:=gh e;obtain rfl:=gW (λ_ _=>rS) _ _ f;obtain rfl:=gW (λ_ _=>dD.inj) _ _ g;rfl
structure dW where
 fx:fg
 cells:List Int
 dT:List Int
 count:List Int
 deriving DecidableEq,Inhabited
def dW.cs(a:dW):List T:=[sl (a.fx.dV.map dS.t),dw a.fx.tx,sl (a.fx.done.map T.bool),sl (a.fx.dB.map dD.t),sl (a.cells.map (T.int .i64)),sl (a.dT.map (T.int .i64)),sl (a.count.map (T.int .i64))]
def dW.t(a:dW):T:= .agg a.cs
@[simp] theorem dW.ag (a:dW):qp a.t [sl (a.fx.dV.map dS.t),dw a.fx.tx,sl (a.fx.done.map T.bool),sl (a.fx.dB.map dD.t),sl (a.cells.map (T.int .i64)),sl (a.dT.map (T.int .i64)),sl (a.count.map (T.int .i64))] 7:=by
 unfold dW.t dW.cs;exact⟨rfl,rfl,λ_ _=>rfl,rfl,by simp[jz],λ_=>by simp,λ_ _=>by simp,dp,dp⟩
@[simp] theorem dW.fold (a0:List dS) (a1:Int) (a2:List Bool) (a3:List dD) (a4:List Int) (a5:List Int) (a:List Int):T.agg [sl (a0.map dS.t),dw a1,sl (a2.map T.bool),sl (a3.map dD.t),sl (a4.map (T.int .i64)),sl (a5.map (T.int .i64)),sl (a.map (T.int .i64))]=dW.t ⟨⟨a0,a1,a2,a3⟩,a4,a5,a⟩:=rfl
@[simp] theorem dW.eta (a:dW):dW.mk a.fx a.cells a.dT a.count=a:=rfl
def dW.inj{a b:dW}(c:a.t=b.t):a=b:=by
 rcases a with⟨⟨_,_,_,_⟩,_,_,_⟩;rcases b with⟨⟨_,_,_,_⟩,_,_,_⟩;simp only[dW.t,dW.cs,T.agg.injEq,aJ]at c;obtain⟨d,e,f,g,h,i,j,_⟩:=c;obtain rfl:=gW (λ_ _=>dS.inj) _ _ d;obtain rfl:=gh e;obtain rfl:=gW (λ_ _=>rS) _ _ f;obtain rfl:=gW (λ_ _=>dD.inj) _ _ g;obtain rfl:=gW (λ_ _=>gh) _ _ h;obtain rfl:=gW (λ_ _=>gh) _ _ i;obtain rfl:=gW (λ_ _=>gh) _ _ j;rfl
structure dX where
 dN:Int
 kind:Int
 obj:Int
 value:Int
 iO:Int
 mf:List Int
 uz:List Int
 deriving DecidableEq,Inhabited
def dX.cs(a:dX):List T:=[dw a.dN,dw a.kind,dw a.obj,dw a.value,dw a.iO,sl (a.mf.map (T.int .i64)),sl (a.uz.map (T.int .i64))]
def dX.t(a:dX):T:= .agg a.cs
@[simp] theorem dX.ag (a:dX):qp a.t [dw a.dN,dw a.kind,dw a.obj,dw a.value,dw a.iO,sl (a.mf.map (T.int .i64)),sl (a.uz.map (T.int .i64))] 7:=by
 unfold dX.t dX.cs;exact⟨rfl,rfl,λ_ _=>rfl,rfl,by simp[jz],λ_=>by simp,λ_ _=>by simp,dp,dp⟩
@[simp] theorem dX.fold (a0:Int) (a1:Int) (a2:Int) (a3:Int) (a4:Int) (a5:List Int) (a:List Int):T.agg [dw a0,dw a1,dw a2,dw a3,dw a4,sl (a5.map (T.int .i64)),sl (a.map (T.int .i64))]=dX.t ⟨a0,a1,a2,a3,a4,a5,a⟩:=rfl
@[simp] theorem dX.eta (a:dX):dX.mk a.dN a.kind a.obj a.value a.iO a.mf a.uz=a:=rfl
def dX.inj{a b:dX}(c:a.t=b.t):a=b:=by
 rcases a with⟨_,_,_,_,_,_,_⟩;rcases b with⟨_,_,_,_,_,_,_⟩;simp only[dX.t,dX.cs,T.agg.injEq,aJ]at c;obtain⟨d,e,f,g,h,i,j,_⟩:=c;obtain rfl:=gh d;obtain rfl:=gh e;obtain rfl:=gh f;obtain rfl:=gh g;obtain rfl:=gh h;obtain rfl:=gW (λ_ _=>gh) _ _ i;obtain rfl:=gW (λ_ _=>gh) _ _ j;rfl
structure eK where
 ez:dR
 start:Int
 jG:dW
 dH:List dX
 deriving DecidableEq,Inhabited
def eK.cs(a:eK):List T:=[sl (a.ez.cells.map fZ.t),sl (a.ez.dV.map ij.t),sl (a.ez.fV.map iB.t),sl (a.ez.dT.map T.str),sl (a.ez.dB.map T.str),sl (a.ez.ik.map il.t),dw a.start,sl (a.jG.fx.dV.map dS.t),dw a.jG.fx.tx,sl (a.jG.fx.done.map T.bool),sl (a.jG.fx.dB.map dD.t),sl (a.jG.cells.map (T.int .i64)),sl (a.jG.dT.map (T.int .i64)),sl (a.jG.count.map (T.int .i64)),sl (a.dH.map dX.t)]
def eK.t(a:eK):T:= .agg a.cs
@[simp] theorem eK.ag (a:eK):qp a.t [sl (a.ez.cells.map fZ.t),sl (a.ez.dV.map ij.t),sl (a.ez.fV.map iB.t),sl (a.ez.dT.map T.str),sl (a.ez.dB.map T.str),sl (a.ez.ik.map il.t),dw a.start,sl (a.jG.fx.dV.map dS.t),dw a.jG.fx.tx,sl (a.jG.fx.done.map T.bool),sl (a.jG.fx.dB.map dD.t),sl (a.jG.cells.map (T.int .i64)),sl (a.jG.dT.map (T.int .i64)),sl (a.jG.count.map (T.int .i64)),sl (a.dH.map dX.t)] 15:=by
 unfold eK.t eK.cs;exact⟨rfl,rfl,λ_ _=>rfl,rfl,by simp[jz],λ_=>by simp,λ_ _=>by simp,dp,dp⟩
@[simp] theorem eK.fold (a0:List fZ) (a1:List ij) (a2:List iB) (a3:List (List Nat)) (a4:List (List Nat)) (a5:List il) (f:Int) (g:List dS) (h:Int) (i:List Bool) (a:List dD) (b:List Int) (c:List Int) (d:List Int) (e:List dX):T.agg [sl (a0.map fZ.t),sl (a1.map ij.t),sl (a2.map iB.t),sl (a3.map T.str),sl (a4.map T.str),sl (a5.map il.t),dw f,sl (g.map dS.t),dw h,sl (i.map T.bool),sl (a.map dD.t),sl (b.map (T.int .i64)),sl (c.map (T.int .i64)),sl (d.map (T.int .i64)),sl (e.map dX.t)]=eK.t ⟨⟨a0,a1,a2,a3,a4,a5⟩,f,⟨⟨g,h,i,a⟩,b,c,d⟩,e⟩:=rfl
@[simp] theorem eK.eta (a:eK):eK.mk a.ez a.start a.jG a.dH=a:=rfl
def eK.inj{a b:eK}(c:a.t=b.t):a=b:=by
 rcases a with⟨⟨_,_,_,_,_,_⟩,_,⟨⟨_,_,_,_⟩,_,_,_⟩,_⟩;rcases b with⟨⟨_,_,_,_,_,_⟩,_,⟨⟨_,_,_,_⟩,_,_,_⟩,_⟩;simp only[eK.t,eK.cs,T.agg.injEq,aJ]at c;obtain⟨d,e,k,l,m,n,o,p,q,r,f,g,h,i,j,_⟩:=c;obtain rfl:=gW (λ_ _=>fZ.inj) _ _ d;obtain rfl:=gW (λ_ _=>ij.inj) _ _ e;obtain rfl:=gW (λ_ _=>iB.inj) _ _ k;obtain rfl:=gW (λ_ _=>mp) _ _ l;obtain rfl:=gW (λ_ _=>mp) _ _ m;obtain rfl:=gW (λ_ _=>il.inj) _ _ n;obtain rfl:=gh o;obtain rfl:=gW (λ_ _=>dS.inj) _ _ p;obtain rfl:=gh q;obtain rfl:=gW (λ_ _=>rS) _ _ r;obtain rfl:=gW (λ_ _=>dD.inj) _ _ f;obtain rfl:=gW (λ_ _=>gh) _ _ g;obtain rfl:=gW (λ_ _=>gh) _ _ h;obtain rfl:=gW (λ_ _=>gh) _ _ i;obtain rfl:=gW (λ_ _=>dX.inj) _ _ j;rfl
structure jo where
 kind:Int
 a:Int
 b:Int
 c:Int
 d:Int
 kF:List Int
 deriving DecidableEq,Inhabited
def jo.cs(e:jo):List T:=[dw e.kind,dw e.a,dw e.b,dw e.c,dw e.d,sl (e.kF.map (T.int .i64))]
def jo.t(a:jo):T:= .agg a.cs
@[simp] theorem jo.ag (e:jo):qp e.t [dw e.kind,dw e.a,dw e.b,dw e.c,dw e.d,sl (e.kF.map (T.int .i64))] 6:=by
 unfold jo.t jo.cs;exact⟨rfl,rfl,λ_ _=>rfl,rfl,by simp[jz],λ_=>by simp,λ_ _=>by simp,dp,dp⟩
@[simp] theorem jo.fold (a0:Int) (a1:Int) (a2:Int) (a3:Int) (a4:Int) (a5:List Int):T.agg [dw a0,dw a1,dw a2,dw a3,dw a4,sl (a5.map (T.int .i64))]=jo.t ⟨a0,a1,a2,a3,a4,a5⟩:=rfl
@[simp] theorem jo.eta (e:jo):jo.mk e.kind e.a e.b e.c e.d e.kF=e:=rfl
def jo.inj{a b:jo}(c:a.t=b.t):a=b:=by
 rcases a with⟨_,_,_,_,_,_⟩;rcases b with⟨_,_,_,_,_,_⟩;simp only[jo.t,jo.cs,T.agg.injEq,aJ]at c;obtain⟨d,e,f,g,h,i,_⟩:=c;obtain rfl:=gh d;obtain rfl:=gh e;obtain rfl:=gh f;obtain rfl:=gh g;obtain rfl:=gh h;obtain rfl:=gW (λ_ _=>gh) _ _ i;rfl
structure jQ where
 ez:dR
 dH:List dX
 deriving DecidableEq,Inhabited
def jQ.cs(a:jQ):List T:=[sl (a.ez.cells.map fZ.t),sl (a.ez.dV.map ij.t),sl (a.ez.fV.map iB.t),sl (a.ez.dT.map T.str),sl (a.ez.dB.map T.str),sl (a.ez.ik.map il.t),sl (a.dH.map dX.t)]
def jQ.t(a:jQ):T:= .agg a.cs
@[simp] theorem jQ.ag (a:jQ):qp a.t [sl (a.ez.cells.map fZ.t),sl (a.ez.dV.map ij.t),sl (a.ez.fV.map iB.t),sl (a.ez.dT.map T.str),sl (a.ez.dB.map T.str),sl (a.ez.ik.map il.t),sl (a.dH.map dX.t)] 7:=by
 unfold jQ.t jQ.cs;exact⟨rfl,rfl,λ_ _=>rfl,rfl,by simp[jz],λ_=>by simp,λ_ _=>by simp,dp,dp⟩
@[simp] theorem jQ.fold (a0:List fZ) (a1:List ij) (a2:List iB) (a3:List (List Nat)) (a4:List (List Nat)) (a5:List il) (a:List dX):T.agg [sl (a0.map fZ.t),sl (a1.map ij.t),sl (a2.map iB.t),sl (a3.map T.str),sl (a4.map T.str),sl (a5.map il.t),sl (a.map dX.t)]=jQ.t ⟨⟨a0,a1,a2,a3,a4,a5⟩,a⟩:=rfl
@[simp] theorem jQ.eta (a:jQ):jQ.mk a.ez a.dH=a:=rfl
def jQ.inj{a b:jQ}(c:a.t=b.t):a=b:=by
 rcases a with⟨⟨_,_,_,_,_,_⟩,_⟩;rcases b with⟨⟨_,_,_,_,_,_⟩,_⟩;simp only[jQ.t,jQ.cs,T.agg.injEq,aJ]at c;obtain⟨d,e,f,g,h,i,j,_⟩:=c;obtain rfl:=gW (λ_ _=>fZ.inj) _ _ d;obtain rfl:=gW (λ_ _=>ij.inj) _ _ e;obtain rfl:=gW (λ_ _=>iB.inj) _ _ f;obtain rfl:=gW (λ_ _=>mp) _ _ g;obtain rfl:=gW (λ_ _=>mp) _ _ h;obtain rfl:=gW (λ_ _=>il.inj) _ _ i;obtain rfl:=gW (λ_ _=>dX.inj) _ _ j;rfl
structure fI where
 w:eK
 A5:List fg
 deriving DecidableEq,Inhabited
def fI.cs(a:fI):List T:=[sl (a.w.ez.cells.map fZ.t),sl (a.w.ez.dV.map ij.t),sl (a.w.ez.fV.map iB.t),sl (a.w.ez.dT.map T.str),sl (a.w.ez.dB.map T.str),sl (a.w.ez.ik.map il.t),dw a.w.start,sl (a.w.jG.fx.dV.map dS.t),dw a.w.jG.fx.tx,sl (a.w.jG.fx.done.map T.bool),sl (a.w.jG.fx.dB.map dD.t),sl (a.w.jG.cells.map (T.int .i64)),sl (a.w.jG.dT.map (T.int .i64)),sl (a.w.jG.count.map (T.int .i64)),sl (a.w.dH.map dX.t),sl (a.A5.map fg.t)]
def fI.t(a:fI):T:= .agg a.cs
@[simp] theorem fI.ag (a:fI):qp a.t [sl (a.w.ez.cells.map fZ.t),sl (a.w.ez.dV.map ij.t),sl (a.w.ez.fV.map iB.t),sl (a.w.ez.dT.map T.str),sl (a.w.ez.dB.map T.str),sl (a.w.ez.ik.map il.t),dw a.w.start,sl (a.w.jG.fx.dV.map dS.t),dw a.w.jG.fx.tx,sl (a.w.jG.fx.done.map T.bool),sl (a.w.jG.fx.dB.map dD.t),sl (a.w.jG.cells.map (T.int .i64)),sl (a.w.jG.dT.map (T.int .i64)),sl (a.w.jG.count.map (T.int .i64)),sl (a.w.dH.map dX.t),sl (a.A5.map fg.t)] 16:=by
 unfold fI.t fI.cs;exact⟨rfl,rfl,λ_ _=>rfl,rfl,by simp[jz],λ_=>by simp,λ_ _=>by simp,dp,dp⟩
@[simp] theorem fI.fold (a0:List fZ) (a1:List ij) (a2:List iB) (a3:List (List Nat)) (a4:List (List Nat)) (a5:List il) (g:Int) (h:List dS) (i:Int) (j:List Bool) (a:List dD) (b:List Int) (c:List Int) (d:List Int) (e:List dX) (f:List fg):T.agg [sl (a0.map fZ.t),sl (a1.map ij.t),sl (a2.map iB.t),sl (a3.map T.str),sl (a4.map T.str),sl (a5.map il.t),dw g,sl (h.map dS.t),dw i,sl (j.map T.bool),sl (a.map dD.t),sl (b.map (T.int .i64)),sl (c.map (T.int .i64)),sl (d.map (T.int .i64)),sl (e.map dX.t),sl (f.map fg.t)]=fI.t ⟨⟨⟨a0,a1,a2,a3,a4,a5⟩,g,⟨⟨h,i,j,a⟩,b,c,d⟩,e⟩,f⟩:=rfl
@[simp] theorem fI.eta (a:fI):fI.mk a.w a.A5=a:=rfl
def fI.inj{a b:fI}(c:a.t=b.t):a=b:=by
 rcases a with⟨⟨⟨_,_,_,_,_,_⟩,_,⟨⟨_,_,_,_⟩,_,_,_⟩,_⟩,_⟩;rcases b with⟨⟨⟨_,_,_,_,_,_⟩,_,⟨⟨_,_,_,_⟩,_,_,_⟩,_⟩,_⟩;simp only[fI.t,fI.cs,T.agg.injEq,aJ]at c;obtain⟨d,e,l,m,n,o,p,q,r,s,f,g,h,i,j,k,_⟩:=c;obtain rfl:=gW (λ_ _=>fZ.inj) _ _ d;obtain rfl:=gW (λ_ _=>ij.inj) _ _ e;obtain rfl:=gW (λ_ _=>iB.inj) _ _ l;obtain rfl:=gW (λ_ _=>mp) _ _ m;obtain rfl:=gW (λ_ _=>mp) _ _ n;obtain rfl:=gW (λ_ _=>il.inj) _ _ o;obtain rfl:=gh p;obtain rfl:=gW (λ_ _=>dS.inj) _ _ q;obtain rfl:=gh r;obtain rfl:=gW (λ_ _=>rS) _ _ s;obtain rfl:=gW (λ_ _=>dD.inj) _ _ f;obtain rfl:=gW (λ_ _=>gh) _ _ g;obtain rfl:=gW (λ_ _=>gh) _ _ h;obtain rfl:=gW (λ_ _=>gh) _ _ i;obtain rfl:=gW (λ_ _=>dX.inj) _ _ j;obtain rfl:=gW (λ_ _=>fg.inj) _ _ k;rfl
structure fF where
 op:Int
 a:Int
 b:Int
 c:Int
 n:Int
 iO:Int
 deriving DecidableEq,Inhabited
def fF.cs(d:fF):List T:=[dw d.op,dw d.a,dw d.b,dw d.c,dw d.n,dw d.iO]
def fF.t(a:fF):T:= .agg a.cs
@[simp] theorem fF.ag (d:fF):qp d.t [dw d.op,dw d.a,dw d.b,dw d.c,dw d.n,dw d.iO] 6:=by
 unfold fF.t fF.cs;exact⟨rfl,rfl,λ_ _=>rfl,rfl,by simp[jz],λ_=>by simp,λ_ _=>by simp,dp,dp⟩
@[simp] theorem fF.fold (a0:Int) (a1:Int) (a2:Int) (a3:Int) (a4:Int) (a5:Int):T.agg [dw a0,dw a1,dw a2,dw a3,dw a4,dw a5]=fF.t ⟨a0,a1,a2,a3,a4,a5⟩:=rfl
@[simp] theorem fF.eta (d:fF):fF.mk d.op d.a d.b d.c d.n d.iO=d:=rfl
def fF.inj{a b:fF}(c:a.t=b.t):a=b:=by
 rcases a with⟨_,_,_,_,_,_⟩;rcases b with⟨_,_,_,_,_,_⟩;simp only[fF.t,fF.cs,T.agg.injEq,aJ]at c;obtain⟨d,e,f,g,h,i,_⟩:=c;obtain rfl:=gh d;obtain rfl:=gh e;obtain rfl:=gh f;obtain rfl:=gh g;obtain rfl:=gh h;obtain rfl:=gh i;rfl
structure fM where
 iA:Int
 iS:List fF
 deriving DecidableEq,Inhabited
def fM.cs(a:fM):List T:=[dw a.iA,sl (a.iS.map fF.t)]
def fM.t(a:fM):T:= .agg a.cs
@[simp] theorem fM.ag (a:fM):qp a.t [dw a.iA,sl (a.iS.map fF.t)] 2:=by
 unfold fM.t fM.cs;exact⟨rfl,rfl,λ_ _=>rfl,rfl,by simp[jz],λ_=>by simp,λ_ _=>by simp,dp,dp⟩
@[simp] theorem fM.fold (a0:Int) (a1:List fF):T.agg [dw a0,sl (a1.map fF.t)]=fM.t ⟨a0,a1⟩:=rfl
@[simp] theorem fM.eta (a:fM):fM.mk a.iA a.iS=a:=rfl
def fM.inj{a b:fM}(c:a.t=b.t):a=b:=by
 rcases a with⟨_,_⟩;rcases b with⟨_,_⟩;simp only[fM.t,fM.cs,T.agg.injEq,aJ]at c;obtain⟨d,e,_⟩:=c;obtain rfl:=gh d;obtain rfl:=gW (λ_ _=>fF.inj) _ _ e;rfl
structure jv where
 ez:dR
 dB:List fM
 deriving DecidableEq,Inhabited
def jv.cs(a:jv):List T:=[sl (a.ez.cells.map fZ.t),sl (a.ez.dV.map ij.t),sl (a.ez.fV.map iB.t),sl (a.ez.dT.map T.str),sl (a.ez.dB.map T.str),sl (a.ez.ik.map il.t),sl (a.dB.map fM.t)]
def jv.t(a:jv):T:= .agg a.cs
@[simp] theorem jv.ag (a:jv):qp a.t [sl (a.ez.cells.map fZ.t),sl (a.ez.dV.map ij.t),sl (a.ez.fV.map iB.t),sl (a.ez.dT.map T.str),sl (a.ez.dB.map T.str),sl (a.ez.ik.map il.t),sl (a.dB.map fM.t)] 7:=by
 unfold jv.t jv.cs;exact⟨rfl,rfl,λ_ _=>rfl,rfl,by simp[jz],λ_=>by simp,λ_ _=>by simp,dp,dp⟩
@[simp] theorem jv.fold (a0:List fZ) (a1:List ij) (a2:List iB) (a3:List (List Nat)) (a4:List (List Nat)) (a5:List il) (a:List fM):T.agg [sl (a0.map fZ.t),sl (a1.map ij.t),sl (a2.map iB.t),sl (a3.map T.str),sl (a4.map T.str),sl (a5.map il.t),sl (a.map fM.t)]=jv.t ⟨⟨a0,a1,a2,a3,a4,a5⟩,a⟩:=rfl
@[simp] theorem jv.eta (a:jv):jv.mk a.ez a.dB=a:=rfl
def jv.inj{a b:jv}(c:a.t=b.t):a=b:=by
 rcases a with⟨⟨_,_,_,_,_,_⟩,_⟩;rcases b with⟨⟨_,_,_,_,_,_⟩,_⟩;simp only[jv.t,jv.cs,T.agg.injEq,aJ]at c;obtain⟨d,e,f,g,h,i,j,_⟩:=c;obtain rfl:=gW (λ_ _=>fZ.inj) _ _ d;obtain rfl:=gW (λ_ _=>ij.inj) _ _ e;obtain rfl:=gW (λ_ _=>iB.inj) _ _ f;obtain rfl:=gW (λ_ _=>mp) _ _ g;obtain rfl:=gW (λ_ _=>mp) _ _ h;obtain rfl:=gW (λ_ _=>il.inj) _ _ i;obtain rfl:=gW (λ_ _=>fM.inj) _ _ j;rfl
structure dZ where
 pC:Int
 iA:List Int
 jN:List (List Int)
 dH:Int
 deriving DecidableEq,Inhabited
def dZ.cs(a:dZ):List T:=[dw a.pC,sl (a.iA.map (T.int .i64)),sl (a.jN.map (λb=>sl (b.map (T.int .i64)))),dw a.dH]
def dZ.t(a:dZ):T:= .agg a.cs
@[simp] theorem dZ.ag (a:dZ):qp a.t [dw a.pC,sl (a.iA.map (T.int .i64)),sl (a.jN.map (λb=>sl (b.map (T.int .i64)))),dw a.dH] 4:=by
 unfold dZ.t dZ.cs;exact⟨rfl,rfl,λ_ _=>rfl,rfl,by simp[jz],λ_=>by simp,λ_ _=>by simp,dp,dp⟩
@[simp] theorem dZ.fold (a0:Int) (a1:List Int) (a2:List (List Int)) (a3:Int):T.agg [dw a0,sl (a1.map (T.int .i64)),sl (a2.map (λa=>sl (a.map (T.int .i64)))),dw a3]=dZ.t ⟨a0,a1,a2,a3⟩:=rfl
@[simp] theorem dZ.eta (a:dZ):dZ.mk a.pC a.iA a.jN a.dH=a:=rfl
def dZ.inj{a b:dZ}(c:a.t=b.t):a=b:=by
 rcases a with⟨_,_,_,_⟩;rcases b with⟨_,_,_,_⟩;simp only[dZ.t,dZ.cs,T.agg.injEq,aJ]at c;obtain⟨d,e,f,g,_⟩:=c;obtain rfl:=gh d;obtain rfl:=gW (λ_ _=>gh) _ _ e;obtain rfl:=gW (gW (λ_ _=>gh)) _ _ f;obtain rfl:=gh g;rfl
structure iu where
 fx:fg
 cells:List Int
 dT:List Int
 dB:List dZ
 deriving DecidableEq,Inhabited
def iu.cs(a:iu):List T:=[sl (a.fx.dV.map dS.t),dw a.fx.tx,sl (a.fx.done.map T.bool),sl (a.fx.dB.map dD.t),sl (a.cells.map (T.int .i64)),sl (a.dT.map (T.int .i64)),sl (a.dB.map dZ.t)]
def iu.t(a:iu):T:= .agg a.cs
@[simp] theorem iu.ag (a:iu):qp a.t [sl (a.fx.dV.map dS.t),dw a.fx.tx,sl (a.fx.done.map T.bool),sl (a.fx.dB.map dD.t),sl (a.cells.map (T.int .i64)),sl (a.dT.map (T.int .i64)),sl (a.dB.map dZ.t)] 7:=by
 unfold iu.t iu.cs;exact⟨rfl,rfl,λ_ _=>rfl,rfl,by simp[jz],λ_=>by simp,λ_ _=>by simp,dp,dp⟩
@[simp] theorem iu.fold (a0:List dS) (a1:Int) (a2:List Bool) (a3:List dD) (a4:List Int) (a5:List Int) (a:List dZ):T.agg [sl (a0.map dS.t),dw a1,sl (a2.map T.bool),sl (a3.map dD.t),sl (a4.map (T.int .i64)),sl (a5.map (T.int .i64)),sl (a.map dZ.t)]=iu.t ⟨⟨a0,a1,a2,a3⟩,a4,a5,a⟩:=rfl
@[simp] theorem iu.eta (a:iu):iu.mk a.fx a.cells a.dT a.dB=a:=rfl
def iu.inj{a b:iu}(c:a.t=b.t):a=b:=by
 rcases a with⟨⟨_,_,_,_⟩,_,_,_⟩;rcases b with⟨⟨_,_,_,_⟩,_,_,_⟩;simp only[iu.t,iu.cs,T.agg.injEq,aJ]at c;obtain⟨d,e,f,g,h,i,j,_⟩:=c;obtain rfl:=gW (λ_ _=>dS.inj) _ _ d;obtain rfl:=gh e;obtain rfl:=gW (λ_ _=>rS) _ _ f;obtain rfl:=gW (λ_ _=>dD.inj) _ _ g;obtain rfl:=gW (λ_ _=>gh) _ _ h;obtain rfl:=gW (λ_ _=>gh) _ _ i;obtain rfl:=gW (λ_ _=>dZ.inj) _ _ j;rfl
structure iN where
 dN:Int
 El:Int
 deriving DecidableEq,Inhabited
def iN.cs(a:iN):List T:=[dw a.dN,dw a.El]
def iN.t(a:iN):T:= .agg a.cs
@[simp] theorem iN.ag (a:iN):qp a.t [dw a.dN,dw a.El] 2:=by
 unfold iN.t iN.cs;exact⟨rfl,rfl,λ_ _=>rfl,rfl,by simp[jz],λ_=>by simp,λ_ _=>by simp,dp,dp⟩
@[simp] theorem iN.fold (a0:Int) (a1:Int):T.agg [dw a0,dw a1]=iN.t ⟨a0,a1⟩:=rfl
@[simp] theorem iN.eta (a:iN):iN.mk a.dN a.El=a:=rfl
def iN.inj{a b:iN}(c:a.t=b.t):a=b:=by
 rcases a with⟨_,_⟩;rcases b with⟨_,_⟩;simp only[iN.t,iN.cs,T.agg.injEq,aJ]at c;obtain⟨d,e,_⟩:=c;obtain rfl:=gh d;obtain rfl:=gh e;rfl
structure gG where
 kind:Int
 uc:Int
 name:List Nat
 size:Int
 jG:Int
 on:List Nat
 deriving DecidableEq,Inhabited
def gG.cs(a:gG):List T:=[dw a.kind,dw a.uc,.str a.name,dw a.size,dw a.jG,.str a.on]
def gG.t(a:gG):T:= .agg a.cs
@[simp] theorem gG.ag (a:gG):qp a.t [dw a.kind,dw a.uc,.str a.name,dw a.size,dw a.jG,.str a.on] 6:=by
 unfold gG.t gG.cs;exact⟨rfl,rfl,λ_ _=>rfl,rfl,by simp[jz],λ_=>by simp,λ_ _=>by simp,dp,dp⟩
@[simp] theorem gG.fold (a0:Int) (a1:Int) (a2:List Nat) (a3:Int) (a4:Int) (a5:List Nat):T.agg [dw a0,dw a1,.str a2,dw a3,dw a4,.str a5]=gG.t ⟨a0,a1,a2,a3,a4,a5⟩:=rfl
@[simp] theorem gG.eta (a:gG):gG.mk a.kind a.uc a.name a.size a.jG a.on=a:=rfl
def gG.inj{a b:gG}(c:a.t=b.t):a=b:=by
 rcases a with⟨_,_,_,_,_,_⟩;rcases b with⟨_,_,_,_,_,_⟩;simp only[gG.t,gG.cs,T.agg.injEq,aJ]at c;obtain⟨d,e,f,g,h,i,_⟩:=c;obtain rfl:=gh d;obtain rfl:=gh e;obtain rfl:=mp f;obtain rfl:=gh g;obtain rfl:=gh h;obtain rfl:=mp i;rfl
def iP(a:Int)(b:Nat):Bool:=decide (0<=a/\a<b)
def wG{b:Type}(c:List b)(a:Int):aa b:=if 0<=a then c[a.toNat]? else none
def ff{a:Int}{b:Nat}:iP a b=true↔0<=a/\a.toNat<b:=by unfold iP;simp;omega
def D2{a:Int}{c:Nat}(b:iP a c=false):¬(0<=a/\a.toNat<c):=λd=>by rw[ff.2 d]at b;simp at b
def im{g:Type}{b:List g}{a:Int}(e:iP a b.length=true):∃d,b[a.toNat]? =some d/\wG b a=some d:=by
 obtain⟨f,c⟩:=ff.1 e;exact⟨b[a.toNat],by simp[c],by simp[wG,f,c]⟩
def ql{d:Type}{b:List d}{a:Int}(c:iP a b.length=false):wG b a=none:=by
 have:=D2 c;unfold wG;split
 ·simp;omega
 ·rfl
def ml(a:dR)(b:fg):Bool:=(a.fV.all λc=>iP c.ke a.dV.length)&&decide (b.dV.length=a.dV.length)&&decide (b.done.length=a.dT.length)&&decide (b.dB.length=a.dB.length)
def jy(c:dR)(a b:Int):Bool:=
 if a=1\/a=2\/a=5\/a=12\/a=13\/a=14\/a=15 then decide (b=-1)
 else if a=3\/a=4 then iP b c.cells.length
 else if a=6\/a=7 then(match wG c.dV b with|some d=> !d.rW|none=>false)
 else if a=8\/a=9\/a=10\/a=11 then(match wG c.dV b with|some d=>d.rW|none=>false)
 else if a=16\/a=17\/a=18\/a=19 then iP b c.fV.length
 else if a=20\/a=21 then iP b c.dB.length
 else if a=22\/a=23 then iP b c.dT.length
 else false
def gU(a:Int):List dD->Nat->List Int
 | [],_=>[]
 |t::c,b=>if t.iv=3/\t.cond=a then(b:Int)::gU a c (b+1)else gU a c (b+1)
def ma(b:fg)(a:Int):dS:=(wG b.dV a).getD default
def o6(b:fg)(a:Int):dD:=(wG b.dB a).getD default
def qY(c:dR)(b:fg)(a:Int):dS:=ma b ((wG c.fV a).getD default).ke
def Cc(b:fg)(a:Int):Bool:=(wG b.done a).getD false
def AQ(e:dR)(a:fg)(d b c:Int):Bool:=
 if b=1 then decide ((o6 a d).iv=1)
 else if b=17 then decide ((o6 a d).iv=4)&&decide ((o6 a d).cond=c)&&decide ((qY e a c).iF=-1)
 else if¬(o6 a d).iv=2 then false
 else if b=6 then decide ((ma a c).iF=-1)
 else if b=10 then decide ((ma a c).iF=-1)&&decide ((ma a c).d8=[])
 else if b=8 then decide ((ma a c).iF=-1)&& !decide (d∈(ma a c).d8)
 else if b=7\/b=11 then decide ((ma a c).iF=d)
 else if b=9 then decide (d∈(ma a c).d8)
 else if b=12 then decide (a.tx=-1)
 else if b=13 then decide (a.tx=d)
 else if b=14 then !(o6 a d).atomic
 else if b=15 then(o6 a d).atomic
 else if b=16\/b=18\/b=19 then decide ((qY e a c).iF=d)
 else if b=20 then !decide (c=d)&&decide ((o6 a c).iv=0)
 else if b=21 then !decide (c=d)&&decide ((o6 a c).iv=5)
 else if b=22 then !Cc a c
 else if b=23 then Cc a c
 else true
def jI(a:dR)(d:fg)(e b c:Int):Bool:=ml a d&&iP e a.dB.length&&jy a b c&&AQ a d e b c
def nK{c:dR}{b:fg}(a:ml c b=true):b.dV.length=c.dV.length/\b.done.length=c.dT.length/\b.dB.length=c.dB.length:=by
 unfold ml at a;simp at a;exact⟨a.1.1.2,a.1.2,a.2⟩
def qW{c:dR}{f:fg}(b:ml c f=true){e:Nat}{a:iB}(d:c.fV[e]? =some a):iP a.ke c.dV.length=true:=by
 unfold ml at b;simp at b;exact b.1.1.1 a (ax d)
def ta{d:dR}{a c:Int}(b:jy d a c=true):a=1\/a=2\/a=3\/a=4\/a=5\/a=12\/a=13\/a=14\/a=15\/(a=6\/a=7\/a=8\/a=9\/a=10\/a=11)\/(a=16\/a=17\/a=18\/a=19)\/(a=20\/a=21)\/(a=22\/a=23):=by
 by_cases e:1<=a/\a<=23
 ·omega
 ·exfalso;unfold jy at b;rw[ao dj,ao dj,ao dj,ao dj,ao dj,ao dj,ao dj]at b;simp at b
def kw{d:dR}{a c:Int}(b:jy d a c=true)(e:a=6\/a=7\/a=8\/a=9\/a=10\/a=11):iP c d.dV.length=true:=by
 cases hl:iP c d.dV.length with
 |true=>rfl
 |false=>
  unfold jy at b;rw[ao dj,ao dj]at b;rcases e with rfl|rfl|rfl|rfl|rfl|rfl<;>simp[ql hl]at b
def ny{d:dR}{a c:Int}(b:jy d a c=true)(e:a=16\/a=17\/a=18\/a=19):iP c d.fV.length=true:=by
 unfold jy at b;rwa[ao dj,ao dj,ao dj,ao dj,aq e]at b
def vP{d:dR}{a c:Int}(b:jy d a c=true)(e:a=20\/a=21):iP c d.dB.length=true:=by
 unfold jy at b;rwa[ao dj,ao dj,ao dj,ao dj,ao dj,aq e]at b
def qu{d:dR}{a c:Int}(b:jy d a c=true)(e:a=22\/a=23):iP c d.dT.length=true:=by
 unfold jy at b;rwa[ao dj,ao dj,ao dj,ao dj,ao dj,ao dj,aq e]at b
def fg.sm(a:fg):Prop:=a.dV.length<=1099511627776/\a.done.length<=1099511627776/\a.dB.length<=1099511627776/\∀b∈a.dV,b.d8.length<=1000000000000
def fg.ox(a:fg)(i:Int)(b:dD->dD):fg:={a with dB:=a.dB.modify i.toNat b}
def fg.pK(a:fg)(c:Int)(b:dS->dS):fg:={a with dV:=a.dV.modify c.toNat b}
def j7(a:Int)(b:dD):dD:={b with iv:=a}
def lx:List Int->Int->List Int
 | [],a=>[a]
 |x::b,a=>if x<a then x::lx b a else if x=a then x::b else a::x::b
def xw(a c:Int)(b:List dD):Int:=if c∈gU a b 0 then c else(gU a b 0).headD (-1)
def em(g:dR)(a:fg)(f b c h:Int):fg×Int:=
 if b=1 then(a.ox f (j7 2),0)
 else if b=2 then(a.ox f (j7 5),0)
 else if b=6\/b=10 then(a.pK c λd=>{d with iF:=f},0)
 else if b=7\/b=11 then(a.pK c λd=>{d with iF:=-1},0)
 else if b=8 then(a.pK c λd=>{d with d8:=lx d.d8 f},0)
 else if b=9 then(a.pK c λd=>{d with d8:=d.d8.filter λi=> !decide (i=f)},0)
 else if b=12 then({a with tx:=f},0)
 else if b=13 then({a with tx:=-1},0)
 else if b=14 then(a.ox f λe=>{e with atomic:=true},0)
 else if b=15 then(a.ox f λe=>{e with atomic:=false},0)
 else if b=16 then((a.pK ((wG g.fV c).getD default).ke λd=>{d with iF:=-1}).ox f λe=>{e with iv:=3,cond:=c},0)
 else if b=17 then((a.pK ((wG g.fV c).getD default).ke λd=>{d with iF:=f}).ox f λe=>{e with iv:=2,cond:=0},0)
 else if b=18 then(if gU c a.dB 0=[]then(a,-1)else(a.ox (xw c h a.dB) (j7 4),xw c h a.dB))
 else if b=19 then({a with dB:=a.dB.map λe=>if e.iv=3/\e.cond=c then j7 4 e else e},(gU c a.dB 0).length)
 else if b=20 then(a.ox c (j7 1),0)
 else if b=22 then({a with done:=a.done.set c.toNat true},0)
 else(a,0)
def HG(a:List Int):Prop:=a.Pairwise (· < ·)
def fg.Ee(b:fg):Prop:=∀a∈b.dV,HG a.d8
def BN{a:List Int}{c b:Int}(h:b∈lx a c):b∈a\/b=c:=by
 induction a with
 |nil=>simp[lx]at h;exact .inr h
 |cons e a d=>
  unfold lx at h;split at h
  ·rcases List.mem_cons.1 h with rfl|h
   ·exact .inl dp
   ·rcases d h with h|h
    ·exact .inl (by simp[h])
    ·exact .inr h
  ·split at h
   ·exact .inl h
   ·rcases List.mem_cons.1 h with rfl|h
    ·exact .inr rfl
    ·exact .inl h
def BO{b:List Int}(a:HG b)(e:Int):HG (lx b e):=by
 induction b with
 |nil=>simp[lx,HG]
 |cons f b d=>
  unfold HG at*
  rw[dc]at a;unfold lx;split
  ·rw[dc];refine⟨λc hx=> ?_,d a.2⟩;rcases BN hx with hx|rfl
   ·exact a.1 c hx
   ·assumption
  ·split
   ·rw[dc];exact a
   ·rw[dc,dc];refine⟨λc hx=> ?_,a⟩;rcases List.mem_cons.1 hx with rfl|hx
    ·omega
    ·have:=a.1 c hx;omega
def GS(a:List Int)(b:Int):(lx a b).length<=a.length+1:=by
 induction a with
 |nil=>simp[lx]
 |cons d a c=>unfold lx;split<;>(try split)<;>simp<;>omega
def mem_modify{c:Type}{b:List c}{i:Nat}{g:c->c}{e:c}(h:e∈b.modify i g):e∈b\/∃f∈b,e=g f:=by
 obtain⟨j,a⟩:=List.mem_iff_getElem?.1 h;rw[List.getElem?_modify]at a;split at a
 ·cases d:b[j]? with
  |none=>rw[d]at a;simp at a
  |some f=>rw[d]at a;simp at a;exact .inr ⟨f,ax d,a.symm⟩
 ·exact .inl (ax (by simpa using a))
def QX{b:fg}(d:b.Ee){h:Int}{c:dS->dS}(f:∀a∈b.dV,HG (c a).d8):(b.pK h c).Ee:=by
 intro a hl;rcases mem_modify hl with e|⟨i,g,rfl⟩
 ·exact d a e
 ·exact f i g
def pw{e:Type}(b:e->Prop){a:Prop} [Decidable a]{c d:e}(f:a->b c)(g:¬a->b d):b (if a then c else d):=by
 split
 ·exact f (by assumption)
 ·exact g (by assumption)
def un{P:fg×Int->Prop}{p:dR}{b:fg}{e m g q:Int}(p0:P (b,0))(p1:P (b,-1))(pt:∀h c d,P (b.ox h c,d))(f:∀h c,(∀a,(c a).d8=a.d8\/(c a).d8=lx a.d8 e\/(c a).d8=a.d8.filter λi=> !decide (i=e))->P (b.pK h c,0)/\∀l k,P ((b.pK h c).ox l k,0))
 (j:∀d,P ({b with tx:=d},0)) (o:∀c d,P ({b with dB:=b.dB.map c},d)) (n:∀d,P ({b with done:=b.done.set d true},0)):P (em p b e m g q):=by
 unfold em;refine pw P (λ_=>pt _ _ _) λ_=> ?_;refine pw P (λ_=>pt _ _ _) λ_=> ?_;refine pw P (λ_=>(f g (λa=>{a with iF:=e}) λ_=> .inl rfl).1) λ_=> ?_;refine pw P (λ_=>(f g (λa=>{a with iF:=-1}) λ_=> .inl rfl).1) λ_=> ?_;refine pw P (λ_=>(f g (λa=>{a with d8:=lx a.d8 e}) λ_=> .inr (.inl rfl)).1) λ_=> ?_;refine pw P (λ_=>(f g (λa=>{a with d8:=a.d8.filter λi=> !decide (i=e)}) λ_=> .inr (.inr rfl)).1) λ_=> ?_;refine pw P (λ_=>j _) λ_=> ?_;refine pw P (λ_=>j _) λ_=> ?_;refine pw P (λ_=>pt _ _ _) λ_=> ?_;refine pw P (λ_=>pt _ _ _) λ_=> ?_;refine pw P (λ_=>(f _ (λa=>{a with iF:=-1}) λ_=> .inl rfl).2 _ _) λ_=> ?_;refine pw P (λ_=>(f _ (λa=>{a with iF:=e}) λ_=> .inl rfl).2 _ _) λ_=> ?_;refine pw P (λ_=>pw P (λ_=>p1) λ_=>pt _ _ _) λ_=> ?_;refine pw P (λ_=>o _ _) λ_=> ?_;refine pw P (λ_=>pt _ _ _) λ_=> ?_;exact pw P (λ_=>n _) λ_=>p0
def xq{i:fg}(b:i.Ee)(m:dR)(g k l n:Int):(em m i g k l n).1.Ee:=by
 have j:∀(d:Int) (c:dS->dS),(∀a,(c a).d8=a.d8\/(c a).d8=lx a.d8 g\/(c a).d8=a.d8.filter λh=> !decide (h=g))->(i.pK d c).Ee:=λd c f=>QX b λa hl=>by
  rcases f a with e|e|e<;>rw[e]
  ·exact b a hl
  ·exact BO (b a hl) g
  ·exact(b a hl).filter _
 exact un (P:=λh=>h.1.Ee) b b (λ_ _ _=>b) (λd c f=>⟨j d c f,λ_ _=>j d c f⟩) (λ_=>b) (λ_ _=>b) (λ_=>b)
def xp(f:dR)(a:fg)(e b c g:Int):(em f a e b c g).1.dV.length=a.dV.length/\(em f a e b c g).1.done.length=a.done.length/\(em f a e b c g).1.dB.length=a.dB.length:=
 un (P:=λd=>d.1.dV.length=a.dV.length/\d.1.done.length=a.done.length/\d.1.dB.length=a.dB.length) ⟨rfl,rfl,rfl⟩ ⟨rfl,rfl,rfl⟩ (λ_ _ _=>by simp[fg.ox]) (λ_ _ _=>by simp[fg.ox,fg.pK]) (λ_=>⟨rfl,rfl,rfl⟩) (λ_ _=>by simp) (λ_=>by simp)
def Ly{a:List Int}{b:Int}(d:∀c∈a,c<b):lx a b=a++[b]:=by
 induction a with
 |nil=>rfl
 |cons g a f=>unfold lx;rw[aq (d g dp),f λc e=>d c (by simp[e])];rfl
def Lz:∀(b a:List Int),HG (a++b)->b.foldl lx a=a++b:=by
 intro b;induction b with
 |nil=>intro a _;simp
 |cons c b h=>
  intro a e;have f:∀d∈a,d<c:=λd g=>(List.pairwise_append.1 e).2.2 d g c dp;rw[List.foldl_cons,Ly f,h (a++[c]) (by simpa using e)];simp
def KH{a:List Int}(c:HG a)(b:Int): [b].foldl lx (a.foldl lx [])=lx a b:=by
 rw[Lz a [] (by simpa using c)];rfl
def mQ(b:dR)(a:dW):Bool:=ml b a.fx&&decide (a.cells.length=b.cells.length)&&decide (a.dT.length=b.dT.length)&&decide (a.count.length=b.dB.length)
def w7(b:Int):aa Int->List Int->Bool
 |_,[]=>true
 |p,a::c=> !(decide (a<1))&& !(decide (b<=a))&&(match p with|some d=> !(decide (a<=d))|none=>true)&&w7 b (some a) c
def nh(b:dW)(a:dX):Bool:=
 if a.kind=3 then(match wG b.cells a.obj with|some c=>decide (a.value=c)|none=>false)
 else if a.kind=23 then(match wG b.dT a.obj with|some c=>decide (a.value=c)|none=>false)
 else if a.kind=5 then decide (a.value=0)||decide (a.value=1)
 else if a.kind=4\/a.kind=22 then true
 else if a.kind=18 then(if gU a.obj b.fx.dB 0=[]then decide (a.value=-1)else decide (0<=a.value)&&decide (a.value<b.fx.dB.length)&&decide (a.value∈gU a.obj b.fx.dB 0))
 else if a.kind=19 then decide (a.value=(gU a.obj b.fx.dB 0).length)
 else decide (a.value=0)
def zJ(d c:Int):List dX->Nat->Bool->Bool
 | [],_,a=>a
 |e::f,b,a=>if e.dN=d then zJ d c f (b+1) (a||(decide ((b:Int)=c)&&(decide (e.kind=3)||decide (e.kind=23))))else zJ d c f b a
def uM(a:List dX)(d:Int)(c:List Int):Bool:=c.all λb=>zJ d b a 0 false
def KF(c:Int):∀(a:List dD) (b:Nat),(gU c a b).length<=a.length:=by
 intro a;induction a with
 |nil=>intro b;simp[gU]
 |cons e a d=>intro b;rw[gU];have:=d (b+1);split<;>simp<;>omega
def vj(a:dX):Bool:=decide (a.kind=3)||decide (a.kind=4)
def kc(a b:dX):Bool:=vj a&&vj b&&decide (a.obj=b.obj)&&(decide (a.kind=4)||decide (b.kind=4))
def pH(a:Int):Bool:=decide (a=6)||decide (a=8)||decide (a=10)||decide (a=17)||decide (a=21)
def qj(b:List dX)(a:Int):dX:=(wG b a).getD default
structure GX where
 w:dR
 ev:List dX
 st:List fg
def GX.e(b:GX)(a:Int):dX:=qj b.ev a
def GX.s(b:GX)(a:Int):fg:=(wG b.st a).getD default
def GX.Tj(d:GX)(a b:Int)(c:dX->Bool):Bool:=((d.ev.drop a.toNat).take (b-a).toNat).all c
def GX.rD(a:GX)(c b:Int):Bool:=
 if(a.e b).dN=(a.e c).dN then false
 else if(a.e b).kind=6\/(a.e b).kind=10 then decide ((ma (a.s c) (a.e b).obj).iF=(a.e c).dN)||decide ((a.e c).dN∈(ma (a.s c) (a.e b).obj).d8)
 else if(a.e b).kind=8 then decide ((ma (a.s c) (a.e b).obj).iF=(a.e c).dN)
 else if(a.e b).kind=17 then decide ((qY a.w (a.s c) (a.e b).obj).iF=(a.e c).dN)
 else if(a.e b).kind=21 then decide ((a.e b).obj=(a.e c).dN)
 else false
def GX.vf(b:GX)(a c:Int):Bool:=pH (b.e a).kind&&b.rD a c
def GX.LT{b:GX}{j a:Int}(c:b.rD j a=true):pH (b.e a).kind=true:=by
 unfold GX.rD at c;unfold pH;by_cases h:(b.e a).kind=6
 ·simp[h]
 by_cases d:(b.e a).kind=10
 ·simp[d]
 by_cases i:(b.e a).kind=8
 ·simp[i]
 by_cases f:(b.e a).kind=17
 ·simp[f]
 by_cases g:(b.e a).kind=21
 ·simp[g]
 simp[h,d,i,f,g]at c
def GX.Mf(c:GX)(d:Int->Int->Bool)(a:List Int):Bool:=
 decide (2<=a.length)&&decide (a.length<=4)&&(a.all λb=>iP b c.ev.length)&&(List.range a.length).all λb=>
  !decide (a.getD b 0<a.getD 0 0)&&d (a.getD ((b+1)% a.length) 0) (a.getD b 0)&&(List.range b).all λf=> !decide ((c.e (a.getD b 0)).dN=(c.e (a.getD f 0)).dN)
def GX.U1(e:GX)(d:List Int):e.Mf e.vf d=e.Mf e.rD d:=by
 unfold GX.Mf;by_cases hl:2<=d.length;rotate_left
 ·simp[hl]
 congr 1;rw[bD,cD,cD];constructor
 ·intro a c f;have:=a c f;simp only[aB,GX.vf]at this|-;exact⟨⟨this.1.1,this.1.2.2⟩,this.2⟩
 ·intro a c f;have b:=a c f;have g:=a ((c+1)% d.length) (by rw[List.mem_range];exact Nat.mod_lt _ dj);simp only[aB,GX.vf]at b g|-;exact⟨⟨b.1.1,GX.LT g.1.2,b.1.2⟩,b.2⟩
def GX.dead(g:GX)(f:Int->Int->Bool)(e:jo):Bool:=decide (e.a=0)&&decide (e.b=0)&&decide (e.c=0)&&decide (e.d=0)&&g.Mf f e.kF
def GX.Qp(a:GX)(b c:Int):Bool:=decide (b<c)&& !decide ((a.e b).dN=(a.e c).dN)&&kc (a.e b) (a.e c)&& !((wG a.w.cells (a.e b).obj).getD default).sq
def GX.PZ(a:GX)(b c:Int):Bool:=
 decide (c<b)&&(decide ((a.e b).kind=18)||decide ((a.e b).kind=19))&&decide ((a.e c).kind=16)&&decide ((a.e b).obj=(a.e c).obj)&& !decide ((a.e b).dN=(a.e c).dN)&&
  a.Tj (c+1) b (λd=> !decide (d.dN=(a.e c).dN))&&decide ((o6 (a.s b) (a.e c).dN).iv=3)&&(decide ((a.e b).kind=19)||decide ((a.e b).value=(a.e c).dN))
def GX.ye(b:Int)(a:dX):Bool:= !(decide (a.dN=b)&&decide (a.kind=15))
def GX.Vy(b:GX)(a c:Int):Bool:=
 decide (a<c)&&decide ((b.e c).dN=(b.e a).dN)&&(o6 (b.s a) (b.e a).dN).atomic&&b.Tj (a+1) c (GX.ye (b.e a).dN)
def GX.Vs(a:GX)(d f b c:Int):Bool:=
 decide (b<=c)&&decide ((a.e b).dN=(a.e c).dN)&& !decide ((a.e b).dN=(a.e d).dN)&&kc (a.e d) (a.e b)&&kc (a.e c) (a.e f)
def GX.Jc(a:GX)(b c d f:Int):Bool:=
 decide (b<c)&&decide (d<=f)&&decide ((a.e b).dN=(a.e c).dN)&&decide ((a.e d).dN=(a.e f).dN)&& !decide ((a.e b).dN=(a.e d).dN)&&kc (a.e b) (a.e d)&&kc (a.e f) (a.e c)&&
  a.Tj b c (GX.ye (a.e b).dN)&&(o6 (a.s b) (a.e b).dN).atomic
def GX.Ae(b:GX)(a:Int):Bool:=iP a b.ev.length
def GX.vR(f:GX)(e:jo):Bool:=
 if e.kind=2 then f.dead f.rD e
 else if(f.Ae e.a&&f.Ae e.b&&f.Ae e.c&&f.Ae e.d)=true then
  (
   if e.kind=1 then decide (e.c=0)&&decide (e.d=0)&&decide (e.kF=[])&&f.Qp e.a e.b
   else if e.kind=3 then decide (e.c=0)&&decide (e.d=0)&&decide (e.kF=[])&&f.PZ e.a e.b
   else if e.kind=4 then decide (e.kF=[])&&f.Jc e.a e.b e.c e.d
   else false)
 else false
def GX.vG(f:GX)(e:jo):Bool:=
 if e.kind=1 then decide (e.c=0)&&decide (e.d=0)&&decide (e.kF=[])&&(f.Ae e.a&&f.Ae e.b)&&f.Qp e.a e.b
 else if e.kind=2 then f.dead f.vf e
 else if e.kind=3 then decide (e.c=0)&&decide (e.d=0)&&decide (e.kF=[])&&(f.Ae e.a&&f.Ae e.b)&&f.PZ e.a e.b
 else if e.kind=4 then decide (e.kF=[])&&(f.Ae e.a&&f.Ae e.b&&f.Ae e.c&&f.Ae e.d)&&f.Vy e.a e.b&&f.Vs e.a e.b e.c e.d
 else false
def GX.in0{a:GX}{b:Int}(c:a.Ae b=true):a.Ae 0=true:=by
 unfold GX.Ae at*
 rw[ff]at*
 omega
def GX.Vr{b:GX}{a c g r:Int}(u:b.Ae a=true):(b.Vy a c&&b.Vs a c g r)=b.Jc a c g r:=by
 have w:kc (b.e a) (b.e g)=true->a<c->b.Tj a c (GX.ye (b.e a).dN)=b.Tj (a+1) c (GX.ye (b.e a).dN):=by
  intro d q;obtain⟨t,f⟩:=ff.1 u;unfold GX.Tj;have s:b.ev.drop a.toNat=b.e a::b.ev.drop (a+1).toNat:=by
   rw[show(a+1).toNat=a.toNat+1 by omega,aI f];congr 1;unfold GX.e qj wG;rw[aq t];simp[f]
  rw[s,show(c-a).toNat=(c-(a+1)).toNat+1 by omega,List.take_succ_cons,cy];have v:GX.ye (b.e a).dN (b.e a)=true:=by
   unfold GX.ye;unfold kc vj at d;simp only[aB,bP,aO]at d;rcases d.1.1.1 with h|h<;>simp[h]
  rw[v,bK]
 unfold GX.Vy GX.Vs GX.Jc;by_cases d:kc (b.e a) (b.e g)=true
 ·by_cases q:a<c
  ·rw[w d q];rw[bD];simp only[aB,aO,bL,bj];constructor
   ·rintro⟨⟨⟨⟨f,i⟩,j⟩,k⟩,⟨⟨⟨l,m⟩,n⟩,o⟩,p⟩;exact⟨⟨⟨⟨⟨⟨⟨⟨f,l⟩,i.symm⟩,m⟩,λh=>n h.symm⟩,o⟩,p⟩,k⟩,j⟩
   ·rintro⟨⟨⟨⟨⟨⟨⟨⟨f,l⟩,i⟩,m⟩,n⟩,o⟩,p⟩,k⟩,j⟩;exact⟨⟨⟨⟨f,i.symm⟩,j⟩,k⟩,⟨⟨⟨l,m⟩,λh=>n h.symm⟩,o⟩,p⟩
  ·simp[q]
 ·rw[Bool.not_eq_true]at d;simp[d]
def GX.abG(f:GX)(e:jo):f.vG e=f.vR e:=by
 unfold GX.vG GX.vR;by_cases g:e.kind=1
 ·rw[aq g,ao dj,aq g];by_cases j:e.c=0;rotate_left
  ·simp[j]
  by_cases k:e.d=0;rotate_left
  ·simp[k]
  rw[j,k];cases i:f.Ae e.a with
  |false=>simp
  |true=>rw[GX.in0 i];cases f.Ae e.b<;>simp
 rw[ao g];by_cases l:e.kind=2
 ·rw[aq l,aq l];unfold GX.dead;rw[GX.U1]
 rw[ao l,ao l];by_cases h:e.kind=3
 ·rw[aq h,ao g,aq h];by_cases j:e.c=0;rotate_left
  ·simp[j]
  by_cases k:e.d=0;rotate_left
  ·simp[k]
  rw[j,k];cases i:f.Ae e.a with
  |false=>simp
  |true=>rw[GX.in0 i];cases f.Ae e.b<;>simp
 rw[ao h];by_cases m:e.kind=4
 ·rw[aq m,ao g,ao h,aq m];cases i:f.Ae e.a with
  |false=>simp
  |true=>
   rw[<-GX.Vr i];cases (f.Ae e.b)<;>cases f.Ae e.c<;>cases f.Ae e.d<;>simp[Bool.and_assoc]
 rw[ao m,ao g,ao h,ao m];simp
def kO(a:dX):Int:=if a.kind=18 then a.value else-1
def rH(b:dR)(a:dX):Bool:=if a.kind=1\/a.kind=2 then decide (a.iO=-1)else(match wG b.ik a.iO with|some c=>decide (c.dN=a.dN)|none=>false)
def sizeOf(b:dR)(a:Int):Int:=((wG b.cells a).getD default).size
def J9(b:dR)(a:dX):Bool:=decide (a.mf=[])||decide (a.kind=5)||(vj a&& !decide (sizeOf b a.obj=0))
def J4(a:dX):Bool:=decide (a.uz=[])||decide (a.kind=4)||decide (a.kind=22)
def pj(c:dR)(b:dW)(a:dX):Bool:=
 mQ c b&&iP a.dN c.dB.length&&(decide (1<=a.kind)&&decide (a.kind<=23))&&jI c b.fx a.dN a.kind a.obj&&rH c a&&J9 c a&&J4 a&&
  w7 (b.count.getD a.dN.toNat 0) none a.mf&&w7 (b.count.getD a.dN.toNat 0) none a.uz&&nh b a
def jO(c:dR)(b:dW)(a:dX):dW:=
 ⟨(em c b.fx a.dN a.kind a.obj (kO a)).1,if a.kind=4 then b.cells.set a.obj.toNat a.value else b.cells,if a.kind=22 then b.dT.set a.obj.toNat a.value else b.dT,b.count.modify a.dN.toNat (· +1)⟩
def rZ:dW:=⟨⟨[],0,[],[]⟩,[],[],[]⟩
def jw(c:dR)(b:dW)(a:dX):dW×Bool:=if pj c b a=true then(jO c b a,true)else(rZ,false)
section
variable {S E:Type}
def rI(ok:S->E->Bool)(nx:S->E->S):S->List E->Bool
 |_,[]=>true
 |s,a::b=>ok s a&&rI ok nx (nx s a) b
def wM(nx:S->E->S):S->List E->List S
 |_,[]=>[]
 |s,a::b=>s::wM nx (nx s a) b
def vi(go:S->E->S):S->List E->S
 |s,[]=>s
 |s,a::b=>vi go (go s a) b
variable {ok:S->E->Bool}{nx go:S->E->S}
def HW:∀(a:List E) (b:S),(wM nx b a).length=a.length:=by
 intro a;induction a with
 |nil=>intro b;rfl
 |cons d a c=>intro b;simp[wM,c]
def KR(f:∀a b,ok a b=true->go a b=nx a b):∀(c d:List E) (a:S),rI ok nx a (c++d)=(rI ok nx a c&&rI ok nx (vi go a c) d):=by
 intro c;induction c with
 |nil=>intro d a;simp[rI,vi]
 |cons b c g=>
  intro d a;simp only[cE,rI,vi];cases e:ok a b with
  |true=>rw[g,f a b e,bK,bK]
  |false=>simp
def Hz:∀(a b:List E) (c:S),vi go c (a++b)=vi go (vi go c a) b:=by
 intro a;induction a with
 |nil=>intro b c;rfl
 |cons e a d=>intro b c;simp only[cE,vi,d]
def HX(g:∀a d,ok a d=true->go a d=nx a d):∀(c:List E) (a:S) (b:Nat),rI ok nx a c=true->b<c.length->(wM nx a c)[b]? =some (vi go a (c.take b)):=by
 intro c;induction c with
 |nil=>intro a b _ f;simp at f
 |cons d c h=>
  intro a b e f;simp only[rI,aB]at e;cases b with
  |zero=>simp[wM,vi]
  |succ b=>
   simp only[wM,da,List.take_succ_cons,vi];rw[g a d e.1];exact h _ b e.2 (by simpa using f)
def MF(g:∀b a,ok b a=true->go b a=nx b a):∀(d:List E) (b:S) (c:Nat) (a:E),rI ok nx b d=true->d[c]? =some a->ok (vi go b (d.take c)) a=true:=by
 intro d;induction d with
 |nil=>intro b c a _ e;simp at e
 |cons i d h=>
  intro b c a f e;simp only[rI,aB]at f;cases c with
  |zero=>simp at e;subst e;simpa[vi]using f.1
  |succ c=>
   simp only[List.take_succ_cons,vi];rw[g b i f.1];exact h _ c a f.2 (by simpa using e)
def Py{I:S->Prop}(e:∀a c,I a->I (go a c)):∀(b:List E) (a:S),I a->I (vi go a b):=by
 intro b;induction b with
 |nil=>intro a d;exact d
 |cons c b f=>intro a d;exact f _ (e a c d)
end
def runs(a:dR):dW->List dX->Bool:=rI (pj a) (jO a)
def Mx(a:dR):dW->List dX->List dW:=wM (jO a)
def oo(w:dR):dW->List dX->dW:=vi λb a=>(jw w b a).1
def sw{c:dR}(b:dW)(a:dX)(d:pj c b a=true):(jw c b a).1=jO c b a:=by unfold jw;rw[aq d]
def KO(c:dR)(a:List dX)(b:dW):(Mx c b a).length=a.length:=HW a b
def Bc(b:dR)(c d:List dX)(a:dW):runs b a (c++d)=(runs b a c&&runs b (oo b a c) d):=KR (go:=λa e=>(jw b a e).1) sw c d a
def yG{e:dR}{a:List dX}{d:dW}(b:runs e d a=true)(c:Nat):runs e d (a.take c)=true:=by
 rw[<-cK c a,Bc,aB]at b;exact b.1
def MD{c:dR}{a:List dX}{f:dW}(d:runs c f a=true)(b e:Nat):runs c (oo c f (a.take b)) ((a.drop b).take e)=true:=by
 rw[<-cK b a,Bc,aB]at d;exact yG d.2 e
def KP{d:dR}(b:List dX)(a:dW)(c:Nat)(f:runs d a b=true)(g:c<b.length):(Mx d a b)[c]? =some (oo d a (b.take c)):=HX (go:=λa e=>(jw d a e).1) sw b a c f g
def Qm{d:dR}(c:List dX)(b:dW)(e:Nat)(a:dX)(f:runs d b c=true)(g:c[e]? =some a):pj d (oo d b (c.take e)) a=true:=MF (go:=λb a=>(jw d b a).1) sw c b e a f g
def s7{c:dR}{d:dW}{a:dX}(b:pj c d a=true):mQ c d=true/\iP a.dN c.dB.length=true/\jI c d.fx a.dN a.kind a.obj=true:=by
 unfold pj at b;simp only[aB]at b;exact⟨b.1.1.1.1.1.1.1.1.1,b.1.1.1.1.1.1.1.1.2,b.1.1.1.1.1.1.2⟩
structure wI(w:eK):Prop where
 len:w.dH.length<=16
 ox:w.ez.dB.length<=4
 run:runs w.ez w.jG w.dH=true
 Ee:w.jG.fx.Ee
def eK.gx(c:eK):GX:=⟨c.ez,c.dH,(Mx c.ez c.jG c.dH).map dW.fx⟩
def wI.ok{a:eK}(b:wI a){i:Nat}{e:dX}(c:a.dH[i]? =some e):pj a.ez (oo a.ez a.jG (a.dH.take i)) e=true:=Qm _ _ _ _ b.run c
def wI.st{a:eK}(c:wI a){b:Nat}(d:b<a.dH.length):a.gx.st[b]? =some (oo a.ez a.jG (a.dH.take b)).fx:=by
 unfold eK.gx;rw[aQ,KP _ _ _ c.run d];rfl
def wI.e{a:eK}(d:wI a){i:Int}(g:iP i a.dH.length=true):∃e,a.dH[i.toNat]? =some e/\a.gx.e i=e/\iP e.dN a.ez.dB.length=true/\jy a.ez e.kind e.obj=true:=by
 obtain⟨f,b⟩:=ff.1 g;refine⟨a.dH[i.toNat],by simp[b],?_,?_⟩
 ·unfold GX.e qj wG eK.gx;rw[aq f];simp[b]
 ·have:=d.ok (i:=i.toNat) (e:=a.dH[i.toNat]) (by simp[b]);obtain⟨_,h,c⟩:=s7 this;refine⟨h,?_⟩;unfold jI at c;simp only[aB]at c;exact c.1.2
def wI.s{a:eK}(c:wI a){i:Int}(g:iP i a.dH.length=true):a.gx.s i=(oo a.ez a.jG (a.dH.take i.toNat)).fx/\ml a.ez (a.gx.s i)=true:=by
 obtain⟨f,d⟩:=ff.1 g;have h:=c.st d;have b:a.gx.s i=(oo a.ez a.jG (a.dH.take i.toNat)).fx:=by
  unfold GX.s wG;rw[aq f,h];rfl
 refine⟨b,?_⟩;rw[b];have:=(s7 (c.ok (i:=i.toNat) (e:=a.dH[i.toNat]) (by simp[d]))).1;unfold mQ at this;simp only[aB]at this;exact this.1.1.1
def HV{b:dR}{a:dW}{c:dX}(d:a.fx.Ee):(jw b a c).1.fx.Ee:=by
 unfold jw;split
 ·exact xq d b _ _ _ _
 ·intro e hl;simp[rZ]at hl
def RJ{d:dR}(c:List dX)(a:dW)(b:a.fx.Ee):(oo d a c).fx.Ee:=Py (I:=λa=>a.fx.Ee) (λ_ _ b=>HV b) c a b
def kM(a:dR):fg:=⟨a.dV.map λ_=>⟨-1,[]⟩,-1,a.dT.map λ_=>false,(List.range a.dB.length).map λb=>⟨if b=0 then 1 else 0,0,false⟩⟩
def jA(a:dR):dW:=⟨kM a,a.cells.map fZ.jG,a.dT.map λ_=>0,a.dB.map λ_=>0⟩
def rF(a:dR):(jA a).fx.Ee:=by
 intro b hl;unfold jA kM at hl;simp only[List.mem_map]at hl;obtain⟨_,_,rfl⟩:=hl;exact List.Pairwise.nil
def wh(b:dR)(c:List dX)(d a:Nat):eK:=⟨b,a,oo b (jA b) (c.take a),(c.drop a).take d⟩
def Mh{a:dR}{d:List dX}(e:runs a (jA a) d=true)(ht:a.dB.length<=4){b:Nat}(f:b<=16)(c:Nat):wI (wh a d b c):=
 ⟨by simp[wh];omega,ht,MD e c b,RJ _ _ (rF a)⟩
end
end Go.Proofs.YtmaeadedikngoaaGreatDoor
namespace Go.TI
noncomputable section
def hr(a:H):H:=⟨a.size,a.size,a.eY⟩
@[simp] theorem ng (a:H):(hr a).size=a.size:=id rfl
@[simp] theorem fX (a:H) (b:Nat):(hr a).get b=a.get b:=H.qx a a.size b
@[simp] theorem Zt (a:H):Hp (hr a)=Hp a:=id rfl
def Kz(f:Bool)(c:H)(g:List T)(e:H)(d:T->H->Prop):Prop:=∃b a,BJ f c.size c.low (js g) e=some (b,a)/\(d b a\/d (cn b) a)
section
variable {P:ai}{cx:Ctx}{cf:iG}{mask:Nat}
def WU(J:P.follows .mixedOrders=true)(iH:iM P cx){m:aj}{a:Func}{r:DL}(h:FE P cx m a mask r)(C:mR P cx cf)(i:Bool){c:List T}{d:H}{w:T->H->Prop}(K:c.length<=a.ntmps)(j:Nat)
 (Q:∀z,mS z 0 c->W (jh cx cf j mask r (a.body.getD .skip) ⟨z,.nil⟩ (hr d)) (BM cx mask a.results.toList λu g=>Kz i d u g w)):∃b g,w b g/\pP P cx ⟨m,c,d,b,g⟩:=by
 obtain⟨y,O,_,G⟩:=lQ mask a.ntmps 0 c K;obtain⟨Z,D,E,e,R,u,M,b,f,hl,hp⟩:=Cw (Q y G);have e:=pA _ h.dr _ _ _ e;obtain⟨B,s⟩:=yp h.ok;rw[s]at e;have I:rU cx cf j a mask i c d=some (b,f):=by
  unfold rU;rw[s];obtain⟨x,al,A⟩:=d;simp only;rw[O,dO];have e:jL cx cf j mask B ⟨y,.nil⟩ ⟨x,x,A⟩=some (Z,D,E):=e;rw[e,dO,ks];have N:=nR M;rcases R with rfl|rfl<;>(simp only;rw[N,dO];exact hl)
 have L:ww ⟨a,mask,i,none⟩=true:=h.ok;have t:pP P cx ⟨m,c,d,b,f⟩:=λk p q l o n=>oH (F:=⟨a,mask,i,none⟩) J iH h.at_ L cf C j c d b f I k p q l o n;rcases hp with hp|hp
 ·exact⟨b,f,hp,t⟩
 ·exact⟨cn b,f,hp,λk p q l o n=>(t k p q l o n).mono λv an ⟨⟨ae,S,U,V,X⟩,Y⟩=>⟨⟨ae,S.cn,U,V,X⟩,Y⟩⟩
def HM{tb:fq}{c:kA}(n:P.follows .mixedOrders=true)(iH:iM P cx){g:aj}{d:Func}{f:DL}(q:FE P cx g d mask f)(i:Bool)(j:List T->H->Nat)(o:∀a b,c.pre a b->a.length<=d.ntmps)
 (p:∀a b,c.pre a b->∀k,mS k 0 a->W (jh cx (qk P cx tb) (j a b) mask f (d.body.getD .skip) ⟨k,.nil⟩ (hr b)) (BM cx mask d.results.toList λr e=>Kz i b r e (c.post a b))):c.Ok P cx g:=
 λa b h=>by
  obtain⟨s,e,l,m⟩:=WU n iH q (Ch P cx tb) i (o a b h) (j a b) (p a b h);exact⟨s,e,l,m⟩
end
def TG{P:ai}{cx:Ctx}{cf:iG}{mask:Nat}(H:P.follows .mixedOrders=true)(iH:iM P cx){p:aj}{c:Func}{w:DL}(j:FE P cx p c mask w)(C:mR P cx cf){b:List T}{m:T->Prop}(hl:mh b=true)(y:b.length<=c.ntmps)(k:Nat)
 (K:∀f,mS f 0 b->W (jh cx cf k mask w (c.body.getD .skip) ⟨f,.nil⟩ hE) (BM cx mask c.results.toList λA g=>∃a,m a/\PO g A a)):∃a,m a/\kI P cx p b a:=by
 have S:∃a,m a/\∀f,mS f 0 b->TI.dF f 0=TI.dF f 0->∃d,cn d=a/\rU cx cf k c mask false b hE=some (d,hE):=by
  obtain⟨l,z,_,s⟩:=lQ mask c.ntmps 0 b y;obtain⟨U,D,g,e,L,A,hr,a,r,I,i⟩:=Cw (K l s);have e:=pA _ j.dr _ _ _ e;obtain⟨B,h⟩:=yp j.ok;rw[h]at e;unfold LH at i;obtain⟨d,i,x⟩:=dA.1 i;simp only[ar]at x;refine⟨a,r,λ_ _ _=>⟨d,x,?_⟩⟩;unfold rU;rw[h];simp only;rw[z,dO];have e:jL cx cf k mask B ⟨l,.nil⟩ ⟨0,0,[]⟩=some (U,D,g):=e;rw[e,dO,ks];have J:=nR hr;rcases L with rfl|rfl<;>(simp only;rw[J,dO];exact GH I i)
 obtain⟨a,r,G⟩:=S;obtain⟨l,z,_,s⟩:=lQ mask c.ntmps 0 b y;obtain⟨d,rfl,h⟩:=G l s rfl;refine⟨cn d,r,?_⟩;have E:kI P cx p b d:=xK (ll _ hl) λn u v o t q=>
  oH (F:=⟨c,mask,false,none⟩) H iH j.at_ j.ok cf C k b hE d hE h n u v o t q
 intro n u v o g t q;refine(E n u v o g t q).mono λX Y ⟨⟨V,M,N,O,Q⟩,R⟩=> ?_;exact⟨⟨V,M.cn,N,O,Q⟩,R⟩
def D1(b:T):Prop:=∃a,b= .bool a
def uV(a:Nat)(d:T)(b:H):mJ a d b=some (d,⟨b.size,if b.low<a then b.low else a,b.eY⟩):=by
 obtain⟨g,c,e⟩:=b;show @Bool.rec (λ_=>aa (T×H)) (some (d,⟨g,a,e⟩)) (some (d,⟨g,c,e⟩)) (Nat.blt c a)=_;by_cases hl:c<a
 ·rw[show Nat.blt c a=true by rw[aG];exact hl,aq hl]
 ·rw[show Nat.blt c a=false by rw[cj];intro f;rw[aG]at f;exact hl f,ao hl]
def G5{h:H}(f:Hp h){a d:Nat}(e:a<=h.size){b:Nat}(c:b<a):(⟨a,d,h.eY.drop (h.size-a)⟩:H).get b=h.get b:=by
 rw[H.get_eq,H.get_eq];simp only;rw[aq c,aq dj,bG];congr 1;omega
def pq(a b:H)(m:List T){r:T}{n:T->H->Prop}(l:Hp a)(c:Fr a.size (hr a) b)(g:(dJ (iT b a.size (js m)) λt=>some (cn t))=some r)(p:n r a):Kz false a m b n:=by
 obtain⟨s,g,k⟩:=dA.1 g;simp only[ar]at k;unfold Kz BJ;simp only[g];have h:Hp b:=c.hp (by simpa using l);have o:a.size<=b.low:=c.low (au _);have u:a.size<=b.size:=c.size;have f:b.eY.drop (b.size-a.size)=a.eY:=by
  apply cS;intro d;rw[bG];rcases aD d a.size with hi|hi
  ·have j:=c.get (a.size-1-d) dj;rw[fX,H.get_eq,H.get_eq,aq dj,aq dj]at j;rw[show b.size-a.size+d=b.size-1-(a.size-1-d)by omega,j];congr 1;omega
  ·rw[aK (by unfold Hp at h;omega),aK (by unfold Hp at l;omega)]
 obtain⟨i,q,e⟩:=b;unfold tk;simp only;rw[ls,aq (by show i-a.size<=e.length;unfold Hp at h;simp only at h;omega),dO,show Nat.ble a.size q=true from bW o];refine⟨s,_,rfl,.inr ?_⟩;rw[k];have:(⟨a.size,a.low,List.drop (Nat.sub i a.size) e⟩:H)=a:=by
  have f:List.drop (Nat.sub i a.size) e=a.eY:=f;rw[f]
 rw[this];exact p
end
noncomputable section
noncomputable section
variable {cx:Ctx}{mask:Nat}{e:Env}{h:H}
end
end
noncomputable section
structure gu(n:Nat)(h:H):Prop where
 hp:Hp h
 low:h.low<=h.size
 sz:n<=h.size
def gu.cons{c:Nat}{b:H}(a:gu c b)(d:iJ):gu c (b.cons d):=⟨by simpa using a.hp,by simp only[Oh];have:=a.low;simp[H.cons];omega,by have:=a.sz;simp[H.cons];omega⟩
def gu.ne{c:Nat}{a:H}(d:gu c a){b:Nat}(e:b<c):(b=a.size)=False:=by have:=d.sz;simp;omega
def F6(c:H)(b:Nat)(h:iJ):(dQ c b h).low<=c.low:=by
 unfold dQ;cases a:c.put b h with
 |none=>exact au _
 |some i=>
  obtain⟨e,d,j⟩:=c;have a:(fP (Nat.blt b e) (dJ (kj j (Nat.sub (Nat.sub e 1) b) h) λf=> @Bool.rec (λ_=>aa H) (some ⟨e,d,f⟩) (some ⟨e,b,f⟩) (Nat.blt b d)))=some i:=a;obtain⟨_,a⟩:=dI.1 a;obtain⟨f,_,a⟩:=dA.1 a;show i.low<=d;cases g:Nat.blt b d<;>rw[g]at a<;>simp only[ar]at a<;>subst a
  ·exact au _
  ·rw[aG]at g;exact bp g
def gu.put{n:Nat}{a:H}(b:gu n a)(d:Nat)(e:iJ):gu n (dQ a d e):=⟨by simpa using b.hp,by rw[fG];exact aS (F6 a d e) b.low,by rw[fG];exact b.sz⟩
structure pG(sz:Nat)(h h':H):Prop where
 get:∀c x,h.get c=some x->x.sz≠sz->h'.get c=some x
 ok:∀n,gu n h->gu n h'
 size:h.size<=h'.size
def pG.refl(d:Nat)(a:H):pG d a a:=⟨λ_ _ b _=>b,λ_ c=>c,au _⟩
def pG.trans{c:Nat}{e f g:H}(a:pG c e f)(b:pG c f g):pG c e g:=⟨λd j k h=>b.get d j (a.get d j k h) h,λi l=>b.ok i (a.ok i l),aS a.size b.size⟩
def pG.cons(e:Nat)(a:H)(c:iJ):pG e a (a.cons c):=⟨λf h b _=>by have:=H.ej b;rw[dM,ao dj];exact b,λg d=>d.cons c,by simp[H.cons]⟩
def pG.put{g:Nat}{d:H}{a:Nat}{x:iJ}(f:d.get a=some x)(i:x.sz=g)(h:iJ):pG g d (dQ d a h):=⟨λc l b j=>by
 rw[dE f];by_cases e:c=a
 ·subst e;rw[f]at b;simp only[ar]at b;subst b;exact absurd i j
 ·rw[ao e];exact b,λn k=>k.put a h,dp⟩
def rm.Z4{cx:Ctx}{a:H}{d:T}{b:Nat}{e:List T}(l:rm a 0 d b e){o p j:ab}{v w c:Ty}(B:cx.ty o=some v)(C:v.u= .slice j)(D:cx.ty j=some c)(E:cx.ty p=some w)(F:w.u= .slice j)(t:c.size=b)(r:1<=c.bytes)
 {x:T} {xs:List T} (I:a.jc x=some xs) (m:∀z∈xs,z.cells.length=b) (s:(e.length+xs.length)*c.bytes<=70368744177664):
 ∃y k,iK cx a o p d x=some (.val y k)/\rm k 0 y b (e++xs)/\pG b a k:=by
 have G:iK cx a o p d x=jl (a.append c.size c.bytes d xs):=by
  unfold iK pN mY;rw[B,dO,E,dO];simp only[C,D,F,I,dO];rw[t,m8 m,gX]
 rw[G,t];cases xs with
 |nil=>
  refine⟨d,a,?_,by simpa using l,pG.refl _ _⟩;show jl (fP (oa d) (some (d,a)))=_;rcases l with⟨rfl,_⟩|⟨h,i,q,A,_,rfl,_⟩<;>rfl
 |cons f g=>
  rcases l with⟨rfl,rfl⟩|⟨h,i,q,A,J,rfl,n⟩
  ·refine⟨.arr a.size 0 0 (f::g).length false,a.cons ⟨b,0,0,false,false,f::g⟩,?_,.inr ⟨a.size,0,0,false,aw _,rfl,dp⟩,pG.cons _ _ _⟩;show jl (a.iU b c.bytes [] (f::g))=_;rw[om m r (by simpa using s)];rfl
  ·refine⟨.arr h (i+1) 0 (e++f::g).length false,dQ a h ⟨b,i+1,q+1,false,false,e++f::g⟩,?_,.inr ⟨h,i+1,q+1,false,J,rfl,by rw[dE n,aq rfl]⟩,pG.put n rfl _⟩;show jl (a.lO b c.bytes h i e.length (f::g))=_;rw[vh n m r s];rfl
def rm.Tm{cx:Ctx}{g:H}{o:T}{b:Nat}{i:Type}{a:i->T}{f:List i}(t:rm g 0 o b (f.map a)){h k:ab}{n d:Ty}(l:cx.ty h=some n)(m:n.u= .slice k)(p:cx.ty k=some d)(v:d.size=b)(q:1<=d.bytes)
 (r:∀x,Kd (a x)=b) (xs:List i) (s:(f.length+xs.length)*d.bytes<=70368744177664):
 ∃e c,iK cx g h h o (sl (xs.map a))=some (.val e c)/\rm c 0 e b ((f++xs).map a)/\pG b g c:=by
 obtain⟨e,c,w,y,z⟩:=t.Z4 (x:=sl (xs.map a)) (xs:=xs.map a) l m p l m v q dp (by simpa using λj _=>show(a j).cells.length=b from r j) (by simpa using s);exact⟨e,c,w,by rw[List.map_append];exact y,z⟩
def rm.Ji{cx:Ctx}{c:H}{n:T}{a:Nat}{i:Type}{b:i->T}{g:List i}(s:rm c 0 n a (g.map b)){h j:ab}{m e:Ty}(k:cx.ty h=some m)(l:m.u= .slice j)(o:cx.ty j=some e)(t:e.size=a)(p:1<=e.bytes)
 (q:∀x,Kd (b x)=a) (x:i) (r:(g.length+1)*e.bytes<=70368744177664):
 ∃f d,iK cx (c.cons ⟨a,0,0,true,false,[b x]⟩) h h n (.arr c.size 0 0 1 false)=some (.val f d)/\rm d 0 f a ((g++[x]).map b)/\pG a c d:=by
 obtain⟨f,d,v,w,y⟩:=(s.cons ⟨a,0,0,true,false,[b x]⟩).Z4 (x:= .arr c.size 0 0 1 false) (xs:=[b x]) k l o k l t p (by rw[fW];simp) (by simpa using show(b x).cells.length=a from q x) (by simpa using r);exact⟨f,d,v,by rw[List.map_append];exact w,(pG.cons _ _ _).trans y⟩
def yt{n:Env->H->Out}(d:Nat)(f:Nat->fJ->H->Prop){l:iw}
 (q:∀k c a,k<=d->f k c a->W (n ⟨c,.nil⟩ a) (w9 (λb a=>b.tmps= .nil/\∃e,k<e/\e<=d/\f e b.vars a) l)) {j:Nat} (v:d<j) {k:Nat} (h:k<=d) {c:fJ} {a:H} (g:f k c a):W (nH n j ⟨c,.nil⟩ a) l:=by
 refine PB (σ:=Nat) (I:=λk b a=>k<=d/\b.tmps= .nil/\f k b.vars a) (m:=λk=>d-k) ?_ j k _ _ dj ⟨h,rfl,g⟩;rintro k ⟨c,y⟩ a ⟨h,ht,g⟩;simp only at ht g;subst ht;obtain⟨o,b,p,r,i⟩:=q k c a h g;refine⟨o,b,p,r,?_⟩;cases o with
 |normal=>
  obtain⟨s,e,x,t,u⟩:=i;exact⟨e,dj,t,s,u⟩
 |exit w=>exact i
 |ret=>exact i
section
variable {cx:Ctx}
end
end
noncomputable section
section
variable {P:ai}{cx:Ctx}
def OZ{f:aj}{t:List T}{b c:H}{F G:T}(O:pP P cx ⟨f,t,b,F,c⟩)(Y:Hp c)(z:b.size<=c.size)
 (R:∀a h,a<b.size->c.get a=some h->c.get a=b.get a\/∀m∈eQ h.ee,oY b.size m) (S:iT c b.size F=some G):
 pP P cx ⟨f,t,b,cn G,⟨b.size,c.low,c.eY.drop (c.size-b.size)⟩⟩:=by
 intro J w r K q i;refine(O J w r K q i).mono λm al ⟨⟨s,ae,D,g,j⟩,p⟩=> ?_;have v:∀a e,r a=some e->a<b.size:=λa e d=>q.ej d;have j:xu r s b.size c.size:=j;have hl:∀a e h,a<b.size->s a=some e->c.get a=some h->∀m∈eQ h.ee,oY b.size m:=by
  intro a e h d i B;rcases R a h d B with he|he
  ·rcases j.2.1 a (by rw[i];simp)with k|k
   ·obtain⟨I,N⟩:=Option.ne_none_iff_exists'.1 k;obtain⟨an,o,X⟩:=q.box a I N;rw[<-he,B]at o;simp only[ar]at o;subst o;exact X.low v
   ·omega
  ·exact he
 have u:=St.cut (low:=c.low) D z hl;have x:∀a,a<b.size->(⟨b.size,c.low,c.eY.drop (c.size-b.size)⟩:H).get a=c.get a:=λa d=>G5 Y z d;refine⟨⟨lN b.size s,(ut D ae S).cn,u,⟨⟨g.ext.size,λZ U W=> ?_,λa e d=> ?_,g.ext.oD,g.ext.kept⟩,g.os,g.tape,g.output⟩,au _,λa d=> ?_,λa E l=>absurd E (by show¬b.size<=a;have l:a<b.size:=l;omega)⟩,?_⟩
 ·obtain⟨L,M⟩:=g.ext.mT Z U W;exact⟨L,vN M⟩
 ·rw[tJ (v a e d)];exact g.ext.mu a e d
 ·left;obtain⟨e,i⟩:=Option.ne_none_iff_exists'.1 d;obtain⟨E,l⟩:=jP i;rcases j.2.1 a (by rw[l];simp)with k|k
  ·exact k
  ·omega
 ·refine⟨u.wf,au _,p.low,λa d V=> ?_,λa y C=> ?_⟩
  ·rw[x a d];exact p.ky a d V
  ·rw[x a (H.ej C)];exact p.ver a y C
def IQ{g h:H}(t:∀b,h.get b=g.get b)(n:Nat):∀a,freeze h n a=freeze g n a:=by
 intro a;induction a with
 |zero=>rfl
 |succ a q=>
  funext u;cases u with
  |agg m=>
   show(dJ (fw (freeze h n a) m) λc=>some (T.agg c))=(dJ (fw (freeze g n a) m) λc=>some (T.agg c));rw[q]
  |arr b o s r p=>
   show fP (Nat.ble n b) (dJ (h.get b) λl=> @iJ.rec (λ_=>aa T) (λ_ i _ exact k d=>
    fP (Nat.beq i o) (@Bool.rec (λ_=>aa T) (dJ (dJ (jF s d) λc=>takeN r c) λj=>dJ (fw (freeze h n a) j) λe=>
     @List.rec T (λ_=>aa T) (@List.rec T (λ_=>aa T) (@Bool.rec (λ_=>aa T) (some .fO) (some (.dC [] false)) exact) (λ_ _ _=>some .fO) d) (λ_ _ _=>some (.dC e p)) e) none k)) l)=
    fP (Nat.ble n b) (dJ (g.get b) λl=> @iJ.rec (λ_=>aa T) (λ_ i _ exact k d=>
    fP (Nat.beq i o) (@Bool.rec (λ_=>aa T) (dJ (dJ (jF s d) λc=>takeN r c) λj=>dJ (fw (freeze g n a) j) λe=>
     @List.rec T (λ_=>aa T) (@List.rec T (λ_=>aa T) (@Bool.rec (λ_=>aa T) (some .fO) (some (.dC [] false)) exact) (λ_ _ _=>some .fO) d) (λ_ _ _=>some (.dC e p)) e) none k)) l)
   rw[q,t]
  |_=>rfl
def sg{a b:H}(i:∀e,b.get e=a.get e)(n:Nat)(c:T):iT b n c=iT a n c:=by
 have g:ir b n=ir a n:=by funext d;cases d<;>(unfold ir;simp only[IQ i])
 have h:jX b n=jX a n:=by funext d;cases d<;>(unfold jX;simp only[g])
 cases c<;>(unfold iT;simp only[h])
end
def FT(e:H)(c:Nat->Prop):Nat->T->T->Prop
 |0,_,_=>False
 |d+1,a,g=>(jE a=true/\(∀b,a≠ .agg b)/\g=cn a)\/
  (∃h l o m f j k,a= .arr h l o m f/\c h/\e.jc a=some j/\io (FT e c d) j k/\g=sl k)\/
  (∃b i,a= .agg b/\io (FT e c d) b i/\g= .agg i)
def io.imp_mem{α h:Type}{d R':α->h->Prop}{c:List α}{g:List h}(i:io d c g)(e:∀a∈c,∀b,d a b->R' a b):io R' c g:=by
 induction i with
 |nil=>exact .nil
 |cons a _ k=>exact .cons (e _ dp _ a) (k λl j b=>e l (by simp[j]) b)
def po{α d:Type}{f:α->aa d}{b:List α}{c:List d}(g:io (λa e=>f a=some e) b c):fw f b=some c:=by
 induction g with
 |nil=>rfl
 |cons a _ h=>rw[jn,a,h];rfl
def FT.wy{h:H}{V:Nat->Prop}:∀{d:Nat} {v t:T},FT h V d v t->TI.wy h d v=some t:=by
 intro d;induction d with
 |zero=>intro v t c;exact c.elim
 |succ d g=>
  intro v t c;rcases c with⟨j,k,rfl⟩|⟨e,p,u,s,f,q,r,rfl,_,l,a,rfl⟩|⟨m,o,rfl,a,rfl⟩
  ·unfold TI.wy;rw[rR h 0 d v j k];rfl
  ·rw[xd,l,dO,po (a.imp λi e b=>g b)];rfl
  ·rw[Q3,po (a.imp λi e b=>g b)];rfl
def GM{c d:H}{a b g e:Nat}{f:Bool}(h:d.get a=c.get a):d.jc (.arr a b g e f)=c.jc (.arr a b g e f):=by
 rw[fW,fW,h]
def FT.mono{k h':H}{i j:Nat->Prop}(m:∀a,i a->j a/\h'.get a=k.get a):∀{b:Nat} {e d:T},FT k i b e d->FT h' j b e d:=by
 intro b;induction b with
 |zero=>intro e d c;exact c.elim
 |succ b o=>
  intro e d c;rcases c with c|⟨a,s,x,w,f,t,u,rfl,l,v,g,rfl⟩|⟨q,r,rfl,g,rfl⟩
  ·exact .inl c
  ·exact .inr (.inl ⟨a,s,x,w,f,t,u,rfl,(m a l).1,by rw[GM (m a l).2];exact v,g.imp λp a h=>o h,rfl⟩)
  ·exact .inr (.inr ⟨q,r,rfl,g.imp λp a h=>o h,rfl⟩)
def FT.deep{k:H}{j:Nat->Prop}:∀{b a:Nat} {e d:T},b<=a->FT k j b e d->FT k j a e d:=by
 intro b;induction b with
 |zero=>intro a e d _ c;exact c.elim
 |succ b l=>
  intro a e d y c;obtain⟨a,rfl⟩:∃q,a=q+1:=⟨a-1,dj⟩;rcases c with c|⟨g,r,x,w,f,s,t,rfl,u,v,h,rfl⟩|⟨o,p,rfl,h,rfl⟩
  ·exact .inl c
  ·exact .inr (.inl ⟨g,r,x,w,f,s,t,rfl,u,v,h.imp λm g i=>l dj i,rfl⟩)
  ·exact .inr (.inr ⟨o,p,rfl,h.imp λm g i=>l dj i,rfl⟩)
def FT.fz{h:H}{V:Nat->Prop}{v t:T}(l:FT h V 12 v t):TI.fz h v=some t:=by
 rcases l with⟨i,e,rfl⟩|⟨g,o,s,r,f,p,q,rfl,e,j,a,rfl⟩|⟨b,c,rfl,a,rfl⟩
 ·show(dJ (ir h 0 v) λv=>some (cn v))=_;rw[pM h i e];rfl
 ·rw[uZ,j,dO,po (a.imp λm g k=>k.wy)];rfl
 ·have:=FT.wy (h:=h) (V:=V) (d:=12) (v:= .agg b) (t:= .agg c) (.inr (.inr ⟨b,c,rfl,a,rfl⟩));exact this
@[simp] theorem fR (d:H) (b:Nat->Prop) (c:Nat) (a:ak) (n:Int):FT d b (c+1) (.int a n) (.int a n):= .inl ⟨dp,dp,dp⟩
@[simp] theorem jR (d:H) (b:Nat->Prop) (c:Nat) (a:List Nat):FT d b (c+1) (.str a) (.str a):= .inl ⟨dp,dp,dp⟩
@[simp] theorem KB (d:H) (b:Nat->Prop) (c:Nat) (a:Bool):FT d b (c+1) (.bool a) (.bool a):= .inl ⟨dp,dp,dp⟩
def ou(g:H)(d:Nat->Prop)(e:Nat){a:List T}(c:∀b∈a,cn b=b):FT g d (e+1) (sl a) (sl a):=by
 refine .inl ⟨dp,by cases a<;>simp[sl],?_⟩;rw[Kf];congr 1;induction a with
 |nil=>rfl
 |cons b k i=>rw[aR,c b dp,<-i λj h=>c j (by simp[h])]
def iQ(c:H)(a:Nat->Prop)(b:Nat)(f:Bool):FT c a (b+1) (.dC [] f) (sl []):= .inl ⟨dp,dp,by rw[mL];rfl⟩
section
variable {cx:Ctx}{cf:iG}{mask n:Nat}{dl:DL}
def adb{a:Bool}{h:af Oper}{c:aa Tmp}{g:Op}{e:List Oper}{j i:fJ}{d:H}{b:iw}(k:a=true->GK (some true) cx cf mask h c g e j i d b)(l:a=false->GK (some false) cx cf mask h c g e j i d b):GK (some a) cx cf mask h c g e j i d b:=by
 cases a
 ·exact l rfl
 ·exact k rfl
def fh(b e:Code)(c:Env)(d:H)(a:iw):CK (some (.bool true)) cx cf n mask dl b e c d a=W (jh cx cf n mask dl b c d) a:=rfl
def eJ(e b:Code)(c:Env)(d:H)(a:iw):CK (some (.bool false)) cx cf n mask dl e b c d a=W (jh cx cf n mask dl b c d) a:=rfl
def dU{a:Bool}{e g:Code}{c:Env}{d:H}{b:iw}(h:a=true->W (jh cx cf n mask dl e c d) b)(i:a=false->W (jh cx cf n mask dl g c d) b):CK (some (.bool a)) cx cf n mask dl e g c d b:=by
 cases a
 ·exact i rfl
 ·exact h rfl
end
def wR(P:ai)(cx:Ctx)(f:aj){α:Type}(A:α->List T)(pre:α->Prop)(Q:α->T->Prop):f7:=
 ⟨α,A,pre,λa=>Classical.epsilon λc=>(∀b,A b=A a->Q b c)/\kI P cx f (A a) c,λa b d=>by simp only[d]⟩
section
variable {P:ai}{cx:Ctx}{f:aj}{α:Type}{A:α->List T}{pre:α->Prop}{Q:α->T->Prop}
def Js(h:∀a b,A a=A b->a=b){a:α}(j:∃c,Q a c/\kI P cx f (A a) c):Q a ((wR P cx f A pre Q).R a)/\kI P cx f (A a) ((wR P cx f A pre Q).R a):=by
 have d:∃c,(∀b,A b=A a->Q b c)/\kI P cx f (A a) c:=by
  obtain⟨c,e,g⟩:=j;exact⟨c,λb i=>by rw[h b a i];exact e,g⟩
 have:=Classical.epsilon_spec d;exact⟨this.1 a rfl,this.2⟩
def WW(d:∀a b,A a=A b->a=b)(g:∀a,pre a->∃c,Q a c/\kI P cx f (A a) c):(wR P cx f A pre Q).Ok P cx f:=λa e=>(Js d (g a e)).2
def iZ{tb:fq}{c:Func}{mask:Nat}{dl:DL}(j:P.follows .mixedOrders=true)(iH:iM P cx)(m:FE P cx f c mask dl)(n:α->Nat)(h:∀a g,A a=A g->a=g)(hl:∀a,mh (A a)=true)(k:∀a,(A a).length<=c.ntmps)
 (l:∀a,pre a->∀i,mS i 0 (A a)->W (jh cx (qk P cx tb) (n a) mask dl (c.body.getD .skip) ⟨i,.nil⟩ hE) (BM cx mask c.results.toList λo d=>∃b,Q a b/\PO d o b)):(wR P cx f A pre Q).Ok P cx f/\∀a,pre a->Q a ((wR P cx f A pre Q).R a):=by
 have d:∀a,pre a->∃b,Q a b/\kI P cx f (A a) b:=λa e=>TG j iH m (Ch P cx tb) (hl a) (k a) (n a) (l a e);exact⟨WW h d,λa e=>(Js h (d a e)).1⟩
def mU(P:ai)(cx:Ctx)(f:aj)(A:α->List T)(pre:α->Prop)(Q:α->T->Prop):Prop:=(wR P cx f A pre Q).Ok P cx f/\∀a,pre a->Q a ((wR P cx f A pre Q).R a)
def AD(d:α->Nat)(step:∀b,mU P cx f A (λa=>pre a/\d a<b) Q->mU P cx f A (λa=>pre a/\d a<b+1) Q):mU P cx f A pre Q:=by
 have e:∀b,mU P cx f A (λa=>pre a/\d a<b) Q:=by
  intro b;induction b with
  |zero=>exact⟨λa c=>absurd c.2 (Nat.not_lt_zero _),λa c=>absurd c.2 (Nat.not_lt_zero _)⟩
  |succ b g=>exact step b g
 exact⟨λa c=>(e (d a+1)).1 a ⟨c,cW _⟩,λa c=>(e (d a+1)).2 a ⟨c,cW _⟩⟩
end
def Lx(b:Prop)(c:T):Prop:=∃a,c= .bool a/\(a=true->b)
@[simp] theorem Wj (d:Prop) (a:Bool):Lx d (.bool a)=(a=true->d):=by
 unfold Lx;apply propext;constructor
 ·rintro⟨e,c,b⟩;simp at c;subst c;exact b
 ·exact λb=>⟨a,rfl,b⟩
@[simp] theorem Zq (a:Bool):D1 (.bool a)=True:=by simp[D1]
end
end Go.TI
