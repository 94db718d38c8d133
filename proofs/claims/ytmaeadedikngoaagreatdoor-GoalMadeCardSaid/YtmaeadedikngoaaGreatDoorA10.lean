/- Texts DData to DTab. -/
import Derived.Test.YtmaeadedikngoaaGreatDoorA9
set_option linter.unusedVariables false
set_option linter.unusedSimpArgs false
set_option maxRecDepth 100000
set_option maxHeartbeats 8000000
namespace Go.Proofs.YtmaeadedikngoaaGreatDoor
noncomputable section
open Go Go.TI
structure fN where
 name:List Nat
 index:Int
 size:Int
 rX:Bool
 lY:Int
 deriving DecidableEq,Inhabited
def fN.cs(a:fN):List T:=[.str a.name,.int .i64 a.index,.int .i64 a.size,.bool a.rX,.int .i64 a.lY]
def fN.t(a:fN):T:= .agg a.cs
@[simp] theorem fN.ag (a:fN):qW a.t [.str a.name,.int .i64 a.index,.int .i64 a.size,.bool a.rX,.int .i64 a.lY] 5:=by
 unfold fN.t fN.cs;exact⟨rfl,rfl,λ_ _=>rfl,rfl,by simp[jt],λ_=>by simp,λ_ _=>by simp,by simp,by simp⟩
@[simp] theorem fN.fold (a0:List Nat) (a1:Int) (a2:Int) (a3:Bool) (a4:Int):T.agg [.str a0,.int .i64 a1,.int .i64 a2,.bool a3,.int .i64 a4]=fN.t ⟨a0,a1,a2,a3,a4⟩:=rfl
@[simp] theorem fN.eta (a:fN):fN.mk a.name a.index a.size a.rX a.lY=a:=rfl
theorem fN.inj{a b:fN}(c:a.t=b.t):a=b:=by
 rcases a with⟨_,_,_,_,_⟩;rcases b with⟨_,_,_,_,_⟩;simp only[fN.t,fN.cs,T.agg.injEq,aK]at c
 obtain⟨d,e,f,g,h,_⟩:=c
 obtain rfl:=ma d;obtain rfl:=f7 e;obtain rfl:=f7 f;obtain rfl:=rF g;obtain rfl:=f7 h;rfl
structure gH where
 name:List Nat
 rW:Bool
 deriving DecidableEq,Inhabited
def gH.cs(a:gH):List T:=[.str a.name,.bool a.rW]
def gH.t(a:gH):T:= .agg a.cs
@[simp] theorem gH.ag (a:gH):qW a.t [.str a.name,.bool a.rW] 2:=by
 unfold gH.t gH.cs;exact⟨rfl,rfl,λ_ _=>rfl,rfl,by simp[jt],λ_=>by simp,λ_ _=>by simp,by simp,by simp⟩
@[simp] theorem gH.fold (a0:List Nat) (a1:Bool):T.agg [.str a0,.bool a1]=gH.t ⟨a0,a1⟩:=rfl
@[simp] theorem gH.eta (a:gH):gH.mk a.name a.rW=a:=rfl
theorem gH.inj{a b:gH}(c:a.t=b.t):a=b:=by
 rcases a with⟨_,_⟩;rcases b with⟨_,_⟩;simp only[gH.t,gH.cs,T.agg.injEq,aK]at c
 obtain⟨d,e,_⟩:=c
 obtain rfl:=ma d;obtain rfl:=rF e;rfl
structure iC where
 name:List Nat
 kP:Int
 deriving DecidableEq,Inhabited
def iC.cs(a:iC):List T:=[.str a.name,.int .i64 a.kP]
def iC.t(a:iC):T:= .agg a.cs
@[simp] theorem iC.ag (a:iC):qW a.t [.str a.name,.int .i64 a.kP] 2:=by
 unfold iC.t iC.cs;exact⟨rfl,rfl,λ_ _=>rfl,rfl,by simp[jt],λ_=>by simp,λ_ _=>by simp,by simp,by simp⟩
@[simp] theorem iC.fold (a0:List Nat) (a1:Int):T.agg [.str a0,.int .i64 a1]=iC.t ⟨a0,a1⟩:=rfl
@[simp] theorem iC.eta (a:iC):iC.mk a.name a.kP=a:=rfl
theorem iC.inj{a b:iC}(c:a.t=b.t):a=b:=by
 rcases a with⟨_,_⟩;rcases b with⟨_,_⟩;simp only[iC.t,iC.cs,T.agg.injEq,aK]at c
 obtain⟨d,e,_⟩:=c
 obtain rfl:=ma d;obtain rfl:=f7 e;rfl
structure gY where
 dA:Int
 stmt:Int
 tK:Int
 deriving DecidableEq,Inhabited
def gY.cs(a:gY):List T:=[.int .i64 a.dA,.int .i64 a.stmt,.int .i64 a.tK]
def gY.t(a:gY):T:= .agg a.cs
@[simp] theorem gY.ag (a:gY):qW a.t [.int .i64 a.dA,.int .i64 a.stmt,.int .i64 a.tK] 3:=by
 unfold gY.t gY.cs;exact⟨rfl,rfl,λ_ _=>rfl,rfl,by simp[jt],λ_=>by simp,λ_ _=>by simp,by simp,by simp⟩
@[simp] theorem gY.fold (a0:Int) (a1:Int) (a2:Int):T.agg [.int .i64 a0,.int .i64 a1,.int .i64 a2]=gY.t ⟨a0,a1,a2⟩:=rfl
@[simp] theorem gY.eta (a:gY):gY.mk a.dA a.stmt a.tK=a:=rfl
theorem gY.inj{a b:gY}(c:a.t=b.t):a=b:=by
 rcases a with⟨_,_,_⟩;rcases b with⟨_,_,_⟩;simp only[gY.t,gY.cs,T.agg.injEq,aK]at c
 obtain⟨d,e,f,_⟩:=c
 obtain rfl:=f7 d;obtain rfl:=f7 e;obtain rfl:=f7 f;rfl
structure dJ where
 cells:List fN
 dP:List gH
 fP:List iC
 dR:List (List Nat)
 dp:List (List Nat)
 gW:List gY
 deriving DecidableEq,Inhabited
def dJ.cs(a:dJ):List T:=[sl (a.cells.map fN.t),sl (a.dP.map gH.t),sl (a.fP.map iC.t),sl (a.dR.map T.str),sl (a.dp.map T.str),sl (a.gW.map gY.t)]
def dJ.t(a:dJ):T:= .agg a.cs
@[simp] theorem dJ.ag (a:dJ):qW a.t [sl (a.cells.map fN.t),sl (a.dP.map gH.t),sl (a.fP.map iC.t),sl (a.dR.map T.str),sl (a.dp.map T.str),sl (a.gW.map gY.t)] 6:=by
 unfold dJ.t dJ.cs;exact⟨rfl,rfl,λ_ _=>rfl,rfl,by simp[jt],λ_=>by simp,λ_ _=>by simp,by simp,by simp⟩
@[simp] theorem dJ.fold (a0:List fN) (a1:List gH) (a2:List iC) (a3:List (List Nat)) (a4:List (List Nat)) (a5:List gY):T.agg [sl (a0.map fN.t),sl (a1.map gH.t),sl (a2.map iC.t),sl (a3.map T.str),sl (a4.map T.str),sl (a5.map gY.t)]=dJ.t ⟨a0,a1,a2,a3,a4,a5⟩:=rfl
@[simp] theorem dJ.eta (a:dJ):dJ.mk a.cells a.dP a.fP a.dR a.dp a.gW=a:=rfl
theorem dJ.inj{a b:dJ}(c:a.t=b.t):a=b:=by
 rcases a with⟨_,_,_,_,_,_⟩;rcases b with⟨_,_,_,_,_,_⟩;simp only[dJ.t,dJ.cs,T.agg.injEq,aK]at c
 obtain⟨d,e,f,g,h,i,_⟩:=c
 obtain rfl:=gF (λ_ _=>fN.inj) _ _ d;obtain rfl:=gF (λ_ _=>gH.inj) _ _ e;obtain rfl:=gF (λ_ _=>iC.inj) _ _ f;obtain rfl:=gF (λ_ _=>ma) _ _ g;obtain rfl:=gF (λ_ _=>ma) _ _ h;obtain rfl:=gF (λ_ _=>gY.inj) _ _ i;rfl
structure dF where
 iw:Int
 dQ:List Int
 deriving DecidableEq,Inhabited
def dF.cs(a:dF):List T:=[.int .i64 a.iw,sl (a.dQ.map (T.int .i64))]
def dF.t(a:dF):T:= .agg a.cs
@[simp] theorem dF.ag (a:dF):qW a.t [.int .i64 a.iw,sl (a.dQ.map (T.int .i64))] 2:=by
 unfold dF.t dF.cs;exact⟨rfl,rfl,λ_ _=>rfl,rfl,by simp[jt],λ_=>by simp,λ_ _=>by simp,by simp,by simp⟩
@[simp] theorem dF.fold (a0:Int) (a1:List Int):T.agg [.int .i64 a0,sl (a1.map (T.int .i64))]=dF.t ⟨a0,a1⟩:=rfl
@[simp] theorem dF.eta (a:dF):dF.mk a.iw a.dQ=a:=rfl
theorem dF.inj{a b:dF}(c:a.t=b.t):a=b:=by
 rcases a with⟨_,_⟩;rcases b with⟨_,_⟩;simp only[dF.t,dF.cs,T.agg.injEq,aK]at c
 obtain⟨d,e,_⟩:=c
 obtain rfl:=f7 d;obtain rfl:=gF (λ_ _=>f7) _ _ e;rfl
structure dx where
 im:Int
 cond:Int
 atomic:Bool
 deriving DecidableEq,Inhabited
def dx.cs(a:dx):List T:=[.int .i64 a.im,.int .i64 a.cond,.bool a.atomic]
def dx.t(a:dx):T:= .agg a.cs
@[simp] theorem dx.ag (a:dx):qW a.t [.int .i64 a.im,.int .i64 a.cond,.bool a.atomic] 3:=by
 unfold dx.t dx.cs;exact⟨rfl,rfl,λ_ _=>rfl,rfl,by simp[jt],λ_=>by simp,λ_ _=>by simp,by simp,by simp⟩
@[simp] theorem dx.fold (a0:Int) (a1:Int) (a2:Bool):T.agg [.int .i64 a0,.int .i64 a1,.bool a2]=dx.t ⟨a0,a1,a2⟩:=rfl
@[simp] theorem dx.eta (a:dx):dx.mk a.im a.cond a.atomic=a:=rfl
theorem dx.inj{a b:dx}(c:a.t=b.t):a=b:=by
 rcases a with⟨_,_,_⟩;rcases b with⟨_,_,_⟩;simp only[dx.t,dx.cs,T.agg.injEq,aK]at c
 obtain⟨d,e,f,_⟩:=c
 obtain rfl:=f7 d;obtain rfl:=f7 e;obtain rfl:=rF f;rfl
structure ej where
 dP:List dF
 tx:Int
 done:List Bool
 dp:List dx
 deriving DecidableEq,Inhabited
def ej.cs(a:ej):List T:=[sl (a.dP.map dF.t),.int .i64 a.tx,sl (a.done.map T.bool),sl (a.dp.map dx.t)]
def ej.t(a:ej):T:= .agg a.cs
@[simp] theorem ej.ag (a:ej):qW a.t [sl (a.dP.map dF.t),.int .i64 a.tx,sl (a.done.map T.bool),sl (a.dp.map dx.t)] 4:=by
 unfold ej.t ej.cs;exact⟨rfl,rfl,λ_ _=>rfl,rfl,by simp[jt],λ_=>by simp,λ_ _=>by simp,by simp,by simp⟩
@[simp] theorem ej.fold (a0:List dF) (a1:Int) (a2:List Bool) (a3:List dx):T.agg [sl (a0.map dF.t),.int .i64 a1,sl (a2.map T.bool),sl (a3.map dx.t)]=ej.t ⟨a0,a1,a2,a3⟩:=rfl
@[simp] theorem ej.eta (a:ej):ej.mk a.dP a.tx a.done a.dp=a:=rfl
theorem ej.inj{a b:ej}(c:a.t=b.t):a=b:=by
 rcases a with⟨_,_,_,_⟩;rcases b with⟨_,_,_,_⟩;simp only[ej.t,ej.cs,T.agg.injEq,aK]at c
 obtain⟨d,e,f,g,_⟩:=c
 obtain rfl:=gF (λ_ _=>dF.inj) _ _ d;obtain rfl:=f7 e;obtain rfl:=gF (λ_ _=>rF) _ _ f;obtain rfl:=gF (λ_ _=>dx.inj) _ _ g;rfl
structure dW where
 fW:ej
 cells:List Int
 dR:List Int
 count:List Int
 deriving DecidableEq,Inhabited
def dW.cs(a:dW):List T:=[sl (a.fW.dP.map dF.t),.int .i64 a.fW.tx,sl (a.fW.done.map T.bool),sl (a.fW.dp.map dx.t),sl (a.cells.map (T.int .i64)),sl (a.dR.map (T.int .i64)),sl (a.count.map (T.int .i64))]
def dW.t(a:dW):T:= .agg a.cs
@[simp] theorem dW.ag (a:dW):qW a.t [sl (a.fW.dP.map dF.t),.int .i64 a.fW.tx,sl (a.fW.done.map T.bool),sl (a.fW.dp.map dx.t),sl (a.cells.map (T.int .i64)),sl (a.dR.map (T.int .i64)),sl (a.count.map (T.int .i64))] 7:=by
 unfold dW.t dW.cs;exact⟨rfl,rfl,λ_ _=>rfl,rfl,by simp[jt],λ_=>by simp,λ_ _=>by simp,by simp,by simp⟩
@[simp] theorem dW.fold (a0:List dF) (a1:Int) (a2:List Bool) (a3:List dx) (a4:List Int) (a5:List Int) (a:List Int):T.agg [sl (a0.map dF.t),.int .i64 a1,sl (a2.map T.bool),sl (a3.map dx.t),sl (a4.map (T.int .i64)),sl (a5.map (T.int .i64)),sl (a.map (T.int .i64))]=dW.t ⟨⟨a0,a1,a2,a3⟩,a4,a5,a⟩:=rfl
@[simp] theorem dW.eta (a:dW):dW.mk a.fW a.cells a.dR a.count=a:=rfl
theorem dW.inj{a b:dW}(c:a.t=b.t):a=b:=by
 rcases a with⟨⟨_,_,_,_⟩,_,_,_⟩;rcases b with⟨⟨_,_,_,_⟩,_,_,_⟩;simp only[dW.t,dW.cs,T.agg.injEq,aK]at c
 obtain⟨d,e,f,g,h,i,j,_⟩:=c
 obtain rfl:=gF (λ_ _=>dF.inj) _ _ d;obtain rfl:=f7 e;obtain rfl:=gF (λ_ _=>rF) _ _ f;obtain rfl:=gF (λ_ _=>dx.inj) _ _ g;obtain rfl:=gF (λ_ _=>f7) _ _ h;obtain rfl:=gF (λ_ _=>f7) _ _ i;obtain rfl:=gF (λ_ _=>f7) _ _ j;rfl
structure dN where
 dA:Int
 kind:Int
 obj:Int
 value:Int
 iF:Int
 mt:List Int
 uI:List Int
 deriving DecidableEq,Inhabited
def dN.cs(a:dN):List T:=[.int .i64 a.dA,.int .i64 a.kind,.int .i64 a.obj,.int .i64 a.value,.int .i64 a.iF,sl (a.mt.map (T.int .i64)),sl (a.uI.map (T.int .i64))]
def dN.t(a:dN):T:= .agg a.cs
@[simp] theorem dN.ag (a:dN):qW a.t [.int .i64 a.dA,.int .i64 a.kind,.int .i64 a.obj,.int .i64 a.value,.int .i64 a.iF,sl (a.mt.map (T.int .i64)),sl (a.uI.map (T.int .i64))] 7:=by
 unfold dN.t dN.cs;exact⟨rfl,rfl,λ_ _=>rfl,rfl,by simp[jt],λ_=>by simp,λ_ _=>by simp,by simp,by simp⟩
@[simp] theorem dN.fold (a0:Int) (a1:Int) (a2:Int) (a3:Int) (a4:Int) (a5:List Int) (a:List Int):T.agg [.int .i64 a0,.int .i64 a1,.int .i64 a2,.int .i64 a3,.int .i64 a4,sl (a5.map (T.int .i64)),sl (a.map (T.int .i64))]=dN.t ⟨a0,a1,a2,a3,a4,a5,a⟩:=rfl
@[simp] theorem dN.eta (a:dN):dN.mk a.dA a.kind a.obj a.value a.iF a.mt a.uI=a:=rfl
theorem dN.inj{a b:dN}(c:a.t=b.t):a=b:=by
 rcases a with⟨_,_,_,_,_,_,_⟩;rcases b with⟨_,_,_,_,_,_,_⟩;simp only[dN.t,dN.cs,T.agg.injEq,aK]at c
 obtain⟨d,e,f,g,h,i,j,_⟩:=c
 obtain rfl:=f7 d;obtain rfl:=f7 e;obtain rfl:=f7 f;obtain rfl:=f7 g;obtain rfl:=f7 h;obtain rfl:=gF (λ_ _=>f7) _ _ i;obtain rfl:=gF (λ_ _=>f7) _ _ j;rfl
structure dZ where
 d8:dJ
 start:Int
 lY:dW
 dw:List dN
 deriving DecidableEq,Inhabited
def dZ.cs(a:dZ):List T:=[sl (a.d8.cells.map fN.t),sl (a.d8.dP.map gH.t),sl (a.d8.fP.map iC.t),sl (a.d8.dR.map T.str),sl (a.d8.dp.map T.str),sl (a.d8.gW.map gY.t),.int .i64 a.start,sl (a.lY.fW.dP.map dF.t),.int .i64 a.lY.fW.tx,sl (a.lY.fW.done.map T.bool),sl (a.lY.fW.dp.map dx.t),sl (a.lY.cells.map (T.int .i64)),sl (a.lY.dR.map (T.int .i64)),sl (a.lY.count.map (T.int .i64)),sl (a.dw.map dN.t)]
def dZ.t(a:dZ):T:= .agg a.cs
@[simp] theorem dZ.ag (a:dZ):qW a.t [sl (a.d8.cells.map fN.t),sl (a.d8.dP.map gH.t),sl (a.d8.fP.map iC.t),sl (a.d8.dR.map T.str),sl (a.d8.dp.map T.str),sl (a.d8.gW.map gY.t),.int .i64 a.start,sl (a.lY.fW.dP.map dF.t),.int .i64 a.lY.fW.tx,sl (a.lY.fW.done.map T.bool),sl (a.lY.fW.dp.map dx.t),sl (a.lY.cells.map (T.int .i64)),sl (a.lY.dR.map (T.int .i64)),sl (a.lY.count.map (T.int .i64)),sl (a.dw.map dN.t)] 15:=by
 unfold dZ.t dZ.cs;exact⟨rfl,rfl,λ_ _=>rfl,rfl,by simp[jt],λ_=>by simp,λ_ _=>by simp,by simp,by simp⟩
@[simp] theorem dZ.fold (a0:List fN) (a1:List gH) (a2:List iC) (a3:List (List Nat)) (a4:List (List Nat)) (a5:List gY) (f:Int) (g:List dF) (h:Int) (i:List Bool) (a:List dx) (b:List Int) (c:List Int) (d:List Int) (e:List dN):T.agg [sl (a0.map fN.t),sl (a1.map gH.t),sl (a2.map iC.t),sl (a3.map T.str),sl (a4.map T.str),sl (a5.map gY.t),.int .i64 f,sl (g.map dF.t),.int .i64 h,sl (i.map T.bool),sl (a.map dx.t),sl (b.map (T.int .i64)),sl (c.map (T.int .i64)),sl (d.map (T.int .i64)),sl (e.map dN.t)]=dZ.t ⟨⟨a0,a1,a2,a3,a4,a5⟩,f,⟨⟨g,h,i,a⟩,b,c,d⟩,e⟩:=rfl
@[simp] theorem dZ.eta (a:dZ):dZ.mk a.d8 a.start a.lY a.dw=a:=rfl
theorem dZ.inj{a b:dZ}(c:a.t=b.t):a=b:=by
 rcases a with⟨⟨_,_,_,_,_,_⟩,_,⟨⟨_,_,_,_⟩,_,_,_⟩,_⟩;rcases b with⟨⟨_,_,_,_,_,_⟩,_,⟨⟨_,_,_,_⟩,_,_,_⟩,_⟩;simp only[dZ.t,dZ.cs,T.agg.injEq,aK]at c
 obtain⟨d,e,k,l,m,n,o,p,q,r,f,g,h,i,j,_⟩:=c
 obtain rfl:=gF (λ_ _=>fN.inj) _ _ d;obtain rfl:=gF (λ_ _=>gH.inj) _ _ e;obtain rfl:=gF (λ_ _=>iC.inj) _ _ k;obtain rfl:=gF (λ_ _=>ma) _ _ l;obtain rfl:=gF (λ_ _=>ma) _ _ m;obtain rfl:=gF (λ_ _=>gY.inj) _ _ n;obtain rfl:=f7 o;obtain rfl:=gF (λ_ _=>dF.inj) _ _ p;obtain rfl:=f7 q;obtain rfl:=gF (λ_ _=>rF) _ _ r;obtain rfl:=gF (λ_ _=>dx.inj) _ _ f;obtain rfl:=gF (λ_ _=>f7) _ _ g;obtain rfl:=gF (λ_ _=>f7) _ _ h;obtain rfl:=gF (λ_ _=>f7) _ _ i;obtain rfl:=gF (λ_ _=>dN.inj) _ _ j;rfl
structure fw where
 kind:Int
 a:Int
 b:Int
 c:Int
 d:Int
 jf:List Int
 deriving DecidableEq,Inhabited
def fw.cs(e:fw):List T:=[.int .i64 e.kind,.int .i64 e.a,.int .i64 e.b,.int .i64 e.c,.int .i64 e.d,sl (e.jf.map (T.int .i64))]
def fw.t(a:fw):T:= .agg a.cs
@[simp] theorem fw.ag (e:fw):qW e.t [.int .i64 e.kind,.int .i64 e.a,.int .i64 e.b,.int .i64 e.c,.int .i64 e.d,sl (e.jf.map (T.int .i64))] 6:=by
 unfold fw.t fw.cs;exact⟨rfl,rfl,λ_ _=>rfl,rfl,by simp[jt],λ_=>by simp,λ_ _=>by simp,by simp,by simp⟩
@[simp] theorem fw.fold (a0:Int) (a1:Int) (a2:Int) (a3:Int) (a4:Int) (a5:List Int):T.agg [.int .i64 a0,.int .i64 a1,.int .i64 a2,.int .i64 a3,.int .i64 a4,sl (a5.map (T.int .i64))]=fw.t ⟨a0,a1,a2,a3,a4,a5⟩:=rfl
@[simp] theorem fw.eta (e:fw):fw.mk e.kind e.a e.b e.c e.d e.jf=e:=rfl
theorem fw.inj{a b:fw}(c:a.t=b.t):a=b:=by
 rcases a with⟨_,_,_,_,_,_⟩;rcases b with⟨_,_,_,_,_,_⟩;simp only[fw.t,fw.cs,T.agg.injEq,aK]at c
 obtain⟨d,e,f,g,h,i,_⟩:=c
 obtain rfl:=f7 d;obtain rfl:=f7 e;obtain rfl:=f7 f;obtain rfl:=f7 g;obtain rfl:=f7 h;obtain rfl:=gF (λ_ _=>f7) _ _ i;rfl
structure jG where
 d8:dJ
 dw:List dN
 deriving DecidableEq,Inhabited
def jG.cs(a:jG):List T:=[sl (a.d8.cells.map fN.t),sl (a.d8.dP.map gH.t),sl (a.d8.fP.map iC.t),sl (a.d8.dR.map T.str),sl (a.d8.dp.map T.str),sl (a.d8.gW.map gY.t),sl (a.dw.map dN.t)]
def jG.t(a:jG):T:= .agg a.cs
@[simp] theorem jG.ag (a:jG):qW a.t [sl (a.d8.cells.map fN.t),sl (a.d8.dP.map gH.t),sl (a.d8.fP.map iC.t),sl (a.d8.dR.map T.str),sl (a.d8.dp.map T.str),sl (a.d8.gW.map gY.t),sl (a.dw.map dN.t)] 7:=by
 unfold jG.t jG.cs;exact⟨rfl,rfl,λ_ _=>rfl,rfl,by simp[jt],λ_=>by simp,λ_ _=>by simp,by simp,by simp⟩
@[simp] theorem jG.fold (a0:List fN) (a1:List gH) (a2:List iC) (a3:List (List Nat)) (a4:List (List Nat)) (a5:List gY) (a:List dN):T.agg [sl (a0.map fN.t),sl (a1.map gH.t),sl (a2.map iC.t),sl (a3.map T.str),sl (a4.map T.str),sl (a5.map gY.t),sl (a.map dN.t)]=jG.t ⟨⟨a0,a1,a2,a3,a4,a5⟩,a⟩:=rfl
@[simp] theorem jG.eta (a:jG):jG.mk a.d8 a.dw=a:=rfl
theorem jG.inj{a b:jG}(c:a.t=b.t):a=b:=by
 rcases a with⟨⟨_,_,_,_,_,_⟩,_⟩;rcases b with⟨⟨_,_,_,_,_,_⟩,_⟩;simp only[jG.t,jG.cs,T.agg.injEq,aK]at c
 obtain⟨d,e,f,g,h,i,j,_⟩:=c
 obtain rfl:=gF (λ_ _=>fN.inj) _ _ d;obtain rfl:=gF (λ_ _=>gH.inj) _ _ e;obtain rfl:=gF (λ_ _=>iC.inj) _ _ f;obtain rfl:=gF (λ_ _=>ma) _ _ g;obtain rfl:=gF (λ_ _=>ma) _ _ h;obtain rfl:=gF (λ_ _=>gY.inj) _ _ i;obtain rfl:=gF (λ_ _=>dN.inj) _ _ j;rfl
structure em where
 w:dZ
 Az:List ej
 deriving DecidableEq,Inhabited
def em.cs(a:em):List T:=[sl (a.w.d8.cells.map fN.t),sl (a.w.d8.dP.map gH.t),sl (a.w.d8.fP.map iC.t),sl (a.w.d8.dR.map T.str),sl (a.w.d8.dp.map T.str),sl (a.w.d8.gW.map gY.t),.int .i64 a.w.start,sl (a.w.lY.fW.dP.map dF.t),.int .i64 a.w.lY.fW.tx,sl (a.w.lY.fW.done.map T.bool),sl (a.w.lY.fW.dp.map dx.t),sl (a.w.lY.cells.map (T.int .i64)),sl (a.w.lY.dR.map (T.int .i64)),sl (a.w.lY.count.map (T.int .i64)),sl (a.w.dw.map dN.t),sl (a.Az.map ej.t)]
def em.t(a:em):T:= .agg a.cs
@[simp] theorem em.ag (a:em):qW a.t [sl (a.w.d8.cells.map fN.t),sl (a.w.d8.dP.map gH.t),sl (a.w.d8.fP.map iC.t),sl (a.w.d8.dR.map T.str),sl (a.w.d8.dp.map T.str),sl (a.w.d8.gW.map gY.t),.int .i64 a.w.start,sl (a.w.lY.fW.dP.map dF.t),.int .i64 a.w.lY.fW.tx,sl (a.w.lY.fW.done.map T.bool),sl (a.w.lY.fW.dp.map dx.t),sl (a.w.lY.cells.map (T.int .i64)),sl (a.w.lY.dR.map (T.int .i64)),sl (a.w.lY.count.map (T.int .i64)),sl (a.w.dw.map dN.t),sl (a.Az.map ej.t)] 16:=by
 unfold em.t em.cs;exact⟨rfl,rfl,λ_ _=>rfl,rfl,by simp[jt],λ_=>by simp,λ_ _=>by simp,by simp,by simp⟩
@[simp] theorem em.fold (a0:List fN) (a1:List gH) (a2:List iC) (a3:List (List Nat)) (a4:List (List Nat)) (a5:List gY) (g:Int) (h:List dF) (i:Int) (j:List Bool) (a:List dx) (b:List Int) (c:List Int) (d:List Int) (e:List dN) (f:List ej):T.agg [sl (a0.map fN.t),sl (a1.map gH.t),sl (a2.map iC.t),sl (a3.map T.str),sl (a4.map T.str),sl (a5.map gY.t),.int .i64 g,sl (h.map dF.t),.int .i64 i,sl (j.map T.bool),sl (a.map dx.t),sl (b.map (T.int .i64)),sl (c.map (T.int .i64)),sl (d.map (T.int .i64)),sl (e.map dN.t),sl (f.map ej.t)]=em.t ⟨⟨⟨a0,a1,a2,a3,a4,a5⟩,g,⟨⟨h,i,j,a⟩,b,c,d⟩,e⟩,f⟩:=rfl
@[simp] theorem em.eta (a:em):em.mk a.w a.Az=a:=rfl
theorem em.inj{a b:em}(c:a.t=b.t):a=b:=by
 rcases a with⟨⟨⟨_,_,_,_,_,_⟩,_,⟨⟨_,_,_,_⟩,_,_,_⟩,_⟩,_⟩;rcases b with⟨⟨⟨_,_,_,_,_,_⟩,_,⟨⟨_,_,_,_⟩,_,_,_⟩,_⟩,_⟩;simp only[em.t,em.cs,T.agg.injEq,aK]at c
 obtain⟨d,e,l,m,n,o,p,q,r,s,f,g,h,i,j,k,_⟩:=c
 obtain rfl:=gF (λ_ _=>fN.inj) _ _ d;obtain rfl:=gF (λ_ _=>gH.inj) _ _ e;obtain rfl:=gF (λ_ _=>iC.inj) _ _ l;obtain rfl:=gF (λ_ _=>ma) _ _ m;obtain rfl:=gF (λ_ _=>ma) _ _ n;obtain rfl:=gF (λ_ _=>gY.inj) _ _ o;obtain rfl:=f7 p;obtain rfl:=gF (λ_ _=>dF.inj) _ _ q;obtain rfl:=f7 r;obtain rfl:=gF (λ_ _=>rF) _ _ s;obtain rfl:=gF (λ_ _=>dx.inj) _ _ f;obtain rfl:=gF (λ_ _=>f7) _ _ g;obtain rfl:=gF (λ_ _=>f7) _ _ h;obtain rfl:=gF (λ_ _=>f7) _ _ i;obtain rfl:=gF (λ_ _=>dN.inj) _ _ j;obtain rfl:=gF (λ_ _=>ej.inj) _ _ k;rfl
structure fa where
 op:Int
 a:Int
 b:Int
 c:Int
 n:Int
 iF:Int
 deriving DecidableEq,Inhabited
def fa.cs(d:fa):List T:=[.int .i64 d.op,.int .i64 d.a,.int .i64 d.b,.int .i64 d.c,.int .i64 d.n,.int .i64 d.iF]
def fa.t(a:fa):T:= .agg a.cs
@[simp] theorem fa.ag (d:fa):qW d.t [.int .i64 d.op,.int .i64 d.a,.int .i64 d.b,.int .i64 d.c,.int .i64 d.n,.int .i64 d.iF] 6:=by
 unfold fa.t fa.cs;exact⟨rfl,rfl,λ_ _=>rfl,rfl,by simp[jt],λ_=>by simp,λ_ _=>by simp,by simp,by simp⟩
@[simp] theorem fa.fold (a0:Int) (a1:Int) (a2:Int) (a3:Int) (a4:Int) (a5:Int):T.agg [.int .i64 a0,.int .i64 a1,.int .i64 a2,.int .i64 a3,.int .i64 a4,.int .i64 a5]=fa.t ⟨a0,a1,a2,a3,a4,a5⟩:=rfl
@[simp] theorem fa.eta (d:fa):fa.mk d.op d.a d.b d.c d.n d.iF=d:=rfl
theorem fa.inj{a b:fa}(c:a.t=b.t):a=b:=by
 rcases a with⟨_,_,_,_,_,_⟩;rcases b with⟨_,_,_,_,_,_⟩;simp only[fa.t,fa.cs,T.agg.injEq,aK]at c
 obtain⟨d,e,f,g,h,i,_⟩:=c
 obtain rfl:=f7 d;obtain rfl:=f7 e;obtain rfl:=f7 f;obtain rfl:=f7 g;obtain rfl:=f7 h;obtain rfl:=f7 i;rfl
structure fq where
 iq:Int
 iJ:List fa
 deriving DecidableEq,Inhabited
def fq.cs(a:fq):List T:=[.int .i64 a.iq,sl (a.iJ.map fa.t)]
def fq.t(a:fq):T:= .agg a.cs
@[simp] theorem fq.ag (a:fq):qW a.t [.int .i64 a.iq,sl (a.iJ.map fa.t)] 2:=by
 unfold fq.t fq.cs;exact⟨rfl,rfl,λ_ _=>rfl,rfl,by simp[jt],λ_=>by simp,λ_ _=>by simp,by simp,by simp⟩
@[simp] theorem fq.fold (a0:Int) (a1:List fa):T.agg [.int .i64 a0,sl (a1.map fa.t)]=fq.t ⟨a0,a1⟩:=rfl
@[simp] theorem fq.eta (a:fq):fq.mk a.iq a.iJ=a:=rfl
theorem fq.inj{a b:fq}(c:a.t=b.t):a=b:=by
 rcases a with⟨_,_⟩;rcases b with⟨_,_⟩;simp only[fq.t,fq.cs,T.agg.injEq,aK]at c
 obtain⟨d,e,_⟩:=c
 obtain rfl:=f7 d;obtain rfl:=gF (λ_ _=>fa.inj) _ _ e;rfl
structure jh where
 d8:dJ
 dp:List fq
 deriving DecidableEq,Inhabited
def jh.cs(a:jh):List T:=[sl (a.d8.cells.map fN.t),sl (a.d8.dP.map gH.t),sl (a.d8.fP.map iC.t),sl (a.d8.dR.map T.str),sl (a.d8.dp.map T.str),sl (a.d8.gW.map gY.t),sl (a.dp.map fq.t)]
def jh.t(a:jh):T:= .agg a.cs
@[simp] theorem jh.ag (a:jh):qW a.t [sl (a.d8.cells.map fN.t),sl (a.d8.dP.map gH.t),sl (a.d8.fP.map iC.t),sl (a.d8.dR.map T.str),sl (a.d8.dp.map T.str),sl (a.d8.gW.map gY.t),sl (a.dp.map fq.t)] 7:=by
 unfold jh.t jh.cs;exact⟨rfl,rfl,λ_ _=>rfl,rfl,by simp[jt],λ_=>by simp,λ_ _=>by simp,by simp,by simp⟩
@[simp] theorem jh.fold (a0:List fN) (a1:List gH) (a2:List iC) (a3:List (List Nat)) (a4:List (List Nat)) (a5:List gY) (a:List fq):T.agg [sl (a0.map fN.t),sl (a1.map gH.t),sl (a2.map iC.t),sl (a3.map T.str),sl (a4.map T.str),sl (a5.map gY.t),sl (a.map fq.t)]=jh.t ⟨⟨a0,a1,a2,a3,a4,a5⟩,a⟩:=rfl
@[simp] theorem jh.eta (a:jh):jh.mk a.d8 a.dp=a:=rfl
theorem jh.inj{a b:jh}(c:a.t=b.t):a=b:=by
 rcases a with⟨⟨_,_,_,_,_,_⟩,_⟩;rcases b with⟨⟨_,_,_,_,_,_⟩,_⟩;simp only[jh.t,jh.cs,T.agg.injEq,aK]at c
 obtain⟨d,e,f,g,h,i,j,_⟩:=c
 obtain rfl:=gF (λ_ _=>fN.inj) _ _ d;obtain rfl:=gF (λ_ _=>gH.inj) _ _ e;obtain rfl:=gF (λ_ _=>iC.inj) _ _ f;obtain rfl:=gF (λ_ _=>ma) _ _ g;obtain rfl:=gF (λ_ _=>ma) _ _ h;obtain rfl:=gF (λ_ _=>gY.inj) _ _ i;obtain rfl:=gF (λ_ _=>fq.inj) _ _ j;rfl
structure dK where
 pC:Int
 iq:List Int
 jD:List (List Int)
 dw:Int
 deriving DecidableEq,Inhabited
def dK.cs(a:dK):List T:=[.int .i64 a.pC,sl (a.iq.map (T.int .i64)),sl (a.jD.map (λb=>sl (b.map (T.int .i64)))),.int .i64 a.dw]
def dK.t(a:dK):T:= .agg a.cs
@[simp] theorem dK.ag (a:dK):qW a.t [.int .i64 a.pC,sl (a.iq.map (T.int .i64)),sl (a.jD.map (λb=>sl (b.map (T.int .i64)))),.int .i64 a.dw] 4:=by
 unfold dK.t dK.cs;exact⟨rfl,rfl,λ_ _=>rfl,rfl,by simp[jt],λ_=>by simp,λ_ _=>by simp,by simp,by simp⟩
@[simp] theorem dK.fold (a0:Int) (a1:List Int) (a2:List (List Int)) (a3:Int):T.agg [.int .i64 a0,sl (a1.map (T.int .i64)),sl (a2.map (λa=>sl (a.map (T.int .i64)))),.int .i64 a3]=dK.t ⟨a0,a1,a2,a3⟩:=rfl
@[simp] theorem dK.eta (a:dK):dK.mk a.pC a.iq a.jD a.dw=a:=rfl
theorem dK.inj{a b:dK}(c:a.t=b.t):a=b:=by
 rcases a with⟨_,_,_,_⟩;rcases b with⟨_,_,_,_⟩;simp only[dK.t,dK.cs,T.agg.injEq,aK]at c
 obtain⟨d,e,f,g,_⟩:=c
 obtain rfl:=f7 d;obtain rfl:=gF (λ_ _=>f7) _ _ e;obtain rfl:=gF (gF (λ_ _=>f7)) _ _ f;obtain rfl:=f7 g;rfl
structure gJ where
 fW:ej
 cells:List Int
 dR:List Int
 dp:List dK
 deriving DecidableEq,Inhabited
def gJ.cs(a:gJ):List T:=[sl (a.fW.dP.map dF.t),.int .i64 a.fW.tx,sl (a.fW.done.map T.bool),sl (a.fW.dp.map dx.t),sl (a.cells.map (T.int .i64)),sl (a.dR.map (T.int .i64)),sl (a.dp.map dK.t)]
def gJ.t(a:gJ):T:= .agg a.cs
@[simp] theorem gJ.ag (a:gJ):qW a.t [sl (a.fW.dP.map dF.t),.int .i64 a.fW.tx,sl (a.fW.done.map T.bool),sl (a.fW.dp.map dx.t),sl (a.cells.map (T.int .i64)),sl (a.dR.map (T.int .i64)),sl (a.dp.map dK.t)] 7:=by
 unfold gJ.t gJ.cs;exact⟨rfl,rfl,λ_ _=>rfl,rfl,by simp[jt],λ_=>by simp,λ_ _=>by simp,by simp,by simp⟩
@[simp] theorem gJ.fold (a0:List dF) (a1:Int) (a2:List Bool) (a3:List dx) (a4:List Int) (a5:List Int) (a:List dK):T.agg [sl (a0.map dF.t),.int .i64 a1,sl (a2.map T.bool),sl (a3.map dx.t),sl (a4.map (T.int .i64)),sl (a5.map (T.int .i64)),sl (a.map dK.t)]=gJ.t ⟨⟨a0,a1,a2,a3⟩,a4,a5,a⟩:=rfl
@[simp] theorem gJ.eta (a:gJ):gJ.mk a.fW a.cells a.dR a.dp=a:=rfl
theorem gJ.inj{a b:gJ}(c:a.t=b.t):a=b:=by
 rcases a with⟨⟨_,_,_,_⟩,_,_,_⟩;rcases b with⟨⟨_,_,_,_⟩,_,_,_⟩;simp only[gJ.t,gJ.cs,T.agg.injEq,aK]at c
 obtain⟨d,e,f,g,h,i,j,_⟩:=c
 obtain rfl:=gF (λ_ _=>dF.inj) _ _ d;obtain rfl:=f7 e;obtain rfl:=gF (λ_ _=>rF) _ _ f;obtain rfl:=gF (λ_ _=>dx.inj) _ _ g;obtain rfl:=gF (λ_ _=>f7) _ _ h;obtain rfl:=gF (λ_ _=>f7) _ _ i;obtain rfl:=gF (λ_ _=>dK.inj) _ _ j;rfl
structure iD where
 dA:Int
 Di:Int
 deriving DecidableEq,Inhabited
def iD.cs(a:iD):List T:=[.int .i64 a.dA,.int .i64 a.Di]
def iD.t(a:iD):T:= .agg a.cs
@[simp] theorem iD.ag (a:iD):qW a.t [.int .i64 a.dA,.int .i64 a.Di] 2:=by
 unfold iD.t iD.cs;exact⟨rfl,rfl,λ_ _=>rfl,rfl,by simp[jt],λ_=>by simp,λ_ _=>by simp,by simp,by simp⟩
@[simp] theorem iD.fold (a0:Int) (a1:Int):T.agg [.int .i64 a0,.int .i64 a1]=iD.t ⟨a0,a1⟩:=rfl
@[simp] theorem iD.eta (a:iD):iD.mk a.dA a.Di=a:=rfl
theorem iD.inj{a b:iD}(c:a.t=b.t):a=b:=by
 rcases a with⟨_,_⟩;rcases b with⟨_,_⟩;simp only[iD.t,iD.cs,T.agg.injEq,aK]at c
 obtain⟨d,e,_⟩:=c
 obtain rfl:=f7 d;obtain rfl:=f7 e;rfl
structure f6 where
 kind:Int
 tK:Int
 name:List Nat
 size:Int
 lY:Int
 on:List Nat
 deriving DecidableEq,Inhabited
def f6.cs(a:f6):List T:=[.int .i64 a.kind,.int .i64 a.tK,.str a.name,.int .i64 a.size,.int .i64 a.lY,.str a.on]
def f6.t(a:f6):T:= .agg a.cs
@[simp] theorem f6.ag (a:f6):qW a.t [.int .i64 a.kind,.int .i64 a.tK,.str a.name,.int .i64 a.size,.int .i64 a.lY,.str a.on] 6:=by
 unfold f6.t f6.cs;exact⟨rfl,rfl,λ_ _=>rfl,rfl,by simp[jt],λ_=>by simp,λ_ _=>by simp,by simp,by simp⟩
@[simp] theorem f6.fold (a0:Int) (a1:Int) (a2:List Nat) (a3:Int) (a4:Int) (a5:List Nat):T.agg [.int .i64 a0,.int .i64 a1,.str a2,.int .i64 a3,.int .i64 a4,.str a5]=f6.t ⟨a0,a1,a2,a3,a4,a5⟩:=rfl
@[simp] theorem f6.eta (a:f6):f6.mk a.kind a.tK a.name a.size a.lY a.on=a:=rfl
theorem f6.inj{a b:f6}(c:a.t=b.t):a=b:=by
 rcases a with⟨_,_,_,_,_,_⟩;rcases b with⟨_,_,_,_,_,_⟩;simp only[f6.t,f6.cs,T.agg.injEq,aK]at c
 obtain⟨d,e,f,g,h,i,_⟩:=c
 obtain rfl:=f7 d;obtain rfl:=f7 e;obtain rfl:=ma f;obtain rfl:=f7 g;obtain rfl:=f7 h;obtain rfl:=ma i;rfl
def iI(a:Int)(b:Nat):Bool:=decide (0<=a/\a<b)
def wi{b:Type}(c:List b)(a:Int):aa b:=if 0<=a then c[a.toNat]? else none
theorem ed{a:Int}{b:Nat}:iI a b=true↔0<=a/\a.toNat<b:=by unfold iI;simp;omega
theorem C0{a:Int}{c:Nat}(b:iI a c=false):¬(0<=a/\a.toNat<c):=λd=>by rw[ed.2 d]at b;simp at b
theorem ij{g:Type}{b:List g}{a:Int}(e:iI a b.length=true):∃d,b[a.toNat]? =some d/\wi b a=some d:=by
 obtain⟨f,c⟩:=ed.1 e
 exact⟨b[a.toNat],by simp[c],by simp[wi,f,c]⟩
theorem rH{d:Type}{b:List d}{a:Int}(c:iI a b.length=false):wi b a=none:=by
 have:=C0 c
 unfold wi
 split
 ·simp;omega
 ·rfl
def mW(a:dJ)(b:ej):Bool:=(a.fP.all λc=>iI c.kP a.dP.length)&&decide (b.dP.length=a.dP.length)&&decide (b.done.length=a.dR.length)&&decide (b.dp.length=a.dp.length)
def jn(c:dJ)(a b:Int):Bool:=
 if a=1\/a=2\/a=5\/a=12\/a=13\/a=14\/a=15 then decide (b=-1)
 else if a=3\/a=4 then iI b c.cells.length
 else if a=6\/a=7 then(match wi c.dP b with|some d=> !d.rW|none=>false)
 else if a=8\/a=9\/a=10\/a=11 then(match wi c.dP b with|some d=>d.rW|none=>false)
 else if a=16\/a=17\/a=18\/a=19 then iI b c.fP.length
 else if a=20\/a=21 then iI b c.dp.length
 else if a=22\/a=23 then iI b c.dR.length
 else false
def gu(a:Int):List dx->Nat->List Int
 | [],_=>[]
 |t::c,b=>if t.im=3/\t.cond=a then(b:Int)::gu a c (b+1)else gu a c (b+1)
def lN(b:ej)(a:Int):dF:=(wi b.dP a).getD default
def oQ(b:ej)(a:Int):dx:=(wi b.dp a).getD default
def qQ(c:dJ)(b:ej)(a:Int):dF:=lN b ((wi c.fP a).getD default).kP
def BE(b:ej)(a:Int):Bool:=(wi b.done a).getD false
def Ah(e:dJ)(a:ej)(d b c:Int):Bool:=
 if b=1 then decide ((oQ a d).im=1)
 else if b=17 then decide ((oQ a d).im=4)&&decide ((oQ a d).cond=c)&&decide ((qQ e a c).iw=-1)
 else if¬(oQ a d).im=2 then false
 else if b=6 then decide ((lN a c).iw=-1)
 else if b=10 then decide ((lN a c).iw=-1)&&decide ((lN a c).dQ=[])
 else if b=8 then decide ((lN a c).iw=-1)&& !decide (d∈(lN a c).dQ)
 else if b=7\/b=11 then decide ((lN a c).iw=d)
 else if b=9 then decide (d∈(lN a c).dQ)
 else if b=12 then decide (a.tx=-1)
 else if b=13 then decide (a.tx=d)
 else if b=14 then !(oQ a d).atomic
 else if b=15 then(oQ a d).atomic
 else if b=16\/b=18\/b=19 then decide ((qQ e a c).iw=d)
 else if b=20 then !decide (c=d)&&decide ((oQ a c).im=0)
 else if b=21 then !decide (c=d)&&decide ((oQ a c).im=5)
 else if b=22 then !BE a c
 else if b=23 then BE a c
 else true
def jo(a:dJ)(d:ej)(e b c:Int):Bool:=mW a d&&iI e a.dp.length&&jn a b c&&Ah a d e b c
theorem nq{c:dJ}{b:ej}(a:mW c b=true):b.dP.length=c.dP.length/\b.done.length=c.dR.length/\b.dp.length=c.dp.length:=by
 unfold mW at a;simp at a;exact⟨a.1.1.2,a.1.2,a.2⟩
theorem qO{c:dJ}{f:ej}(b:mW c f=true){e:Nat}{a:iC}(d:c.fP[e]? =some a):iI a.kP c.dP.length=true:=by
 unfold mW at b;simp at b;exact b.1.1.1 a (az d)
theorem sH{d:dJ}{a c:Int}(b:jn d a c=true):a=1\/a=2\/a=3\/a=4\/a=5\/a=12\/a=13\/a=14\/a=15\/(a=6\/a=7\/a=8\/a=9\/a=10\/a=11)\/(a=16\/a=17\/a=18\/a=19)\/(a=20\/a=21)\/(a=22\/a=23):=by
 by_cases e:1<=a/\a<=23
 ·omega
 ·exfalso
  unfold jn at b
  rw[ao (by omega),ao (by omega),ao (by omega),ao (by omega),ao (by omega),ao (by omega),ao (by omega)]at b
  simp at b
theorem kr{d:dJ}{a c:Int}(b:jn d a c=true)(e:a=6\/a=7\/a=8\/a=9\/a=10\/a=11):iI c d.dP.length=true:=by
 cases hl:iI c d.dP.length with
 |true=>rfl
 |false=>
  unfold jn at b
  rw[ao (by omega),ao (by omega)]at b
  rcases e with rfl|rfl|rfl|rfl|rfl|rfl<;>simp[rH hl]at b
theorem nd{d:dJ}{a c:Int}(b:jn d a c=true)(e:a=16\/a=17\/a=18\/a=19):iI c d.fP.length=true:=by
 unfold jn at b
 rwa[ao (by omega),ao (by omega),ao (by omega),ao (by omega),aq e]at b
theorem vi{d:dJ}{a c:Int}(b:jn d a c=true)(e:a=20\/a=21):iI c d.dp.length=true:=by
 unfold jn at b
 rwa[ao (by omega),ao (by omega),ao (by omega),ao (by omega),ao (by omega),aq e]at b
theorem qh{d:dJ}{a c:Int}(b:jn d a c=true)(e:a=22\/a=23):iI c d.dR.length=true:=by
 unfold jn at b
 rwa[ao (by omega),ao (by omega),ao (by omega),ao (by omega),ao (by omega),ao (by omega),aq e]at b
def ej.sm(a:ej):Prop:=a.dP.length<=1099511627776/\a.done.length<=1099511627776/\a.dp.length<=1099511627776/\∀b∈a.dP,b.dQ.length<=1000000000000
def ej.oc(a:ej)(i:Int)(b:dx->dx):ej:={a with dp:=a.dp.modify i.toNat b}
def ej.pA(a:ej)(c:Int)(b:dF->dF):ej:={a with dP:=a.dP.modify c.toNat b}
def j1(a:Int)(b:dx):dx:={b with im:=a}
def lf:List Int->Int->List Int
 | [],a=>[a]
 |x::b,a=>if x<a then x::lf b a else if x=a then x::b else a::x::b
def w8(a c:Int)(b:List dx):Int:=if c∈gu a b 0 then c else(gu a b 0).headD (-1)
def dV(g:dJ)(a:ej)(f b c h:Int):ej×Int:=
 if b=1 then(a.oc f (j1 2),0)
 else if b=2 then(a.oc f (j1 5),0)
 else if b=6\/b=10 then(a.pA c λd=>{d with iw:=f},0)
 else if b=7\/b=11 then(a.pA c λd=>{d with iw:=-1},0)
 else if b=8 then(a.pA c λd=>{d with dQ:=lf d.dQ f},0)
 else if b=9 then(a.pA c λd=>{d with dQ:=d.dQ.filter λi=> !decide (i=f)},0)
 else if b=12 then({a with tx:=f},0)
 else if b=13 then({a with tx:=-1},0)
 else if b=14 then(a.oc f λe=>{e with atomic:=true},0)
 else if b=15 then(a.oc f λe=>{e with atomic:=false},0)
 else if b=16 then((a.pA ((wi g.fP c).getD default).kP λd=>{d with iw:=-1}).oc f λe=>{e with im:=3,cond:=c},0)
 else if b=17 then((a.pA ((wi g.fP c).getD default).kP λd=>{d with iw:=f}).oc f λe=>{e with im:=2,cond:=0},0)
 else if b=18 then(if gu c a.dp 0=[]then(a,-1)else(a.oc (w8 c h a.dp) (j1 4),w8 c h a.dp))
 else if b=19 then({a with dp:=a.dp.map λe=>if e.im=3/\e.cond=c then j1 4 e else e},(gu c a.dp 0).length)
 else if b=20 then(a.oc c (j1 1),0)
 else if b=22 then({a with done:=a.done.set c.toNat true},0)
 else(a,0)
def G9(a:List Int):Prop:=a.Pairwise (· < ·)
def ej.Dc(b:ej):Prop:=∀a∈b.dP,G9 a.dQ
theorem Be{a:List Int}{c b:Int}(h:b∈lf a c):b∈a\/b=c:=by
 induction a with
 |nil=>simp[lf]at h;exact .inr h
 |cons e a d=>
  unfold lf at h
  split at h
  ·rcases List.mem_cons.1 h with rfl|h
   ·exact .inl (by simp)
   ·rcases d h with h|h
    ·exact .inl (by simp[h])
    ·exact .inr h
  ·split at h
   ·exact .inl h
   ·rcases List.mem_cons.1 h with rfl|h
    ·exact .inr rfl
    ·exact .inl h
theorem Bf{b:List Int}(a:G9 b)(e:Int):G9 (lf b e):=by
 induction b with
 |nil=>simp[lf,G9]
 |cons f b d=>
  unfold G9 at*
  rw[dc]at a
  unfold lf
  split
  ·rw[dc]
   refine⟨λc hx=> ?_,d a.2⟩
   rcases Be hx with hx|rfl
   ·exact a.1 c hx
   ·assumption
  ·split
   ·rw[dc];exact a
   ·rw[dc,dc]
    refine⟨λc hx=> ?_,a⟩
    rcases List.mem_cons.1 hx with rfl|hx
    ·omega
    ·have:=a.1 c hx;omega
theorem FY(a:List Int)(b:Int):(lf a b).length<=a.length+1:=by
 induction a with
 |nil=>simp[lf]
 |cons d a c=>unfold lf;split<;>(try split)<;>simp<;>omega
theorem mem_modify{c:Type}{b:List c}{i:Nat}{g:c->c}{e:c}(h:e∈b.modify i g):e∈b\/∃f∈b,e=g f:=by
 obtain⟨j,a⟩:=List.mem_iff_getElem?.1 h
 rw[List.getElem?_modify]at a
 split at a
 ·cases d:b[j]? with
  |none=>rw[d]at a;simp at a
  |some f=>rw[d]at a;simp at a;exact .inr ⟨f,az d,a.symm⟩
 ·exact .inl (az (by simpa using a))
theorem P5{b:ej}(d:b.Dc){h:Int}{c:dF->dF}(f:∀a∈b.dP,G9 (c a).dQ):(b.pA h c).Dc:=by
 intro a hl
 rcases mem_modify hl with e|⟨i,g,rfl⟩
 ·exact d a e
 ·exact f i g
theorem o8{e:Type}(b:e->Prop){a:Prop} [Decidable a]{c d:e}(f:a->b c)(g:¬a->b d):b (if a then c else d):=by
 split
 ·exact f (by assumption)
 ·exact g (by assumption)
theorem tV{P:ej×Int->Prop}{p:dJ}{b:ej}{e m g q:Int}(p0:P (b,0))(p1:P (b,-1))(pt:∀h c d,P (b.oc h c,d))(f:∀h c,(∀a,(c a).dQ=a.dQ\/(c a).dQ=lf a.dQ e\/(c a).dQ=a.dQ.filter λi=> !decide (i=e))->P (b.pA h c,0)/\∀l k,P ((b.pA h c).oc l k,0))
 (j:∀d,P ({b with tx:=d},0)) (o:∀c d,P ({b with dp:=b.dp.map c},d)) (n:∀d,P ({b with done:=b.done.set d true},0)):P (dV p b e m g q):=by
 unfold dV
 refine o8 P (λ_=>pt _ _ _) λ_=> ?_
 refine o8 P (λ_=>pt _ _ _) λ_=> ?_
 refine o8 P (λ_=>(f g (λa=>{a with iw:=e}) λ_=> .inl rfl).1) λ_=> ?_
 refine o8 P (λ_=>(f g (λa=>{a with iw:=-1}) λ_=> .inl rfl).1) λ_=> ?_
 refine o8 P (λ_=>(f g (λa=>{a with dQ:=lf a.dQ e}) λ_=> .inr (.inl rfl)).1) λ_=> ?_
 refine o8 P (λ_=>(f g (λa=>{a with dQ:=a.dQ.filter λi=> !decide (i=e)}) λ_=> .inr (.inr rfl)).1) λ_=> ?_
 refine o8 P (λ_=>j _) λ_=> ?_
 refine o8 P (λ_=>j _) λ_=> ?_
 refine o8 P (λ_=>pt _ _ _) λ_=> ?_
 refine o8 P (λ_=>pt _ _ _) λ_=> ?_
 refine o8 P (λ_=>(f _ (λa=>{a with iw:=-1}) λ_=> .inl rfl).2 _ _) λ_=> ?_
 refine o8 P (λ_=>(f _ (λa=>{a with iw:=e}) λ_=> .inl rfl).2 _ _) λ_=> ?_
 refine o8 P (λ_=>o8 P (λ_=>p1) λ_=>pt _ _ _) λ_=> ?_
 refine o8 P (λ_=>o _ _) λ_=> ?_
 refine o8 P (λ_=>pt _ _ _) λ_=> ?_
 exact o8 P (λ_=>n _) λ_=>p0
theorem wX{i:ej}(b:i.Dc)(m:dJ)(g k l n:Int):(dV m i g k l n).1.Dc:=by
 have j:∀(d:Int) (c:dF->dF),(∀a,(c a).dQ=a.dQ\/(c a).dQ=lf a.dQ g\/(c a).dQ=a.dQ.filter λh=> !decide (h=g))->(i.pA d c).Dc:=λd c f=>P5 b λa hl=>by
  rcases f a with e|e|e<;>rw[e]
  ·exact b a hl
  ·exact Bf (b a hl) g
  ·exact(b a hl).filter _
 exact tV (P:=λh=>h.1.Dc) b b (λ_ _ _=>b) (λd c f=>⟨j d c f,λ_ _=>j d c f⟩) (λ_=>b) (λ_ _=>b) (λ_=>b)
theorem BV(f:dJ)(a:ej)(e b c g:Int):(dV f a e b c g).1.dP.length=a.dP.length/\(dV f a e b c g).1.done.length=a.done.length/\(dV f a e b c g).1.dp.length=a.dp.length:=
 tV (P:=λd=>d.1.dP.length=a.dP.length/\d.1.done.length=a.done.length/\d.1.dp.length=a.dp.length) ⟨rfl,rfl,rfl⟩ ⟨rfl,rfl,rfl⟩ (λ_ _ _=>by simp[ej.oc]) (λ_ _ _=>by simp[ej.oc,ej.pA]) (λ_=>⟨rfl,rfl,rfl⟩) (λ_ _=>by simp) (λ_=>by simp)
theorem KY{a:List Int}{b:Int}(d:∀c∈a,c<b):lf a b=a++[b]:=by
 induction a with
 |nil=>rfl
 |cons g a f=>unfold lf;rw[aq (d g (by simp)),f λc e=>d c (by simp[e])];rfl
theorem KZ:∀(b a:List Int),G9 (a++b)->b.foldl lf a=a++b:=by
 intro b
 induction b with
 |nil=>intro a _;simp
 |cons c b h=>
  intro a e
  have f:∀d∈a,d<c:=λd g=>(List.pairwise_append.1 e).2.2 d g c (by simp)
  rw[List.foldl_cons,KY f,h (a++[c]) (by simpa using e)]
  simp
theorem Kd{a:List Int}(c:G9 a)(b:Int): [b].foldl lf (a.foldl lf [])=lf a b:=by
 rw[KZ a [] (by simpa using c)];rfl
abbrev Ha:Ty:=LG .i64 8
abbrev Dj:Ty:=LG .i64 8
abbrev ty4:Ty:=tyB
abbrev ty5:Ty:=LG .u8 1
abbrev ty9:Ty:=tyZ
abbrev XQ:Ty:=LG .i32 4
abbrev XP:Ty:=zr 5
abbrev XO:Ty:=rY [(0,22),(1,22),(2,22),(3,5),(4,5)] 5 80 false [.dq [] false,.dq [] false,.dq [] false,.int .u8 0,.int .u8 0]
abbrev XN:Ty:=zr 126
abbrev XM:Ty:=zr 129
abbrev XL:Ty:=zr 131
abbrev Pm:Ty:=zr 9
abbrev XJ:Ty:=zr 133
abbrev XI:Ty:=rY [(0,25),(1,26),(2,27),(3,28),(4,28),(5,29)] 6 144 false [.dq [] false,.dq [] false,.dq [] false,.dq [] false,.dq [] false,.dq [] false]
abbrev XH:Ty:=zr 137
abbrev XG:Ty:=zr 4
abbrev Kf:Ty:=zr 113
abbrev Pk:Ty:=rY [(0,32),(1,3),(2,33),(3,34)] 4 80 false [.dq [] false,.int .i64 0,.dq [] false,.dq [] false]
abbrev Pj:Ty:=zr 2
abbrev m8:Ty:=zr 3
abbrev XF:Ty:=rY [(0,36),(4,37),(5,37),(6,38)] 7 152 false [.dq [] false,.int .i64 0,.dq [] false,.dq [] false,.dq [] false,.dq [] false,.dq [] false]
abbrev Ts:Ty:=zr 80
abbrev XE:Ty:=rY [(0,31),(6,3),(7,40),(14,41)] 15 328 false [.dq [] false,.dq [] false,.dq [] false,.dq [] false,.dq [] false,.dq [] false,.int .i64 0,.dq [] false,.int .i64 0,.dq [] false,.dq [] false,.dq [] false,.dq [] false,.dq [] false,.dq [] false]
abbrev XD:Ty:=zr 54
abbrev Tr:Ty:=rY [(0,3),(1,3),(2,3),(3,3),(4,3),(5,38)] 6 64 false [.int .i64 0,.int .i64 0,.int .i64 0,.int .i64 0,.int .i64 0,.dq [] false]
abbrev XC:Ty:=rY [(0,31),(6,41)] 7 168 false [.dq [] false,.dq [] false,.dq [] false,.dq [] false,.dq [] false,.dq [] false,.dq [] false]
abbrev XB:Ty:=zr 43
abbrev XA:Ty:=LG .i64 8
abbrev Xz:Ty:=zr 36
abbrev Xy:Ty:=rY [(0,43),(15,67)] 16 352 false [.dq [] false,.dq [] false,.dq [] false,.dq [] false,.dq [] false,.dq [] false,.int .i64 0,.dq [] false,.int .i64 0,.dq [] false,.dq [] false,.dq [] false,.dq [] false,.dq [] false,.dq [] false,.dq [] false]
abbrev Xx:Ty:=zt (.func) 8 (.j3)
abbrev Hl:Ty:=zr 38
abbrev Xw:Ty:=rY [(0,3),(1,3),(2,3),(3,2),(4,3),(5,38),(6,38)] 7 88 false [.int .i64 0,.int .i64 0,.int .i64 0,.int .i64 0,.int .i64 0,.dq [] false,.dq [] false]
abbrev Xv:Ty:=Ly 86
abbrev Xu:Ty:=rY [(0,22),(1,3)] 2 32 false [.dq [] false,.int .i64 0]
abbrev Xs:Ty:=zr 202
abbrev Xr:Ty:=rY [(0,36),(4,37),(5,37),(6,92)] 7 152 false [.dq [] false,.int .i64 0,.dq [] false,.dq [] false,.dq [] false,.dq [] false,.dq [] false]
abbrev Xq:Ty:=zr 183
abbrev Xp:Ty:=rY [(0,31),(6,97)] 7 168 false [.dq [] false,.dq [] false,.dq [] false,.dq [] false,.dq [] false,.dq [] false,.dq [] false]
abbrev Sa:Ty:=zr 151
abbrev R9:Ty:=zt (.func) 8 (.j3)
abbrev EW:Ty:=rY [(0,3),(1,3),(2,4)] 3 24 false [.int .i64 0,.int .i64 0,.bool false]
abbrev R8:Ty:=zr 232
abbrev R7:Ty:=zr 174
abbrev R1:Ty:=rY [(0,116),(1,117)] 2 48 false [.dq [] false,.dq [] false]
abbrev R0:Ty:=rY [(0,9),(1,3),(2,3),(3,4),(4,2)] 5 48 false [.str [],.int .i64 0,.int .i64 0,.bool false,.int .i64 0]
abbrev RZ:Ty:=rY [(0,9),(1,4)] 2 24 false [.str [],.bool false]
abbrev RY:Ty:=rY [(0,9),(1,3)] 2 24 false [.str [],.int .i64 0]
abbrev RX:Ty:=rY [(0,3),(1,3),(2,3)] 3 24 false [.int .i64 0,.int .i64 0,.int .i64 0]
abbrev RW:Ty:=rY [(0,3),(1,38)] 2 32 false [.int .i64 0,.dq [] false]
abbrev RV:Ty:=rY [(0,3),(1,3)] 2 16 false [.int .i64 0,.int .i64 0]
abbrev RU:Ty:=zt (.func) 8 (.j3)
abbrev RT:Ty:=zr 227
abbrev RS:Ty:=Ly 164
abbrev RR:Ty:=rY [(0,159),(1,3)] 2 32 false [.dq [] false,.int .i64 0]
abbrev RQ:Ty:=Ly 177
abbrev EV:Ty:=zr 211
abbrev RP:Ty:=rY [(0,9),(1,3),(2,28),(3,172)] 4 72 false [.str [],.int .i64 0,.dq [] false,.dq [] false]
abbrev RO:Ty:=zr 181
abbrev RN:Ty:=rY [(0,31),(6,28),(7,175),(8,3),(9,3)] 10 208 false [.dq [] false,.dq [] false,.dq [] false,.dq [] false,.dq [] false,.dq [] false,.dq [] false,.dq [] false,.int .i64 0,.int .i64 0]
abbrev RM:Ty:=rY [(0,3),(1,3),(2,3),(3,3),(4,2),(5,3)] 6 48 false [.int .i64 0,.int .i64 0,.int .i64 0,.int .i64 0,.int .i64 0,.int .i64 0]
abbrev RL:Ty:=rY [(0,3),(1,175)] 2 32 false [.int .i64 0,.dq [] false]
abbrev I0:Ty:=rY [(0,3),(1,37),(2,77),(3,3)] 4 64 false [.int .i64 0,.dq [] false,.dq [] false,.int .i64 0]
abbrev RJ:Ty:=Ly 205
abbrev RI:Ty:=rY [(0,84),(1,3),(2,3),(3,4),(4,4),(5,4),(6,4),(7,28)] 8 56 false [.jz,.int .i64 0,.int .i64 0,.bool false,.bool false,.bool false,.bool false,.dq [] false]
abbrev RH:Ty:=zr 209
abbrev RG:Ty:=rY [(0,3),(1,2),(2,9),(3,207)] 4 56 false [.int .i64 0,.int .i64 0,.str [],.dq [] false]
abbrev EU:Ty:=rY [(0,3),(1,3),(2,9),(3,9),(4,207),(5,209),(9,172),(10,172)] 11 176 false [.int .i64 0,.int .i64 0,.str [],.str [],.dq [] false,.int .i64 0,.int .i64 0,.str [],.dq [] false,.dq [] false,.dq [] false]
abbrev LH:Ty:=LG .u64 8
abbrev RF:Ty:=rY [(0,3),(1,9),(2,3)] 3 32 false [.int .i64 0,.str [],.int .i64 0]
abbrev RE:Ty:=rY [(0,3),(1,3),(2,9),(3,3),(4,2),(5,9)] 6 64 false [.int .i64 0,.int .i64 0,.str [],.int .i64 0,.int .i64 0,.str []]
abbrev RD:Ty:=Ly 242
abbrev RC:Ty:=rY [(0,119),(2,3),(3,172),(4,28),(5,28)] 6 128 false [.dq [] false,.dq [] false,.int .i64 0,.dq [] false,.dq [] false,.dq [] false]
abbrev RB:Ty:=LG .i64 8
abbrev RA:Ty:=LG .u32 4
abbrev Rz:Ty:=LG .u64 8
abbrev Ry:Ty:=Ly 232
abbrev Rx:Ty:=LG .u64 8
abbrev Rw:Ty:=Ly 3
abbrev Rv:Ty:=Pi 22 9 22 352 false (List.replicate 22 (T.str []))
abbrev Ru:Ty:=Pi 256 4 256 256 false (List.replicate 256 (T.bool false))
abbrev Rt:Ty:=Ly 324
abbrev Rs:Ty:=zt (.iface) 16 (.ka)
abbrev Rr:Ty:=Ly 211
abbrev Rq:Ty:=zt (.func) 8 (.j3)
abbrev Rp:Ty:=LG .i64 8
abbrev Rn:Ty:=Ly 365
abbrev Rm:Ty:=Pi 256 5 256 256 false (List.replicate 256 (T.int .u8 0))
abbrev Rl:Ty:=rY [(0,5),(1,5)] 2 2 false [.int .u8 0,.int .u8 0]
abbrev Rk:Ty:=Pi 16 358 32 32 false (List.replicate 32 (T.int .u8 0))
abbrev Rj:Ty:=rY [(0,9),(1,9),(2,330)] 3 48 false [.str [],.str [],.ka]
abbrev Ri:Ty:=Ly 5
abbrev Rh:Ty:=Ly 371
abbrev Rg:Ty:=rY [(0,9)] 1 16 false [.str []]
abbrev Rf:Ty:=Pi 24 5 24 24 false (List.replicate 24 (T.int .u8 0))
abbrev Re:Ty:=Pi 20 272 20 160 false (List.replicate 20 (T.int .u64 0))
abbrev Rc:Ty:=Pi 65 5 65 65 false (List.replicate 65 (T.int .u8 0))
abbrev Rb:Ty:=Pi 32 5 32 32 false (List.replicate 32 (T.int .u8 0))
abbrev Ra:Ty:=Pi 64 5 64 64 false (List.replicate 64 (T.int .u8 0))
def iB:Tree Ty:=(.node (.node (.node (.node (.node (.node (.node .nil 2 (Ha) .nil) 3 (Dj) (.node .nil 4 (ty4) .nil)) 5 (ty5) (.node (.node .nil 9 (ty9) .nil) 21 (XQ) .nil)) 22 (XP) (.node (.node (.node .nil 24 (XO) .nil) 25 (XN) .nil) 26 (XM) (.node (.node .nil 27 (XL) .nil) 28 (Pm) .nil))) 29 (XJ) (.node (.node (.node (.node .nil 31 (XI) .nil) 32 (XH) .nil) 33 (XG) (.node (.node .nil 34 (Kf) .nil) 36 (Pk) .nil)) 37 (Pj) (.node (.node (.node .nil 38 (m8) .nil) 40 (XF) .nil) 41 (Ts) (.node (.node .nil 43 (XE) .nil) 46 (XD) .nil)))) 54 (Tr) (.node (.node (.node (.node (.node .nil 61 (XC) .nil) 63 (XB) (.node .nil 64 (XA) .nil)) 67 (Xz) (.node (.node .nil 69 (Xy) .nil) 73 (Xx) .nil)) 77 (Hl) (.node (.node (.node .nil 80 (Xw) .nil) 84 (Xv) .nil) 86 (Xu) (.node (.node .nil 92 (Xs) .nil) 94 (Xr) .nil))) 97 (Xq) (.node (.node (.node (.node .nil 99 (Xp) .nil) 101 (Sa) .nil) 110 (R9) (.node (.node .nil 113 (EW) .nil) 116 (R8) .nil)) 117 (R7) (.node (.node (.node .nil 119 (R1) .nil) 126 (R0) .nil) 129 (RZ) (.node (.node .nil 131 (RY) .nil) 133 (RX) .nil))))) 137 (RW) (.node (.node (.node (.node (.node (.node .nil 151 (RV) .nil) 156 (RU) (.node .nil 159 (RT) .nil)) 162 (RS) (.node (.node .nil 164 (RR) .nil) 171 (RQ) .nil)) 172 (EV) (.node (.node (.node .nil 174 (RP) .nil) 175 (RO) .nil) 177 (RN) (.node (.node .nil 181 (RM) .nil) 183 (RL) .nil))) 202 (I0) (.node (.node (.node (.node .nil 203 (RJ) .nil) 205 (RI) .nil) 207 (RH) (.node (.node .nil 209 (RG) .nil) 211 (EU) .nil)) 220 (LH) (.node (.node (.node .nil 227 (RF) .nil) 232 (RE) .nil) 240 (RD) (.node (.node .nil 242 (RC) .nil) 262 (RB) .nil)))) 270 (RA) (.node (.node (.node (.node (.node .nil 272 (Rz) .nil) 277 (Ry) (.node .nil 296 (Rx) .nil)) 300 (Rw) (.node (.node .nil 321 (Rv) .nil) 324 (Ru) .nil)) 328 (Rt) (.node (.node (.node .nil 330 (Rs) .nil) 334 (Rr) .nil) 335 (Rq) (.node (.node .nil 349 (Rp) .nil) 352 (Rn) .nil))) 356 (Rm) (.node (.node (.node (.node .nil 358 (Rl) .nil) 359 (Rk) .nil) 365 (Rj) (.node (.node .nil 368 (Ri) .nil) 369 (Rh) .nil)) 371 (Rg) (.node (.node (.node .nil 374 (Rf) .nil) 379 (Re) .nil) 380 (Rc) (.node (.node .nil 381 (Rb) .nil) 382 (Ra) .nil))))))
def gl0:List T:=[T.str [118,97,114],T.str [118,111,108,97,116,105,108,101],T.str [109,117,116,101,120],T.str [114,119,108,111,99,107],T.str [99,111,110,100],T.str [102,117,116,117,114,101],T.str [116,104,114,101,97,100],T.str [105,102],T.str [101,108,115,101],T.str [119,104,105,108,101],T.str [108,111,99,107],T.str [114,101,97,100],T.str [119,114,105,116,101],T.str [116,114,97,110,115,97,99,116,105,111,110],T.str [97,116,111,109,105,99],T.str [119,97,105,116],T.str [110,111,116,105,102,121],T.str [110,111,116,105,102,121,97,108,108],T.str [115,112,97,119,110],T.str [106,111,105,110],T.str [115,101,116],T.str [103,101,116]]
def gl6:List T:=[T.int .u64 1,T.int .u64 10,T.int .u64 100,T.int .u64 1000,T.int .u64 10000,T.int .u64 100000,T.int .u64 1000000,T.int .u64 10000000,T.int .u64 100000000,T.int .u64 1000000000,T.int .u64 10000000000,T.int .u64 100000000000,T.int .u64 1000000000000,T.int .u64 10000000000000,T.int .u64 100000000000000,T.int .u64 1000000000000000,T.int .u64 10000000000000000,T.int .u64 100000000000000000,T.int .u64 1000000000000000000,T.int .u64 10000000000000000000]
def gl7:List T:=[T.int .u8 0,T.int .u8 1,T.int .u8 28,T.int .u8 2,T.int .u8 29,T.int .u8 14,T.int .u8 24,T.int .u8 3,T.int .u8 30,T.int .u8 22,T.int .u8 20,T.int .u8 15,T.int .u8 25,T.int .u8 17,T.int .u8 4,T.int .u8 8,T.int .u8 31,T.int .u8 27,T.int .u8 13,T.int .u8 23,T.int .u8 21,T.int .u8 19,T.int .u8 16,T.int .u8 7,T.int .u8 26,T.int .u8 12,T.int .u8 18,T.int .u8 6,T.int .u8 11,T.int .u8 5,T.int .u8 10,T.int .u8 9]
def gl8:List T:=[T.int .u8 0,T.int .u8 1,T.int .u8 56,T.int .u8 2,T.int .u8 57,T.int .u8 49,T.int .u8 28,T.int .u8 3,T.int .u8 61,T.int .u8 58,T.int .u8 42,T.int .u8 50,T.int .u8 38,T.int .u8 29,T.int .u8 17,T.int .u8 4,T.int .u8 62,T.int .u8 47,T.int .u8 59,T.int .u8 36,T.int .u8 45,T.int .u8 43,T.int .u8 51,T.int .u8 22,T.int .u8 53,T.int .u8 39,T.int .u8 33,T.int .u8 30,T.int .u8 24,T.int .u8 18,T.int .u8 12,T.int .u8 5,T.int .u8 63,T.int .u8 55,T.int .u8 48,T.int .u8 27,T.int .u8 60,T.int .u8 41,T.int .u8 37,T.int .u8 16,T.int .u8 46,T.int .u8 35,T.int .u8 44,T.int .u8 21,T.int .u8 52,T.int .u8 32,T.int .u8 23,T.int .u8 11,T.int .u8 54,T.int .u8 26,T.int .u8 40,T.int .u8 15,T.int .u8 34,T.int .u8 20,T.int .u8 31,T.int .u8 10,T.int .u8 25,T.int .u8 14,T.int .u8 19,T.int .u8 9,T.int .u8 13,T.int .u8 8,T.int .u8 7,T.int .u8 6]
def gls:Tree (List T):=(.node (.node (.node .nil 0 (gl0) .nil) 6 (gl6) .nil) 7 (gl7) (.node .nil 8 (gl8) .nil))
def cx:Ctx:={ty:=λb=>iB.find b,fn:=λ_=>none,gl:=λa=>gls.find a}
@[simp] theorem zl:cx.ty 2=some Ha:=by kernel_rfl
@[simp] theorem mJ:cx.ty 3=some Dj:=by kernel_rfl
@[simp] theorem SZ:cx.ty 4=some ty4:=by kernel_rfl
@[simp] theorem Gx:cx.ty 5=some ty5:=by kernel_rfl
@[simp] theorem uL:cx.ty 9=some ty9:=by kernel_rfl
@[simp] theorem aeh:cx.ty 21=some XQ:=by kernel_rfl
@[simp] theorem Iy:cx.ty 22=some XP:=by kernel_rfl
@[simp] theorem aeg:cx.ty 24=some XO:=by kernel_rfl
@[simp] theorem U4:cx.ty 25=some XN:=by kernel_rfl
@[simp] theorem NY:cx.ty 26=some XM:=by kernel_rfl
@[simp] theorem U3:cx.ty 27=some XL:=by kernel_rfl
@[simp] theorem pH:cx.ty 28=some Pm:=by kernel_rfl
@[simp] theorem U2:cx.ty 29=some XJ:=by kernel_rfl
@[simp] theorem aef:cx.ty 31=some XI:=by kernel_rfl
@[simp] theorem NX:cx.ty 32=some XH:=by kernel_rfl
@[simp] theorem Ix:cx.ty 33=some XG:=by kernel_rfl
@[simp] theorem Ev:cx.ty 34=some Kf:=by kernel_rfl
@[simp] theorem U1:cx.ty 36=some Pk:=by kernel_rfl
@[simp] theorem oG:cx.ty 37=some Pj:=by kernel_rfl
@[simp] theorem jQ:cx.ty 38=some m8:=by kernel_rfl
@[simp] theorem aee:cx.ty 40=some XF:=by kernel_rfl
@[simp] theorem U0:cx.ty 41=some Ts:=by kernel_rfl
@[simp] theorem UZ:cx.ty 43=some XE:=by kernel_rfl
@[simp] theorem Iw:cx.ty 46=some XD:=by kernel_rfl
@[simp] theorem Iv:cx.ty 54=some Tr:=by kernel_rfl
@[simp] theorem aed:cx.ty 61=some XC:=by kernel_rfl
@[simp] theorem UY:cx.ty 63=some XB:=by kernel_rfl
@[simp] theorem aec:cx.ty 64=some XA:=by kernel_rfl
@[simp] theorem UX:cx.ty 67=some Xz:=by kernel_rfl
@[simp] theorem aeb:cx.ty 69=some Xy:=by kernel_rfl
@[simp] theorem aea:cx.ty 73=some Xx:=by kernel_rfl
@[simp] theorem NW:cx.ty 77=some Hl:=by kernel_rfl
@[simp] theorem UW:cx.ty 80=some Xw:=by kernel_rfl
@[simp] theorem ad9:cx.ty 84=some Xv:=by kernel_rfl
@[simp] theorem ad8:cx.ty 86=some Xu:=by kernel_rfl
@[simp] theorem NV:cx.ty 92=some Xs:=by kernel_rfl
@[simp] theorem ad7:cx.ty 94=some Xr:=by kernel_rfl
@[simp] theorem UV:cx.ty 97=some Xq:=by kernel_rfl
@[simp] theorem ad6:cx.ty 99=some Xp:=by kernel_rfl
@[simp] theorem Qv:cx.ty 101=some Sa:=by kernel_rfl
@[simp] theorem acf:cx.ty 110=some R9:=by kernel_rfl
@[simp] theorem Ew:cx.ty 113=some EW:=by kernel_rfl
@[simp] theorem ace:cx.ty 116=some R8:=by kernel_rfl
@[simp] theorem Qu:cx.ty 117=some R7:=by kernel_rfl
@[simp] theorem acd:cx.ty 119=some R1:=by kernel_rfl
@[simp] theorem Qt:cx.ty 126=some R0:=by kernel_rfl
@[simp] theorem JH:cx.ty 129=some RZ:=by kernel_rfl
@[simp] theorem Qr:cx.ty 131=some RY:=by kernel_rfl
@[simp] theorem Qq:cx.ty 133=some RX:=by kernel_rfl
@[simp] theorem JG:cx.ty 137=some RW:=by kernel_rfl
@[simp] theorem Qp:cx.ty 151=some RV:=by kernel_rfl
@[simp] theorem acb:cx.ty 156=some RU:=by kernel_rfl
@[simp] theorem aca:cx.ty 159=some RT:=by kernel_rfl
@[simp] theorem ab9:cx.ty 162=some RS:=by kernel_rfl
@[simp] theorem ab8:cx.ty 164=some RR:=by kernel_rfl
@[simp] theorem ab7:cx.ty 171=some RQ:=by kernel_rfl
@[simp] theorem xK:cx.ty 172=some EV:=by kernel_rfl
@[simp] theorem Qo:cx.ty 174=some RP:=by kernel_rfl
@[simp] theorem JF:cx.ty 175=some RO:=by kernel_rfl
@[simp] theorem ab6:cx.ty 177=some RN:=by kernel_rfl
@[simp] theorem Qn:cx.ty 181=some RM:=by kernel_rfl
@[simp] theorem Qm:cx.ty 183=some RL:=by kernel_rfl
@[simp] theorem JC:cx.ty 202=some I0:=by kernel_rfl
@[simp] theorem ab5:cx.ty 203=some RJ:=by kernel_rfl
@[simp] theorem ab4:cx.ty 205=some RI:=by kernel_rfl
@[simp] theorem ab3:cx.ty 207=some RH:=by kernel_rfl
@[simp] theorem ab2:cx.ty 209=some RG:=by kernel_rfl
@[simp] theorem xJ:cx.ty 211=some EU:=by kernel_rfl
@[simp] theorem Ql:cx.ty 220=some LH:=by kernel_rfl
@[simp] theorem ab1:cx.ty 227=some RF:=by kernel_rfl
@[simp] theorem ab0:cx.ty 232=some RE:=by kernel_rfl
@[simp] theorem abZ:cx.ty 240=some RD:=by kernel_rfl
@[simp] theorem abY:cx.ty 242=some RC:=by kernel_rfl
@[simp] theorem abX:cx.ty 262=some RB:=by kernel_rfl
@[simp] theorem abW:cx.ty 270=some RA:=by kernel_rfl
@[simp] theorem abV:cx.ty 272=some Rz:=by kernel_rfl
@[simp] theorem abU:cx.ty 277=some Ry:=by kernel_rfl
@[simp] theorem abT:cx.ty 296=some Rx:=by kernel_rfl
@[simp] theorem abS:cx.ty 300=some Rw:=by kernel_rfl
@[simp] theorem abR:cx.ty 321=some Rv:=by kernel_rfl
@[simp] theorem abQ:cx.ty 324=some Ru:=by kernel_rfl
@[simp] theorem abP:cx.ty 328=some Rt:=by kernel_rfl
@[simp] theorem abO:cx.ty 330=some Rs:=by kernel_rfl
@[simp] theorem abN:cx.ty 334=some Rr:=by kernel_rfl
@[simp] theorem abM:cx.ty 335=some Rq:=by kernel_rfl
@[simp] theorem abL:cx.ty 349=some Rp:=by kernel_rfl
@[simp] theorem abK:cx.ty 352=some Rn:=by kernel_rfl
@[simp] theorem abJ:cx.ty 356=some Rm:=by kernel_rfl
@[simp] theorem abI:cx.ty 358=some Rl:=by kernel_rfl
@[simp] theorem abH:cx.ty 359=some Rk:=by kernel_rfl
@[simp] theorem abG:cx.ty 365=some Rj:=by kernel_rfl
@[simp] theorem abF:cx.ty 368=some Ri:=by kernel_rfl
@[simp] theorem abE:cx.ty 369=some Rh:=by kernel_rfl
@[simp] theorem abD:cx.ty 371=some Rg:=by kernel_rfl
@[simp] theorem abC:cx.ty 374=some Rf:=by kernel_rfl
@[simp] theorem abB:cx.ty 379=some Re:=by kernel_rfl
@[simp] theorem abA:cx.ty 380=some Rc:=by kernel_rfl
@[simp] theorem abz:cx.ty 381=some Rb:=by kernel_rfl
@[simp] theorem aby:cx.ty 382=some Ra:=by kernel_rfl
end
end Go.Proofs.YtmaeadedikngoaaGreatDoor
