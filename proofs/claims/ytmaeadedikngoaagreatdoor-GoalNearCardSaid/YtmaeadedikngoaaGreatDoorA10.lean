/- Texts DData to TiFT. -/
import Derived.Test.YtmaeadedikngoaaGreatDoorA9
set_option linter.all false
set_option maxRecDepth 100000
set_option maxHeartbeats 8000000
namespace Go.Proofs.YtmaeadedikngoaaGreatDoor
noncomputable section
open Go Go.TI
structure ge where
 name:List Nat
 index:Int
 size:Int
 sK:Bool
 jK:Int
 deriving DecidableEq,Inhabited
def ge.cs(a:ge):List T:=[.str a.name,dy a.index,dy a.size,.bool a.sK,dy a.jK]
def ge.t(a:ge):T:= .agg a.cs
@[simp] theorem ge.ag (a:ge):qu a.t [.str a.name,dy a.index,dy a.size,.bool a.sK,dy a.jK] 5:=by
 unfold ge.t ge.cs;exact⟨rfl,rfl,λ_ _=>rfl,rfl,by simp[jE],λ_=>by simp,λ_ _=>by simp,dt,dt⟩
@[simp] theorem ge.fold (a0:List Nat) (a1:Int) (a2:Int) (a3:Bool) (a4:Int):T.agg [.str a0,dy a1,dy a2,.bool a3,dy a4]=ge.t ⟨a0,a1,a2,a3,a4⟩:=rfl
@[simp] theorem ge.eta (a:ge):ge.mk a.name a.index a.size a.sK a.jK=a:=rfl
def ge.inj{a b:ge}(c:a.t=b.t):a=b:=by
 rcases a with⟨_,_,_,_,_⟩;rcases b with⟨_,_,_,_,_⟩;simp only[ge.t,ge.cs,T.agg.injEq,aJ]at c;obtain⟨d,e,f,g,h,_⟩:=c;obtain rfl:=mw d;obtain rfl:=gH e;obtain rfl:=gH f;obtain rfl:=rY g;obtain rfl:=gH h;rfl
structure io where
 name:List Nat
 rW:Bool
 deriving DecidableEq,Inhabited
def io.cs(a:io):List T:=[.str a.name,.bool a.rW]
def io.t(a:io):T:= .agg a.cs
@[simp] theorem io.ag (a:io):qu a.t [.str a.name,.bool a.rW] 2:=by
 unfold io.t io.cs;exact⟨rfl,rfl,λ_ _=>rfl,rfl,by simp[jE],λ_=>by simp,λ_ _=>by simp,dt,dt⟩
@[simp] theorem io.fold (a0:List Nat) (a1:Bool):T.agg [.str a0,.bool a1]=io.t ⟨a0,a1⟩:=rfl
@[simp] theorem io.eta (a:io):io.mk a.name a.rW=a:=rfl
def io.inj{a b:io}(c:a.t=b.t):a=b:=by
 rcases a with⟨_,_⟩;rcases b with⟨_,_⟩;simp only[io.t,io.cs,T.agg.injEq,aJ]at c;obtain⟨d,e,_⟩:=c;obtain rfl:=mw d;obtain rfl:=rY e;rfl
structure iF where
 name:List Nat
 kl:Int
 deriving DecidableEq,Inhabited
def iF.cs(a:iF):List T:=[.str a.name,dy a.kl]
def iF.t(a:iF):T:= .agg a.cs
@[simp] theorem iF.ag (a:iF):qu a.t [.str a.name,dy a.kl] 2:=by
 unfold iF.t iF.cs;exact⟨rfl,rfl,λ_ _=>rfl,rfl,by simp[jE],λ_=>by simp,λ_ _=>by simp,dt,dt⟩
@[simp] theorem iF.fold (a0:List Nat) (a1:Int):T.agg [.str a0,dy a1]=iF.t ⟨a0,a1⟩:=rfl
@[simp] theorem iF.eta (a:iF):iF.mk a.name a.kl=a:=rfl
def iF.inj{a b:iF}(c:a.t=b.t):a=b:=by
 rcases a with⟨_,_⟩;rcases b with⟨_,_⟩;simp only[iF.t,iF.cs,T.agg.injEq,aJ]at c;obtain⟨d,e,_⟩:=c;obtain rfl:=mw d;obtain rfl:=gH e;rfl
structure ir where
 dQ:Int
 stmt:Int
 uj:Int
 deriving DecidableEq,Inhabited
def ir.cs(a:ir):List T:=[dy a.dQ,dy a.stmt,dy a.uj]
def ir.t(a:ir):T:= .agg a.cs
@[simp] theorem ir.ag (a:ir):qu a.t [dy a.dQ,dy a.stmt,dy a.uj] 3:=by
 unfold ir.t ir.cs;exact⟨rfl,rfl,λ_ _=>rfl,rfl,by simp[jE],λ_=>by simp,λ_ _=>by simp,dt,dt⟩
@[simp] theorem ir.fold (a0:Int) (a1:Int) (a2:Int):T.agg [dy a0,dy a1,dy a2]=ir.t ⟨a0,a1,a2⟩:=rfl
@[simp] theorem ir.eta (a:ir):ir.mk a.dQ a.stmt a.uj=a:=rfl
def ir.inj{a b:ir}(c:a.t=b.t):a=b:=by
 rcases a with⟨_,_,_⟩;rcases b with⟨_,_,_⟩;simp only[ir.t,ir.cs,T.agg.injEq,aJ]at c;obtain⟨d,e,f,_⟩:=c;obtain rfl:=gH d;obtain rfl:=gH e;obtain rfl:=gH f;rfl
structure dU where
 cells:List ge
 dY:List io
 fZ:List iF
 dX:List (List Nat)
 dE:List (List Nat)
 iq:List ir
 deriving DecidableEq,Inhabited
def dU.cs(a:dU):List T:=[sl (a.cells.map ge.t),sl (a.dY.map io.t),sl (a.fZ.map iF.t),sl (a.dX.map T.str),sl (a.dE.map T.str),sl (a.iq.map ir.t)]
def dU.t(a:dU):T:= .agg a.cs
@[simp] theorem dU.ag (a:dU):qu a.t [sl (a.cells.map ge.t),sl (a.dY.map io.t),sl (a.fZ.map iF.t),sl (a.dX.map T.str),sl (a.dE.map T.str),sl (a.iq.map ir.t)] 6:=by
 unfold dU.t dU.cs;exact⟨rfl,rfl,λ_ _=>rfl,rfl,by simp[jE],λ_=>by simp,λ_ _=>by simp,dt,dt⟩
@[simp] theorem dU.fold (a0:List ge) (a1:List io) (a2:List iF) (a3:List (List Nat)) (a4:List (List Nat)) (a5:List ir):T.agg [sl (a0.map ge.t),sl (a1.map io.t),sl (a2.map iF.t),sl (a3.map T.str),sl (a4.map T.str),sl (a5.map ir.t)]=dU.t ⟨a0,a1,a2,a3,a4,a5⟩:=rfl
@[simp] theorem dU.eta (a:dU):dU.mk a.cells a.dY a.fZ a.dX a.dE a.iq=a:=rfl
def dU.inj{a b:dU}(c:a.t=b.t):a=b:=by
 rcases a with⟨_,_,_,_,_,_⟩;rcases b with⟨_,_,_,_,_,_⟩;simp only[dU.t,dU.cs,T.agg.injEq,aJ]at c;obtain⟨d,e,f,g,h,i,_⟩:=c;obtain rfl:=ig (λ_ _=>ge.inj) _ _ d;obtain rfl:=ig (λ_ _=>io.inj) _ _ e;obtain rfl:=ig (λ_ _=>iF.inj) _ _ f;obtain rfl:=ig (λ_ _=>mw) _ _ g;obtain rfl:=ig (λ_ _=>mw) _ _ h;obtain rfl:=ig (λ_ _=>ir.inj) _ _ i;rfl
structure dV where
 iK:Int
 eg:List Int
 deriving DecidableEq,Inhabited
def dV.cs(a:dV):List T:=[dy a.iK,sl (a.eg.map (T.int .i64))]
def dV.t(a:dV):T:= .agg a.cs
@[simp] theorem dV.ag (a:dV):qu a.t [dy a.iK,sl (a.eg.map (T.int .i64))] 2:=by
 unfold dV.t dV.cs;exact⟨rfl,rfl,λ_ _=>rfl,rfl,by simp[jE],λ_=>by simp,λ_ _=>by simp,dt,dt⟩
@[simp] theorem dV.fold (a0:Int) (a1:List Int):T.agg [dy a0,sl (a1.map (T.int .i64))]=dV.t ⟨a0,a1⟩:=rfl
@[simp] theorem dV.eta (a:dV):dV.mk a.iK a.eg=a:=rfl
def dV.inj{a b:dV}(c:a.t=b.t):a=b:=by
 rcases a with⟨_,_⟩;rcases b with⟨_,_⟩;simp only[dV.t,dV.cs,T.agg.injEq,aJ]at c;obtain⟨d,e,_⟩:=c;obtain rfl:=gH d;obtain rfl:=ig (λ_ _=>gH) _ _ e;rfl
structure dG where
 iA:Int
 cond:Int
 atomic:Bool
 deriving DecidableEq,Inhabited
def dG.cs(a:dG):List T:=[dy a.iA,dy a.cond,.bool a.atomic]
def dG.t(a:dG):T:= .agg a.cs
@[simp] theorem dG.ag (a:dG):qu a.t [dy a.iA,dy a.cond,.bool a.atomic] 3:=by
 unfold dG.t dG.cs;exact⟨rfl,rfl,λ_ _=>rfl,rfl,by simp[jE],λ_=>by simp,λ_ _=>by simp,dt,dt⟩
@[simp] theorem dG.fold (a0:Int) (a1:Int) (a2:Bool):T.agg [dy a0,dy a1,.bool a2]=dG.t ⟨a0,a1,a2⟩:=rfl
@[simp] theorem dG.eta (a:dG):dG.mk a.iA a.cond a.atomic=a:=rfl
def dG.inj{a b:dG}(c:a.t=b.t):a=b:=by
 rcases a with⟨_,_,_⟩;rcases b with⟨_,_,_⟩;simp only[dG.t,dG.cs,T.agg.injEq,aJ]at c;obtain⟨d,e,f,_⟩:=c;obtain rfl:=gH d;obtain rfl:=gH e;obtain rfl:=rY f;rfl
structure fk where
 dY:List dV
 tx:Int
 done:List Bool
 dE:List dG
 deriving DecidableEq,Inhabited
def fk.cs(a:fk):List T:=[sl (a.dY.map dV.t),dy a.tx,sl (a.done.map T.bool),sl (a.dE.map dG.t)]
def fk.t(a:fk):T:= .agg a.cs
@[simp] theorem fk.ag (a:fk):qu a.t [sl (a.dY.map dV.t),dy a.tx,sl (a.done.map T.bool),sl (a.dE.map dG.t)] 4:=by
 unfold fk.t fk.cs;exact⟨rfl,rfl,λ_ _=>rfl,rfl,by simp[jE],λ_=>by simp,λ_ _=>by simp,dt,dt⟩
@[simp] theorem fk.fold (a0:List dV) (a1:Int) (a2:List Bool) (a3:List dG):T.agg [sl (a0.map dV.t),dy a1,sl (a2.map T.bool),sl (a3.map dG.t)]=fk.t ⟨a0,a1,a2,a3⟩:=rfl
@[simp] theorem fk.eta (a:fk):fk.mk a.dY a.tx a.done a.dE=a:=rfl
def fk.inj{a b:fk}(c:a.t=b.t):a=b:=by
 rcases a with⟨_,_,_,_⟩;rcases b with⟨_,_,_,_⟩;simp only[fk.t,fk.cs,T.agg.injEq,aJ]at c;obtain⟨d,e,f,g,_⟩:=c;obtain rfl:=ig (λ_ _=>dV.inj) _ _ d;obtain rfl:=gH e;obtain rfl:=ig (λ_ _=>rY) _ _ f;obtain rfl:=ig (λ_ _=>dG.inj) _ _ g;rfl
structure d8 where
 fF:fk
 cells:List Int
 dX:List Int
 count:List Int
 deriving DecidableEq,Inhabited
def d8.cs(a:d8):List T:=[sl (a.fF.dY.map dV.t),dy a.fF.tx,sl (a.fF.done.map T.bool),sl (a.fF.dE.map dG.t),sl (a.cells.map (T.int .i64)),sl (a.dX.map (T.int .i64)),sl (a.count.map (T.int .i64))]
def d8.t(a:d8):T:= .agg a.cs
@[simp] theorem d8.ag (a:d8):qu a.t [sl (a.fF.dY.map dV.t),dy a.fF.tx,sl (a.fF.done.map T.bool),sl (a.fF.dE.map dG.t),sl (a.cells.map (T.int .i64)),sl (a.dX.map (T.int .i64)),sl (a.count.map (T.int .i64))] 7:=by
 unfold d8.t d8.cs;exact⟨rfl,rfl,λ_ _=>rfl,rfl,by simp[jE],λ_=>by simp,λ_ _=>by simp,dt,dt⟩
@[simp] theorem d8.fold (a0:List dV) (a1:Int) (a2:List Bool) (a3:List dG) (a4:List Int) (a5:List Int) (a:List Int):T.agg [sl (a0.map dV.t),dy a1,sl (a2.map T.bool),sl (a3.map dG.t),sl (a4.map (T.int .i64)),sl (a5.map (T.int .i64)),sl (a.map (T.int .i64))]=d8.t ⟨⟨a0,a1,a2,a3⟩,a4,a5,a⟩:=rfl
@[simp] theorem d8.eta (a:d8):d8.mk a.fF a.cells a.dX a.count=a:=rfl
def d8.inj{a b:d8}(c:a.t=b.t):a=b:=by
 rcases a with⟨⟨_,_,_,_⟩,_,_,_⟩;rcases b with⟨⟨_,_,_,_⟩,_,_,_⟩;simp only[d8.t,d8.cs,T.agg.injEq,aJ]at c;obtain⟨d,e,f,g,h,i,j,_⟩:=c;obtain rfl:=ig (λ_ _=>dV.inj) _ _ d;obtain rfl:=gH e;obtain rfl:=ig (λ_ _=>rY) _ _ f;obtain rfl:=ig (λ_ _=>dG.inj) _ _ g;obtain rfl:=ig (λ_ _=>gH) _ _ h;obtain rfl:=ig (λ_ _=>gH) _ _ i;obtain rfl:=ig (λ_ _=>gH) _ _ j;rfl
structure ed where
 dQ:Int
 kind:Int
 obj:Int
 value:Int
 iS:Int
 mn:List Int
 uF:List Int
 deriving DecidableEq,Inhabited
def ed.cs(a:ed):List T:=[dy a.dQ,dy a.kind,dy a.obj,dy a.value,dy a.iS,sl (a.mn.map (T.int .i64)),sl (a.uF.map (T.int .i64))]
def ed.t(a:ed):T:= .agg a.cs
@[simp] theorem ed.ag (a:ed):qu a.t [dy a.dQ,dy a.kind,dy a.obj,dy a.value,dy a.iS,sl (a.mn.map (T.int .i64)),sl (a.uF.map (T.int .i64))] 7:=by
 unfold ed.t ed.cs;exact⟨rfl,rfl,λ_ _=>rfl,rfl,by simp[jE],λ_=>by simp,λ_ _=>by simp,dt,dt⟩
@[simp] theorem ed.fold (a0:Int) (a1:Int) (a2:Int) (a3:Int) (a4:Int) (a5:List Int) (a:List Int):T.agg [dy a0,dy a1,dy a2,dy a3,dy a4,sl (a5.map (T.int .i64)),sl (a.map (T.int .i64))]=ed.t ⟨a0,a1,a2,a3,a4,a5,a⟩:=rfl
@[simp] theorem ed.eta (a:ed):ed.mk a.dQ a.kind a.obj a.value a.iS a.mn a.uF=a:=rfl
def ed.inj{a b:ed}(c:a.t=b.t):a=b:=by
 rcases a with⟨_,_,_,_,_,_,_⟩;rcases b with⟨_,_,_,_,_,_,_⟩;simp only[ed.t,ed.cs,T.agg.injEq,aJ]at c;obtain⟨d,e,f,g,h,i,j,_⟩:=c;obtain rfl:=gH d;obtain rfl:=gH e;obtain rfl:=gH f;obtain rfl:=gH g;obtain rfl:=gH h;obtain rfl:=ig (λ_ _=>gH) _ _ i;obtain rfl:=ig (λ_ _=>gH) _ _ j;rfl
structure eZ where
 eK:dU
 start:Int
 jK:d8
 dK:List ed
 deriving DecidableEq,Inhabited
def eZ.cs(a:eZ):List T:=[sl (a.eK.cells.map ge.t),sl (a.eK.dY.map io.t),sl (a.eK.fZ.map iF.t),sl (a.eK.dX.map T.str),sl (a.eK.dE.map T.str),sl (a.eK.iq.map ir.t),dy a.start,sl (a.jK.fF.dY.map dV.t),dy a.jK.fF.tx,sl (a.jK.fF.done.map T.bool),sl (a.jK.fF.dE.map dG.t),sl (a.jK.cells.map (T.int .i64)),sl (a.jK.dX.map (T.int .i64)),sl (a.jK.count.map (T.int .i64)),sl (a.dK.map ed.t)]
def eZ.t(a:eZ):T:= .agg a.cs
@[simp] theorem eZ.ag (a:eZ):qu a.t [sl (a.eK.cells.map ge.t),sl (a.eK.dY.map io.t),sl (a.eK.fZ.map iF.t),sl (a.eK.dX.map T.str),sl (a.eK.dE.map T.str),sl (a.eK.iq.map ir.t),dy a.start,sl (a.jK.fF.dY.map dV.t),dy a.jK.fF.tx,sl (a.jK.fF.done.map T.bool),sl (a.jK.fF.dE.map dG.t),sl (a.jK.cells.map (T.int .i64)),sl (a.jK.dX.map (T.int .i64)),sl (a.jK.count.map (T.int .i64)),sl (a.dK.map ed.t)] 15:=by
 unfold eZ.t eZ.cs;exact⟨rfl,rfl,λ_ _=>rfl,rfl,by simp[jE],λ_=>by simp,λ_ _=>by simp,dt,dt⟩
@[simp] theorem eZ.fold (a0:List ge) (a1:List io) (a2:List iF) (a3:List (List Nat)) (a4:List (List Nat)) (a5:List ir) (f:Int) (g:List dV) (h:Int) (i:List Bool) (a:List dG) (b:List Int) (c:List Int) (d:List Int) (e:List ed):T.agg [sl (a0.map ge.t),sl (a1.map io.t),sl (a2.map iF.t),sl (a3.map T.str),sl (a4.map T.str),sl (a5.map ir.t),dy f,sl (g.map dV.t),dy h,sl (i.map T.bool),sl (a.map dG.t),sl (b.map (T.int .i64)),sl (c.map (T.int .i64)),sl (d.map (T.int .i64)),sl (e.map ed.t)]=eZ.t ⟨⟨a0,a1,a2,a3,a4,a5⟩,f,⟨⟨g,h,i,a⟩,b,c,d⟩,e⟩:=rfl
@[simp] theorem eZ.eta (a:eZ):eZ.mk a.eK a.start a.jK a.dK=a:=rfl
def eZ.inj{a b:eZ}(c:a.t=b.t):a=b:=by
 rcases a with⟨⟨_,_,_,_,_,_⟩,_,⟨⟨_,_,_,_⟩,_,_,_⟩,_⟩;rcases b with⟨⟨_,_,_,_,_,_⟩,_,⟨⟨_,_,_,_⟩,_,_,_⟩,_⟩;simp only[eZ.t,eZ.cs,T.agg.injEq,aJ]at c;obtain⟨d,e,k,l,m,n,o,p,q,r,f,g,h,i,j,_⟩:=c;obtain rfl:=ig (λ_ _=>ge.inj) _ _ d;obtain rfl:=ig (λ_ _=>io.inj) _ _ e;obtain rfl:=ig (λ_ _=>iF.inj) _ _ k;obtain rfl:=ig (λ_ _=>mw) _ _ l;obtain rfl:=ig (λ_ _=>mw) _ _ m;obtain rfl:=ig (λ_ _=>ir.inj) _ _ n;obtain rfl:=gH o;obtain rfl:=ig (λ_ _=>dV.inj) _ _ p;obtain rfl:=gH q;obtain rfl:=ig (λ_ _=>rY) _ _ r;obtain rfl:=ig (λ_ _=>dG.inj) _ _ f;obtain rfl:=ig (λ_ _=>gH) _ _ g;obtain rfl:=ig (λ_ _=>gH) _ _ h;obtain rfl:=ig (λ_ _=>gH) _ _ i;obtain rfl:=ig (λ_ _=>ed.inj) _ _ j;rfl
structure jy where
 kind:Int
 a:Int
 b:Int
 c:Int
 d:Int
 kG:List Int
 deriving DecidableEq,Inhabited
def jy.cs(e:jy):List T:=[dy e.kind,dy e.a,dy e.b,dy e.c,dy e.d,sl (e.kG.map (T.int .i64))]
def jy.t(a:jy):T:= .agg a.cs
@[simp] theorem jy.ag (e:jy):qu e.t [dy e.kind,dy e.a,dy e.b,dy e.c,dy e.d,sl (e.kG.map (T.int .i64))] 6:=by
 unfold jy.t jy.cs;exact⟨rfl,rfl,λ_ _=>rfl,rfl,by simp[jE],λ_=>by simp,λ_ _=>by simp,dt,dt⟩
@[simp] theorem jy.fold (a0:Int) (a1:Int) (a2:Int) (a3:Int) (a4:Int) (a5:List Int):T.agg [dy a0,dy a1,dy a2,dy a3,dy a4,sl (a5.map (T.int .i64))]=jy.t ⟨a0,a1,a2,a3,a4,a5⟩:=rfl
@[simp] theorem jy.eta (e:jy):jy.mk e.kind e.a e.b e.c e.d e.kG=e:=rfl
def jy.inj{a b:jy}(c:a.t=b.t):a=b:=by
 rcases a with⟨_,_,_,_,_,_⟩;rcases b with⟨_,_,_,_,_,_⟩;simp only[jy.t,jy.cs,T.agg.injEq,aJ]at c;obtain⟨d,e,f,g,h,i,_⟩:=c;obtain rfl:=gH d;obtain rfl:=gH e;obtain rfl:=gH f;obtain rfl:=gH g;obtain rfl:=gH h;obtain rfl:=ig (λ_ _=>gH) _ _ i;rfl
structure jU where
 eK:dU
 dK:List ed
 deriving DecidableEq,Inhabited
def jU.cs(a:jU):List T:=[sl (a.eK.cells.map ge.t),sl (a.eK.dY.map io.t),sl (a.eK.fZ.map iF.t),sl (a.eK.dX.map T.str),sl (a.eK.dE.map T.str),sl (a.eK.iq.map ir.t),sl (a.dK.map ed.t)]
def jU.t(a:jU):T:= .agg a.cs
@[simp] theorem jU.ag (a:jU):qu a.t [sl (a.eK.cells.map ge.t),sl (a.eK.dY.map io.t),sl (a.eK.fZ.map iF.t),sl (a.eK.dX.map T.str),sl (a.eK.dE.map T.str),sl (a.eK.iq.map ir.t),sl (a.dK.map ed.t)] 7:=by
 unfold jU.t jU.cs;exact⟨rfl,rfl,λ_ _=>rfl,rfl,by simp[jE],λ_=>by simp,λ_ _=>by simp,dt,dt⟩
@[simp] theorem jU.fold (a0:List ge) (a1:List io) (a2:List iF) (a3:List (List Nat)) (a4:List (List Nat)) (a5:List ir) (a:List ed):T.agg [sl (a0.map ge.t),sl (a1.map io.t),sl (a2.map iF.t),sl (a3.map T.str),sl (a4.map T.str),sl (a5.map ir.t),sl (a.map ed.t)]=jU.t ⟨⟨a0,a1,a2,a3,a4,a5⟩,a⟩:=rfl
@[simp] theorem jU.eta (a:jU):jU.mk a.eK a.dK=a:=rfl
def jU.inj{a b:jU}(c:a.t=b.t):a=b:=by
 rcases a with⟨⟨_,_,_,_,_,_⟩,_⟩;rcases b with⟨⟨_,_,_,_,_,_⟩,_⟩;simp only[jU.t,jU.cs,T.agg.injEq,aJ]at c;obtain⟨d,e,f,g,h,i,j,_⟩:=c;obtain rfl:=ig (λ_ _=>ge.inj) _ _ d;obtain rfl:=ig (λ_ _=>io.inj) _ _ e;obtain rfl:=ig (λ_ _=>iF.inj) _ _ f;obtain rfl:=ig (λ_ _=>mw) _ _ g;obtain rfl:=ig (λ_ _=>mw) _ _ h;obtain rfl:=ig (λ_ _=>ir.inj) _ _ i;obtain rfl:=ig (λ_ _=>ed.inj) _ _ j;rfl
structure fM where
 w:eZ
 Bd:List fk
 deriving DecidableEq,Inhabited
def fM.cs(a:fM):List T:=[sl (a.w.eK.cells.map ge.t),sl (a.w.eK.dY.map io.t),sl (a.w.eK.fZ.map iF.t),sl (a.w.eK.dX.map T.str),sl (a.w.eK.dE.map T.str),sl (a.w.eK.iq.map ir.t),dy a.w.start,sl (a.w.jK.fF.dY.map dV.t),dy a.w.jK.fF.tx,sl (a.w.jK.fF.done.map T.bool),sl (a.w.jK.fF.dE.map dG.t),sl (a.w.jK.cells.map (T.int .i64)),sl (a.w.jK.dX.map (T.int .i64)),sl (a.w.jK.count.map (T.int .i64)),sl (a.w.dK.map ed.t),sl (a.Bd.map fk.t)]
def fM.t(a:fM):T:= .agg a.cs
@[simp] theorem fM.ag (a:fM):qu a.t [sl (a.w.eK.cells.map ge.t),sl (a.w.eK.dY.map io.t),sl (a.w.eK.fZ.map iF.t),sl (a.w.eK.dX.map T.str),sl (a.w.eK.dE.map T.str),sl (a.w.eK.iq.map ir.t),dy a.w.start,sl (a.w.jK.fF.dY.map dV.t),dy a.w.jK.fF.tx,sl (a.w.jK.fF.done.map T.bool),sl (a.w.jK.fF.dE.map dG.t),sl (a.w.jK.cells.map (T.int .i64)),sl (a.w.jK.dX.map (T.int .i64)),sl (a.w.jK.count.map (T.int .i64)),sl (a.w.dK.map ed.t),sl (a.Bd.map fk.t)] 16:=by
 unfold fM.t fM.cs;exact⟨rfl,rfl,λ_ _=>rfl,rfl,by simp[jE],λ_=>by simp,λ_ _=>by simp,dt,dt⟩
@[simp] theorem fM.fold (a0:List ge) (a1:List io) (a2:List iF) (a3:List (List Nat)) (a4:List (List Nat)) (a5:List ir) (g:Int) (h:List dV) (i:Int) (j:List Bool) (a:List dG) (b:List Int) (c:List Int) (d:List Int) (e:List ed) (f:List fk):T.agg [sl (a0.map ge.t),sl (a1.map io.t),sl (a2.map iF.t),sl (a3.map T.str),sl (a4.map T.str),sl (a5.map ir.t),dy g,sl (h.map dV.t),dy i,sl (j.map T.bool),sl (a.map dG.t),sl (b.map (T.int .i64)),sl (c.map (T.int .i64)),sl (d.map (T.int .i64)),sl (e.map ed.t),sl (f.map fk.t)]=fM.t ⟨⟨⟨a0,a1,a2,a3,a4,a5⟩,g,⟨⟨h,i,j,a⟩,b,c,d⟩,e⟩,f⟩:=rfl
@[simp] theorem fM.eta (a:fM):fM.mk a.w a.Bd=a:=rfl
def fM.inj{a b:fM}(c:a.t=b.t):a=b:=by
 rcases a with⟨⟨⟨_,_,_,_,_,_⟩,_,⟨⟨_,_,_,_⟩,_,_,_⟩,_⟩,_⟩;rcases b with⟨⟨⟨_,_,_,_,_,_⟩,_,⟨⟨_,_,_,_⟩,_,_,_⟩,_⟩,_⟩;simp only[fM.t,fM.cs,T.agg.injEq,aJ]at c;obtain⟨d,e,l,m,n,o,p,q,r,s,f,g,h,i,j,k,_⟩:=c;obtain rfl:=ig (λ_ _=>ge.inj) _ _ d;obtain rfl:=ig (λ_ _=>io.inj) _ _ e;obtain rfl:=ig (λ_ _=>iF.inj) _ _ l;obtain rfl:=ig (λ_ _=>mw) _ _ m;obtain rfl:=ig (λ_ _=>mw) _ _ n;obtain rfl:=ig (λ_ _=>ir.inj) _ _ o;obtain rfl:=gH p;obtain rfl:=ig (λ_ _=>dV.inj) _ _ q;obtain rfl:=gH r;obtain rfl:=ig (λ_ _=>rY) _ _ s;obtain rfl:=ig (λ_ _=>dG.inj) _ _ f;obtain rfl:=ig (λ_ _=>gH) _ _ g;obtain rfl:=ig (λ_ _=>gH) _ _ h;obtain rfl:=ig (λ_ _=>gH) _ _ i;obtain rfl:=ig (λ_ _=>ed.inj) _ _ j;obtain rfl:=ig (λ_ _=>fk.inj) _ _ k;rfl
structure fI where
 op:Int
 a:Int
 b:Int
 c:Int
 n:Int
 iS:Int
 deriving DecidableEq,Inhabited
def fI.cs(d:fI):List T:=[dy d.op,dy d.a,dy d.b,dy d.c,dy d.n,dy d.iS]
def fI.t(a:fI):T:= .agg a.cs
@[simp] theorem fI.ag (d:fI):qu d.t [dy d.op,dy d.a,dy d.b,dy d.c,dy d.n,dy d.iS] 6:=by
 unfold fI.t fI.cs;exact⟨rfl,rfl,λ_ _=>rfl,rfl,by simp[jE],λ_=>by simp,λ_ _=>by simp,dt,dt⟩
@[simp] theorem fI.fold (a0:Int) (a1:Int) (a2:Int) (a3:Int) (a4:Int) (a5:Int):T.agg [dy a0,dy a1,dy a2,dy a3,dy a4,dy a5]=fI.t ⟨a0,a1,a2,a3,a4,a5⟩:=rfl
@[simp] theorem fI.eta (d:fI):fI.mk d.op d.a d.b d.c d.n d.iS=d:=rfl
def fI.inj{a b:fI}(c:a.t=b.t):a=b:=by
 rcases a with⟨_,_,_,_,_,_⟩;rcases b with⟨_,_,_,_,_,_⟩;simp only[fI.t,fI.cs,T.agg.injEq,aJ]at c;obtain⟨d,e,f,g,h,i,_⟩:=c;obtain rfl:=gH d;obtain rfl:=gH e;obtain rfl:=gH f;obtain rfl:=gH g;obtain rfl:=gH h;obtain rfl:=gH i;rfl
structure fP where
 iE:Int
 iW:List fI
 deriving DecidableEq,Inhabited
def fP.cs(a:fP):List T:=[dy a.iE,sl (a.iW.map fI.t)]
def fP.t(a:fP):T:= .agg a.cs
@[simp] theorem fP.ag (a:fP):qu a.t [dy a.iE,sl (a.iW.map fI.t)] 2:=by
 unfold fP.t fP.cs;exact⟨rfl,rfl,λ_ _=>rfl,rfl,by simp[jE],λ_=>by simp,λ_ _=>by simp,dt,dt⟩
@[simp] theorem fP.fold (a0:Int) (a1:List fI):T.agg [dy a0,sl (a1.map fI.t)]=fP.t ⟨a0,a1⟩:=rfl
@[simp] theorem fP.eta (a:fP):fP.mk a.iE a.iW=a:=rfl
def fP.inj{a b:fP}(c:a.t=b.t):a=b:=by
 rcases a with⟨_,_⟩;rcases b with⟨_,_⟩;simp only[fP.t,fP.cs,T.agg.injEq,aJ]at c;obtain⟨d,e,_⟩:=c;obtain rfl:=gH d;obtain rfl:=ig (λ_ _=>fI.inj) _ _ e;rfl
structure jz where
 eK:dU
 dE:List fP
 deriving DecidableEq,Inhabited
def jz.cs(a:jz):List T:=[sl (a.eK.cells.map ge.t),sl (a.eK.dY.map io.t),sl (a.eK.fZ.map iF.t),sl (a.eK.dX.map T.str),sl (a.eK.dE.map T.str),sl (a.eK.iq.map ir.t),sl (a.dE.map fP.t)]
def jz.t(a:jz):T:= .agg a.cs
@[simp] theorem jz.ag (a:jz):qu a.t [sl (a.eK.cells.map ge.t),sl (a.eK.dY.map io.t),sl (a.eK.fZ.map iF.t),sl (a.eK.dX.map T.str),sl (a.eK.dE.map T.str),sl (a.eK.iq.map ir.t),sl (a.dE.map fP.t)] 7:=by
 unfold jz.t jz.cs;exact⟨rfl,rfl,λ_ _=>rfl,rfl,by simp[jE],λ_=>by simp,λ_ _=>by simp,dt,dt⟩
@[simp] theorem jz.fold (a0:List ge) (a1:List io) (a2:List iF) (a3:List (List Nat)) (a4:List (List Nat)) (a5:List ir) (a:List fP):T.agg [sl (a0.map ge.t),sl (a1.map io.t),sl (a2.map iF.t),sl (a3.map T.str),sl (a4.map T.str),sl (a5.map ir.t),sl (a.map fP.t)]=jz.t ⟨⟨a0,a1,a2,a3,a4,a5⟩,a⟩:=rfl
@[simp] theorem jz.eta (a:jz):jz.mk a.eK a.dE=a:=rfl
def jz.inj{a b:jz}(c:a.t=b.t):a=b:=by
 rcases a with⟨⟨_,_,_,_,_,_⟩,_⟩;rcases b with⟨⟨_,_,_,_,_,_⟩,_⟩;simp only[jz.t,jz.cs,T.agg.injEq,aJ]at c;obtain⟨d,e,f,g,h,i,j,_⟩:=c;obtain rfl:=ig (λ_ _=>ge.inj) _ _ d;obtain rfl:=ig (λ_ _=>io.inj) _ _ e;obtain rfl:=ig (λ_ _=>iF.inj) _ _ f;obtain rfl:=ig (λ_ _=>mw) _ _ g;obtain rfl:=ig (λ_ _=>mw) _ _ h;obtain rfl:=ig (λ_ _=>ir.inj) _ _ i;obtain rfl:=ig (λ_ _=>fP.inj) _ _ j;rfl
structure ee where
 pC:Int
 iE:List Int
 jR:List (List Int)
 dK:Int
 deriving DecidableEq,Inhabited
def ee.cs(a:ee):List T:=[dy a.pC,sl (a.iE.map (T.int .i64)),sl (a.jR.map (λb=>sl (b.map (T.int .i64)))),dy a.dK]
def ee.t(a:ee):T:= .agg a.cs
@[simp] theorem ee.ag (a:ee):qu a.t [dy a.pC,sl (a.iE.map (T.int .i64)),sl (a.jR.map (λb=>sl (b.map (T.int .i64)))),dy a.dK] 4:=by
 unfold ee.t ee.cs;exact⟨rfl,rfl,λ_ _=>rfl,rfl,by simp[jE],λ_=>by simp,λ_ _=>by simp,dt,dt⟩
@[simp] theorem ee.fold (a0:Int) (a1:List Int) (a2:List (List Int)) (a3:Int):T.agg [dy a0,sl (a1.map (T.int .i64)),sl (a2.map (λa=>sl (a.map (T.int .i64)))),dy a3]=ee.t ⟨a0,a1,a2,a3⟩:=rfl
@[simp] theorem ee.eta (a:ee):ee.mk a.pC a.iE a.jR a.dK=a:=rfl
def ee.inj{a b:ee}(c:a.t=b.t):a=b:=by
 rcases a with⟨_,_,_,_⟩;rcases b with⟨_,_,_,_⟩;simp only[ee.t,ee.cs,T.agg.injEq,aJ]at c;obtain⟨d,e,f,g,_⟩:=c;obtain rfl:=gH d;obtain rfl:=ig (λ_ _=>gH) _ _ e;obtain rfl:=ig (ig (λ_ _=>gH)) _ _ f;obtain rfl:=gH g;rfl
structure iz where
 fF:fk
 cells:List Int
 dX:List Int
 dE:List ee
 deriving DecidableEq,Inhabited
def iz.cs(a:iz):List T:=[sl (a.fF.dY.map dV.t),dy a.fF.tx,sl (a.fF.done.map T.bool),sl (a.fF.dE.map dG.t),sl (a.cells.map (T.int .i64)),sl (a.dX.map (T.int .i64)),sl (a.dE.map ee.t)]
def iz.t(a:iz):T:= .agg a.cs
@[simp] theorem iz.ag (a:iz):qu a.t [sl (a.fF.dY.map dV.t),dy a.fF.tx,sl (a.fF.done.map T.bool),sl (a.fF.dE.map dG.t),sl (a.cells.map (T.int .i64)),sl (a.dX.map (T.int .i64)),sl (a.dE.map ee.t)] 7:=by
 unfold iz.t iz.cs;exact⟨rfl,rfl,λ_ _=>rfl,rfl,by simp[jE],λ_=>by simp,λ_ _=>by simp,dt,dt⟩
@[simp] theorem iz.fold (a0:List dV) (a1:Int) (a2:List Bool) (a3:List dG) (a4:List Int) (a5:List Int) (a:List ee):T.agg [sl (a0.map dV.t),dy a1,sl (a2.map T.bool),sl (a3.map dG.t),sl (a4.map (T.int .i64)),sl (a5.map (T.int .i64)),sl (a.map ee.t)]=iz.t ⟨⟨a0,a1,a2,a3⟩,a4,a5,a⟩:=rfl
@[simp] theorem iz.eta (a:iz):iz.mk a.fF a.cells a.dX a.dE=a:=rfl
def iz.inj{a b:iz}(c:a.t=b.t):a=b:=by
 rcases a with⟨⟨_,_,_,_⟩,_,_,_⟩;rcases b with⟨⟨_,_,_,_⟩,_,_,_⟩;simp only[iz.t,iz.cs,T.agg.injEq,aJ]at c;obtain⟨d,e,f,g,h,i,j,_⟩:=c;obtain rfl:=ig (λ_ _=>dV.inj) _ _ d;obtain rfl:=gH e;obtain rfl:=ig (λ_ _=>rY) _ _ f;obtain rfl:=ig (λ_ _=>dG.inj) _ _ g;obtain rfl:=ig (λ_ _=>gH) _ _ h;obtain rfl:=ig (λ_ _=>gH) _ _ i;obtain rfl:=ig (λ_ _=>ee.inj) _ _ j;rfl
structure iR where
 dQ:Int
 D7:Int
 deriving DecidableEq,Inhabited
def iR.cs(a:iR):List T:=[dy a.dQ,dy a.D7]
def iR.t(a:iR):T:= .agg a.cs
@[simp] theorem iR.ag (a:iR):qu a.t [dy a.dQ,dy a.D7] 2:=by
 unfold iR.t iR.cs;exact⟨rfl,rfl,λ_ _=>rfl,rfl,by simp[jE],λ_=>by simp,λ_ _=>by simp,dt,dt⟩
@[simp] theorem iR.fold (a0:Int) (a1:Int):T.agg [dy a0,dy a1]=iR.t ⟨a0,a1⟩:=rfl
@[simp] theorem iR.eta (a:iR):iR.mk a.dQ a.D7=a:=rfl
def iR.inj{a b:iR}(c:a.t=b.t):a=b:=by
 rcases a with⟨_,_⟩;rcases b with⟨_,_⟩;simp only[iR.t,iR.cs,T.agg.injEq,aJ]at c;obtain⟨d,e,_⟩:=c;obtain rfl:=gH d;obtain rfl:=gH e;rfl
structure gW where
 kind:Int
 uj:Int
 name:List Nat
 size:Int
 jK:Int
 on:List Nat
 deriving DecidableEq,Inhabited
def gW.cs(a:gW):List T:=[dy a.kind,dy a.uj,.str a.name,dy a.size,dy a.jK,.str a.on]
def gW.t(a:gW):T:= .agg a.cs
@[simp] theorem gW.ag (a:gW):qu a.t [dy a.kind,dy a.uj,.str a.name,dy a.size,dy a.jK,.str a.on] 6:=by
 unfold gW.t gW.cs;exact⟨rfl,rfl,λ_ _=>rfl,rfl,by simp[jE],λ_=>by simp,λ_ _=>by simp,dt,dt⟩
@[simp] theorem gW.fold (a0:Int) (a1:Int) (a2:List Nat) (a3:Int) (a4:Int) (a5:List Nat):T.agg [dy a0,dy a1,.str a2,dy a3,dy a4,.str a5]=gW.t ⟨a0,a1,a2,a3,a4,a5⟩:=rfl
@[simp] theorem gW.eta (a:gW):gW.mk a.kind a.uj a.name a.size a.jK a.on=a:=rfl
def gW.inj{a b:gW}(c:a.t=b.t):a=b:=by
 rcases a with⟨_,_,_,_,_,_⟩;rcases b with⟨_,_,_,_,_,_⟩;simp only[gW.t,gW.cs,T.agg.injEq,aJ]at c;obtain⟨d,e,f,g,h,i,_⟩:=c;obtain rfl:=gH d;obtain rfl:=gH e;obtain rfl:=mw f;obtain rfl:=gH g;obtain rfl:=gH h;obtain rfl:=mw i;rfl
def iT(a:Int)(b:Nat):Bool:=decide (0<=a/\a<b)
def wO{b:Type}(c:List b)(a:Int):aa b:=if 0<=a then c[a.toNat]? else none
def fj{a:Int}{b:Nat}:iT a b=true↔0<=a/\a.toNat<b:=by unfold iT;simp;omega
def DO{a:Int}{c:Nat}(b:iT a c=false):¬(0<=a/\a.toNat<c):=λd=>by rw[fj.2 d]at b;simp at b
def iu{g:Type}{b:List g}{a:Int}(e:iT a b.length=true):∃d,b[a.toNat]? =some d/\wO b a=some d:=by
 obtain⟨f,c⟩:=fj.1 e;exact⟨b[a.toNat],by simp[c],by simp[wO,f,c]⟩
def qq{d:Type}{b:List d}{a:Int}(c:iT a b.length=false):wO b a=none:=by
 have:=DO c;unfold wO;split
 ·simp;omega
 ·rfl
def mr(a:dU)(b:fk):Bool:=(a.fZ.all λc=>iT c.kl a.dY.length)&&decide (b.dY.length=a.dY.length)&&decide (b.done.length=a.dX.length)&&decide (b.dE.length=a.dE.length)
def jD(c:dU)(a b:Int):Bool:=
 if a=1\/a=2\/a=5\/a=12\/a=13\/a=14\/a=15 then decide (b=-1)
 else if a=3\/a=4 then iT b c.cells.length
 else if a=6\/a=7 then(match wO c.dY b with|some d=> !d.rW|none=>false)
 else if a=8\/a=9\/a=10\/a=11 then(match wO c.dY b with|some d=>d.rW|none=>false)
 else if a=16\/a=17\/a=18\/a=19 then iT b c.fZ.length
 else if a=20\/a=21 then iT b c.dE.length
 else if a=22\/a=23 then iT b c.dX.length
 else false
def hU(a:Int):List dG->Nat->List Int
 | [],_=>[]
 |t::c,b=>if t.iA=3/\t.cond=a then(b:Int)::hU a c (b+1)else hU a c (b+1)
def ml(b:fk)(a:Int):dV:=(wO b.dY a).getD default
def pf(b:fk)(a:Int):dG:=(wO b.dE a).getD default
def rh(c:dU)(b:fk)(a:Int):dV:=ml b ((wO c.fZ a).getD default).kl
def Cm(b:fk)(a:Int):Bool:=(wO b.done a).getD false
def AY(e:dU)(a:fk)(d b c:Int):Bool:=
 if b=1 then decide ((pf a d).iA=1)
 else if b=17 then decide ((pf a d).iA=4)&&decide ((pf a d).cond=c)&&decide ((rh e a c).iK=-1)
 else if¬(pf a d).iA=2 then false
 else if b=6 then decide ((ml a c).iK=-1)
 else if b=10 then decide ((ml a c).iK=-1)&&decide ((ml a c).eg=[])
 else if b=8 then decide ((ml a c).iK=-1)&& !decide (d∈(ml a c).eg)
 else if b=7\/b=11 then decide ((ml a c).iK=d)
 else if b=9 then decide (d∈(ml a c).eg)
 else if b=12 then decide (a.tx=-1)
 else if b=13 then decide (a.tx=d)
 else if b=14 then !(pf a d).atomic
 else if b=15 then(pf a d).atomic
 else if b=16\/b=18\/b=19 then decide ((rh e a c).iK=d)
 else if b=20 then !decide (c=d)&&decide ((pf a c).iA=0)
 else if b=21 then !decide (c=d)&&decide ((pf a c).iA=5)
 else if b=22 then !Cm a c
 else if b=23 then Cm a c
 else true
def jM(a:dU)(d:fk)(e b c:Int):Bool:=mr a d&&iT e a.dE.length&&jD a b c&&AY a d e b c
def nO{c:dU}{b:fk}(a:mr c b=true):b.dY.length=c.dY.length/\b.done.length=c.dX.length/\b.dE.length=c.dE.length:=by
 unfold mr at a;simp at a;exact⟨a.1.1.2,a.1.2,a.2⟩
def rf{c:dU}{f:fk}(b:mr c f=true){e:Nat}{a:iF}(d:c.fZ[e]? =some a):iT a.kl c.dY.length=true:=by
 unfold mr at b;simp at b;exact b.1.1.1 a (ax d)
def tv{d:dU}{a c:Int}(b:jD d a c=true):a=1\/a=2\/a=3\/a=4\/a=5\/a=12\/a=13\/a=14\/a=15\/(a=6\/a=7\/a=8\/a=9\/a=10\/a=11)\/(a=16\/a=17\/a=18\/a=19)\/(a=20\/a=21)\/(a=22\/a=23):=by
 by_cases e:1<=a/\a<=23
 ·omega
 ·exfalso;unfold jD at b;rw[ao dq,ao dq,ao dq,ao dq,ao dq,ao dq,ao dq]at b;simp at b
def kA{d:dU}{a c:Int}(b:jD d a c=true)(e:a=6\/a=7\/a=8\/a=9\/a=10\/a=11):iT c d.dY.length=true:=by
 cases hl:iT c d.dY.length with
 |true=>rfl
 |false=>
  unfold jD at b;rw[ao dq,ao dq]at b;rcases e with rfl|rfl|rfl|rfl|rfl|rfl<;>simp[qq hl]at b
def nG{d:dU}{a c:Int}(b:jD d a c=true)(e:a=16\/a=17\/a=18\/a=19):iT c d.fZ.length=true:=by
 unfold jD at b;rwa[ao dq,ao dq,ao dq,ao dq,aq e]at b
def v7{d:dU}{a c:Int}(b:jD d a c=true)(e:a=20\/a=21):iT c d.dE.length=true:=by
 unfold jD at b;rwa[ao dq,ao dq,ao dq,ao dq,ao dq,aq e]at b
def qz{d:dU}{a c:Int}(b:jD d a c=true)(e:a=22\/a=23):iT c d.dX.length=true:=by
 unfold jD at b;rwa[ao dq,ao dq,ao dq,ao dq,ao dq,ao dq,aq e]at b
def fk.sm(a:fk):Prop:=a.dY.length<=1099511627776/\a.done.length<=1099511627776/\a.dE.length<=1099511627776/\∀b∈a.dY,b.eg.length<=1000000000000
def fk.oE(a:fk)(i:Int)(b:dG->dG):fk:={a with dE:=a.dE.modify i.toNat b}
def fk.pO(a:fk)(c:Int)(b:dV->dV):fk:={a with dY:=a.dY.modify c.toNat b}
def kc(a:Int)(b:dG):dG:={b with iA:=a}
def lH:List Int->Int->List Int
 | [],a=>[a]
 |x::b,a=>if x<a then x::lH b a else if x=a then x::b else a::x::b
def xG(a c:Int)(b:List dG):Int:=if c∈hU a b 0 then c else(hU a b 0).headD (-1)
def eG(g:dU)(a:fk)(f b c h:Int):fk×Int:=
 if b=1 then(a.oE f (kc 2),0)
 else if b=2 then(a.oE f (kc 5),0)
 else if b=6\/b=10 then(a.pO c λd=>{d with iK:=f},0)
 else if b=7\/b=11 then(a.pO c λd=>{d with iK:=-1},0)
 else if b=8 then(a.pO c λd=>{d with eg:=lH d.eg f},0)
 else if b=9 then(a.pO c λd=>{d with eg:=d.eg.filter λi=> !decide (i=f)},0)
 else if b=12 then({a with tx:=f},0)
 else if b=13 then({a with tx:=-1},0)
 else if b=14 then(a.oE f λe=>{e with atomic:=true},0)
 else if b=15 then(a.oE f λe=>{e with atomic:=false},0)
 else if b=16 then((a.pO ((wO g.fZ c).getD default).kl λd=>{d with iK:=-1}).oE f λe=>{e with iA:=3,cond:=c},0)
 else if b=17 then((a.pO ((wO g.fZ c).getD default).kl λd=>{d with iK:=f}).oE f λe=>{e with iA:=2,cond:=0},0)
 else if b=18 then(if hU c a.dE 0=[]then(a,-1)else(a.oE (xG c h a.dE) (kc 4),xG c h a.dE))
 else if b=19 then({a with dE:=a.dE.map λe=>if e.iA=3/\e.cond=c then kc 4 e else e},(hU c a.dE 0).length)
 else if b=20 then(a.oE c (kc 1),0)
 else if b=22 then({a with done:=a.done.set c.toNat true},0)
 else(a,0)
def HO(a:List Int):Prop:=a.Pairwise (· < ·)
def fk.D0(b:fk):Prop:=∀a∈b.dY,HO a.eg
def BV{a:List Int}{c b:Int}(h:b∈lH a c):b∈a\/b=c:=by
 induction a with
 |nil=>simp[lH]at h;exact .inr h
 |cons e a d=>
  unfold lH at h;split at h
  ·rcases List.mem_cons.1 h with rfl|h
   ·exact .inl dt
   ·rcases d h with h|h
    ·exact .inl (by simp[h])
    ·exact .inr h
  ·split at h
   ·exact .inl h
   ·rcases List.mem_cons.1 h with rfl|h
    ·exact .inr rfl
    ·exact .inl h
def BW{b:List Int}(a:HO b)(e:Int):HO (lH b e):=by
 induction b with
 |nil=>simp[lH,HO]
 |cons f b d=>
  unfold HO at*
  rw[dg]at a;unfold lH;split
  ·rw[dg];refine⟨λc hx=> ?_,d a.2⟩;rcases BV hx with hx|rfl
   ·exact a.1 c hx
   ·assumption
  ·split
   ·rw[dg];exact a
   ·rw[dg,dg];refine⟨λc hx=> ?_,a⟩;rcases List.mem_cons.1 hx with rfl|hx
    ·omega
    ·have:=a.1 c hx;omega
def GN(a:List Int)(b:Int):(lH a b).length<=a.length+1:=by
 induction a with
 |nil=>simp[lH]
 |cons d a c=>unfold lH;split<;>(try split)<;>simp<;>omega
def mem_modify{c:Type}{b:List c}{i:Nat}{g:c->c}{e:c}(h:e∈b.modify i g):e∈b\/∃f∈b,e=g f:=by
 obtain⟨j,a⟩:=List.mem_iff_getElem?.1 h;rw[List.getElem?_modify]at a;split at a
 ·cases d:b[j]? with
  |none=>rw[d]at a;simp at a
  |some f=>rw[d]at a;simp at a;exact .inr ⟨f,ax d,a.symm⟩
 ·exact .inl (ax (by simpa using a))
def Q8{b:fk}(d:b.D0){h:Int}{c:dV->dV}(f:∀a∈b.dY,HO (c a).eg):(b.pO h c).D0:=by
 intro a hl;rcases mem_modify hl with e|⟨i,g,rfl⟩
 ·exact d a e
 ·exact f i g
def pB{e:Type}(b:e->Prop){a:Prop} [Decidable a]{c d:e}(f:a->b c)(g:¬a->b d):b (if a then c else d):=by
 split
 ·exact f (by assumption)
 ·exact g (by assumption)
def uw{P:fk×Int->Prop}{p:dU}{b:fk}{e m g q:Int}(p0:P (b,0))(p1:P (b,-1))(pt:∀h c d,P (b.oE h c,d))(f:∀h c,(∀a,(c a).eg=a.eg\/(c a).eg=lH a.eg e\/(c a).eg=a.eg.filter λi=> !decide (i=e))->P (b.pO h c,0)/\∀l k,P ((b.pO h c).oE l k,0))
 (j:∀d,P ({b with tx:=d},0)) (o:∀c d,P ({b with dE:=b.dE.map c},d)) (n:∀d,P ({b with done:=b.done.set d true},0)):P (eG p b e m g q):=by
 unfold eG;refine pB P (λ_=>pt _ _ _) λ_=> ?_;refine pB P (λ_=>pt _ _ _) λ_=> ?_;refine pB P (λ_=>(f g (λa=>{a with iK:=e}) λ_=> .inl rfl).1) λ_=> ?_;refine pB P (λ_=>(f g (λa=>{a with iK:=-1}) λ_=> .inl rfl).1) λ_=> ?_;refine pB P (λ_=>(f g (λa=>{a with eg:=lH a.eg e}) λ_=> .inr (.inl rfl)).1) λ_=> ?_;refine pB P (λ_=>(f g (λa=>{a with eg:=a.eg.filter λi=> !decide (i=e)}) λ_=> .inr (.inr rfl)).1) λ_=> ?_;refine pB P (λ_=>j _) λ_=> ?_;refine pB P (λ_=>j _) λ_=> ?_;refine pB P (λ_=>pt _ _ _) λ_=> ?_;refine pB P (λ_=>pt _ _ _) λ_=> ?_;refine pB P (λ_=>(f _ (λa=>{a with iK:=-1}) λ_=> .inl rfl).2 _ _) λ_=> ?_;refine pB P (λ_=>(f _ (λa=>{a with iK:=e}) λ_=> .inl rfl).2 _ _) λ_=> ?_;refine pB P (λ_=>pB P (λ_=>p1) λ_=>pt _ _ _) λ_=> ?_;refine pB P (λ_=>o _ _) λ_=> ?_;refine pB P (λ_=>pt _ _ _) λ_=> ?_;exact pB P (λ_=>n _) λ_=>p0
def xC{i:fk}(b:i.D0)(m:dU)(g k l n:Int):(eG m i g k l n).1.D0:=by
 have j:∀(d:Int) (c:dV->dV),(∀a,(c a).eg=a.eg\/(c a).eg=lH a.eg g\/(c a).eg=a.eg.filter λh=> !decide (h=g))->(i.pO d c).D0:=λd c f=>Q8 b λa hl=>by
  rcases f a with e|e|e<;>rw[e]
  ·exact b a hl
  ·exact BW (b a hl) g
  ·exact(b a hl).filter _
 exact uw (P:=λh=>h.1.D0) b b (λ_ _ _=>b) (λd c f=>⟨j d c f,λ_ _=>j d c f⟩) (λ_=>b) (λ_ _=>b) (λ_=>b)
def xz(f:dU)(a:fk)(e b c g:Int):(eG f a e b c g).1.dY.length=a.dY.length/\(eG f a e b c g).1.done.length=a.done.length/\(eG f a e b c g).1.dE.length=a.dE.length:=
 uw (P:=λd=>d.1.dY.length=a.dY.length/\d.1.done.length=a.done.length/\d.1.dE.length=a.dE.length) ⟨rfl,rfl,rfl⟩ ⟨rfl,rfl,rfl⟩ (λ_ _ _=>by simp[fk.oE]) (λ_ _ _=>by simp[fk.oE,fk.pO]) (λ_=>⟨rfl,rfl,rfl⟩) (λ_ _=>by simp) (λ_=>by simp)
def LI{a:List Int}{b:Int}(d:∀c∈a,c<b):lH a b=a++[b]:=by
 induction a with
 |nil=>rfl
 |cons g a f=>unfold lH;rw[aq (d g dt),f λc e=>d c (by simp[e])];rfl
def LJ:∀(b a:List Int),HO (a++b)->b.foldl lH a=a++b:=by
 intro b;induction b with
 |nil=>intro a _;simp
 |cons c b h=>
  intro a e;have f:∀d∈a,d<c:=λd g=>(List.pairwise_append.1 e).2.2 d g c dt;rw[List.foldl_cons,LI f,h (a++[c]) (by simpa using e)];simp
def KQ{a:List Int}(c:HO a)(b:Int): [b].foldl lH (a.foldl lH [])=lH a b:=by
 rw[LJ a [] (by simpa using c)];rfl
def mV(b:dU)(a:d8):Bool:=mr b a.fF&&decide (a.cells.length=b.cells.length)&&decide (a.dX.length=b.dX.length)&&decide (a.count.length=b.dE.length)
def xg(b:Int):aa Int->List Int->Bool
 |_,[]=>true
 |p,a::c=> !(decide (a<1))&& !(decide (b<=a))&&(match p with|some d=> !(decide (a<=d))|none=>true)&&xg b (some a) c
def ny(b:d8)(a:ed):Bool:=
 if a.kind=3 then(match wO b.cells a.obj with|some c=>decide (a.value=c)|none=>false)
 else if a.kind=23 then(match wO b.dX a.obj with|some c=>decide (a.value=c)|none=>false)
 else if a.kind=5 then decide (a.value=0)||decide (a.value=1)
 else if a.kind=4\/a.kind=22 then true
 else if a.kind=18 then(if hU a.obj b.fF.dE 0=[]then decide (a.value=-1)else decide (0<=a.value)&&decide (a.value<b.fF.dE.length)&&decide (a.value∈hU a.obj b.fF.dE 0))
 else if a.kind=19 then decide (a.value=(hU a.obj b.fF.dE 0).length)
 else decide (a.value=0)
def zW(d c:Int):List ed->Nat->Bool->Bool
 | [],_,a=>a
 |e::f,b,a=>if e.dQ=d then zW d c f (b+1) (a||(decide ((b:Int)=c)&&(decide (e.kind=3)||decide (e.kind=23))))else zW d c f b a
def uS(a:List ed)(d:Int)(c:List Int):Bool:=c.all λb=>zW d b a 0 false
def KO(c:Int):∀(a:List dG) (b:Nat),(hU c a b).length<=a.length:=by
 intro a;induction a with
 |nil=>intro b;simp[hU]
 |cons e a d=>intro b;rw[hU];have:=d (b+1);split<;>simp<;>omega
def vx(a:ed):Bool:=decide (a.kind=3)||decide (a.kind=4)
def kj(a b:ed):Bool:=vx a&&vx b&&decide (a.obj=b.obj)&&(decide (a.kind=4)||decide (b.kind=4))
def pL(a:Int):Bool:=decide (a=6)||decide (a=8)||decide (a=10)||decide (a=17)||decide (a=21)
def qn(b:List ed)(a:Int):ed:=(wO b a).getD default
structure GX where
 w:dU
 ev:List ed
 st:List fk
def GX.e(b:GX)(a:Int):ed:=qn b.ev a
def GX.s(b:GX)(a:Int):fk:=(wO b.st a).getD default
def GX.TA(d:GX)(a b:Int)(c:ed->Bool):Bool:=((d.ev.drop a.toNat).take (b-a).toNat).all c
def GX.rH(a:GX)(c b:Int):Bool:=
 if(a.e b).dQ=(a.e c).dQ then false
 else if(a.e b).kind=6\/(a.e b).kind=10 then decide ((ml (a.s c) (a.e b).obj).iK=(a.e c).dQ)||decide ((a.e c).dQ∈(ml (a.s c) (a.e b).obj).eg)
 else if(a.e b).kind=8 then decide ((ml (a.s c) (a.e b).obj).iK=(a.e c).dQ)
 else if(a.e b).kind=17 then decide ((rh a.w (a.s c) (a.e b).obj).iK=(a.e c).dQ)
 else if(a.e b).kind=21 then decide ((a.e b).obj=(a.e c).dQ)
 else false
def GX.vn(b:GX)(a c:Int):Bool:=pL (b.e a).kind&&b.rH a c
def GX.L6{b:GX}{j a:Int}(c:b.rH j a=true):pL (b.e a).kind=true:=by
 unfold GX.rH at c;unfold pL;by_cases h:(b.e a).kind=6
 ·simp[h]
 by_cases d:(b.e a).kind=10
 ·simp[d]
 by_cases i:(b.e a).kind=8
 ·simp[i]
 by_cases f:(b.e a).kind=17
 ·simp[f]
 by_cases g:(b.e a).kind=21
 ·simp[g]
 simp[h,d,i,f,g]at c
def GX.Mq(c:GX)(d:Int->Int->Bool)(a:List Int):Bool:=
 decide (2<=a.length)&&decide (a.length<=4)&&(a.all λb=>iT b c.ev.length)&&(List.range a.length).all λb=>
  !decide (a.getD b 0<a.getD 0 0)&&d (a.getD ((b+1)% a.length) 0) (a.getD b 0)&&(List.range b).all λf=> !decide ((c.e (a.getD b 0)).dQ=(c.e (a.getD f 0)).dQ)
def GX.Vd(e:GX)(d:List Int):e.Mq e.vn d=e.Mq e.rH d:=by
 unfold GX.Mq;by_cases hl:2<=d.length;rotate_left
 ·simp[hl]
 congr 1;rw[bD,cF,cF];constructor
 ·intro a c f;have:=a c f;simp only[aB,GX.vn]at this|-;exact⟨⟨this.1.1,this.1.2.2⟩,this.2⟩
 ·intro a c f;have b:=a c f;have g:=a ((c+1)% d.length) (by rw[List.mem_range];exact Nat.mod_lt _ dq);simp only[aB,GX.vn]at b g|-;exact⟨⟨b.1.1,GX.L6 g.1.2,b.1.2⟩,b.2⟩
def GX.dead(g:GX)(f:Int->Int->Bool)(e:jy):Bool:=decide (e.a=0)&&decide (e.b=0)&&decide (e.c=0)&&decide (e.d=0)&&g.Mq f e.kG
def GX.QB(a:GX)(b c:Int):Bool:=decide (b<c)&& !decide ((a.e b).dQ=(a.e c).dQ)&&kj (a.e b) (a.e c)&& !((wO a.w.cells (a.e b).obj).getD default).sK
def GX.Qf(a:GX)(b c:Int):Bool:=
 decide (c<b)&&(decide ((a.e b).kind=18)||decide ((a.e b).kind=19))&&decide ((a.e c).kind=16)&&decide ((a.e b).obj=(a.e c).obj)&& !decide ((a.e b).dQ=(a.e c).dQ)&&
  a.TA (c+1) b (λd=> !decide (d.dQ=(a.e c).dQ))&&decide ((pf (a.s b) (a.e c).dQ).iA=3)&&(decide ((a.e b).kind=19)||decide ((a.e b).value=(a.e c).dQ))
def GX.ym(b:Int)(a:ed):Bool:= !(decide (a.dQ=b)&&decide (a.kind=15))
def GX.VJ(b:GX)(a c:Int):Bool:=
 decide (a<c)&&decide ((b.e c).dQ=(b.e a).dQ)&&(pf (b.s a) (b.e a).dQ).atomic&&b.TA (a+1) c (GX.ym (b.e a).dQ)
def GX.VD(a:GX)(d f b c:Int):Bool:=
 decide (b<=c)&&decide ((a.e b).dQ=(a.e c).dQ)&& !decide ((a.e b).dQ=(a.e d).dQ)&&kj (a.e d) (a.e b)&&kj (a.e c) (a.e f)
def GX.Jj(a:GX)(b c d f:Int):Bool:=
 decide (b<c)&&decide (d<=f)&&decide ((a.e b).dQ=(a.e c).dQ)&&decide ((a.e d).dQ=(a.e f).dQ)&& !decide ((a.e b).dQ=(a.e d).dQ)&&kj (a.e b) (a.e d)&&kj (a.e f) (a.e c)&&
  a.TA b c (GX.ym (a.e b).dQ)&&(pf (a.s b) (a.e b).dQ).atomic
def GX.Al(b:GX)(a:Int):Bool:=iT a b.ev.length
def GX.vR(f:GX)(e:jy):Bool:=
 if e.kind=2 then f.dead f.rH e
 else if(f.Al e.a&&f.Al e.b&&f.Al e.c&&f.Al e.d)=true then
  (
   if e.kind=1 then decide (e.c=0)&&decide (e.d=0)&&decide (e.kG=[])&&f.QB e.a e.b
   else if e.kind=3 then decide (e.c=0)&&decide (e.d=0)&&decide (e.kG=[])&&f.Qf e.a e.b
   else if e.kind=4 then decide (e.kG=[])&&f.Jj e.a e.b e.c e.d
   else false)
 else false
def GX.vG(f:GX)(e:jy):Bool:=
 if e.kind=1 then decide (e.c=0)&&decide (e.d=0)&&decide (e.kG=[])&&(f.Al e.a&&f.Al e.b)&&f.QB e.a e.b
 else if e.kind=2 then f.dead f.vn e
 else if e.kind=3 then decide (e.c=0)&&decide (e.d=0)&&decide (e.kG=[])&&(f.Al e.a&&f.Al e.b)&&f.Qf e.a e.b
 else if e.kind=4 then decide (e.kG=[])&&(f.Al e.a&&f.Al e.b&&f.Al e.c&&f.Al e.d)&&f.VJ e.a e.b&&f.VD e.a e.b e.c e.d
 else false
def GX.in0{a:GX}{b:Int}(c:a.Al b=true):a.Al 0=true:=by
 unfold GX.Al at*
 rw[fj]at*
 omega
def GX.VC{b:GX}{a c g r:Int}(u:b.Al a=true):(b.VJ a c&&b.VD a c g r)=b.Jj a c g r:=by
 have w:kj (b.e a) (b.e g)=true->a<c->b.TA a c (GX.ym (b.e a).dQ)=b.TA (a+1) c (GX.ym (b.e a).dQ):=by
  intro d q;obtain⟨t,f⟩:=fj.1 u;unfold GX.TA;have s:b.ev.drop a.toNat=b.e a::b.ev.drop (a+1).toNat:=by
   rw[show(a+1).toNat=a.toNat+1 by omega,aI f];congr 1;unfold GX.e qn wO;rw[aq t];simp[f]
  rw[s,show(c-a).toNat=(c-(a+1)).toNat+1 by omega,List.take_succ_cons,cA];have v:GX.ym (b.e a).dQ (b.e a)=true:=by
   unfold GX.ym;unfold kj vx at d;simp only[aB,bP,aO]at d;rcases d.1.1.1 with h|h<;>simp[h]
  rw[v,bK]
 unfold GX.VJ GX.VD GX.Jj;by_cases d:kj (b.e a) (b.e g)=true
 ·by_cases q:a<c
  ·rw[w d q];rw[bD];simp only[aB,aO,bL,bj];constructor
   ·rintro⟨⟨⟨⟨f,i⟩,j⟩,k⟩,⟨⟨⟨l,m⟩,n⟩,o⟩,p⟩;exact⟨⟨⟨⟨⟨⟨⟨⟨f,l⟩,i.symm⟩,m⟩,λh=>n h.symm⟩,o⟩,p⟩,k⟩,j⟩
   ·rintro⟨⟨⟨⟨⟨⟨⟨⟨f,l⟩,i⟩,m⟩,n⟩,o⟩,p⟩,k⟩,j⟩;exact⟨⟨⟨⟨f,i.symm⟩,j⟩,k⟩,⟨⟨⟨l,m⟩,λh=>n h.symm⟩,o⟩,p⟩
  ·simp[q]
 ·rw[Bool.not_eq_true]at d;simp[d]
def GX.abQ(f:GX)(e:jy):f.vG e=f.vR e:=by
 unfold GX.vG GX.vR;by_cases g:e.kind=1
 ·rw[aq g,ao dq,aq g];by_cases j:e.c=0;rotate_left
  ·simp[j]
  by_cases k:e.d=0;rotate_left
  ·simp[k]
  rw[j,k];cases i:f.Al e.a with
  |false=>simp
  |true=>rw[GX.in0 i];cases f.Al e.b<;>simp
 rw[ao g];by_cases l:e.kind=2
 ·rw[aq l,aq l];unfold GX.dead;rw[GX.Vd]
 rw[ao l,ao l];by_cases h:e.kind=3
 ·rw[aq h,ao g,aq h];by_cases j:e.c=0;rotate_left
  ·simp[j]
  by_cases k:e.d=0;rotate_left
  ·simp[k]
  rw[j,k];cases i:f.Al e.a with
  |false=>simp
  |true=>rw[GX.in0 i];cases f.Al e.b<;>simp
 rw[ao h];by_cases m:e.kind=4
 ·rw[aq m,ao g,ao h,aq m];cases i:f.Al e.a with
  |false=>simp
  |true=>
   rw[<-GX.VC i];cases (f.Al e.b)<;>cases f.Al e.c<;>cases f.Al e.d<;>simp[Bool.and_assoc]
 rw[ao m,ao g,ao h,ao m];simp
def kT(a:ed):Int:=if a.kind=18 then a.value else-1
def rL(b:dU)(a:ed):Bool:=if a.kind=1\/a.kind=2 then decide (a.iS=-1)else(match wO b.iq a.iS with|some c=>decide (c.dQ=a.dQ)|none=>false)
def sizeOf(b:dU)(a:Int):Int:=((wO b.cells a).getD default).size
def Ki(b:dU)(a:ed):Bool:=decide (a.mn=[])||decide (a.kind=5)||(vx a&& !decide (sizeOf b a.obj=0))
def Kd(a:ed):Bool:=decide (a.uF=[])||decide (a.kind=4)||decide (a.kind=22)
def pw(c:dU)(b:d8)(a:ed):Bool:=
 mV c b&&iT a.dQ c.dE.length&&(decide (1<=a.kind)&&decide (a.kind<=23))&&jM c b.fF a.dQ a.kind a.obj&&rL c a&&Ki c a&&Kd a&&
  xg (b.count.getD a.dQ.toNat 0) none a.mn&&xg (b.count.getD a.dQ.toNat 0) none a.uF&&ny b a
def jS(c:dU)(b:d8)(a:ed):d8:=
 ⟨(eG c b.fF a.dQ a.kind a.obj (kT a)).1,if a.kind=4 then b.cells.set a.obj.toNat a.value else b.cells,if a.kind=22 then b.dX.set a.obj.toNat a.value else b.dX,b.count.modify a.dQ.toNat (· +1)⟩
def sg:d8:=⟨⟨[],0,[],[]⟩,[],[],[]⟩
def jA(c:dU)(b:d8)(a:ed):d8×Bool:=if pw c b a=true then(jS c b a,true)else(sg,false)
section
variable {S E:Type}
def rM(ok:S->E->Bool)(nx:S->E->S):S->List E->Bool
 |_,[]=>true
 |s,a::b=>ok s a&&rM ok nx (nx s a) b
def wW(nx:S->E->S):S->List E->List S
 |_,[]=>[]
 |s,a::b=>s::wW nx (nx s a) b
def vw(go:S->E->S):S->List E->S
 |s,[]=>s
 |s,a::b=>vw go (go s a) b
variable {ok:S->E->Bool}{nx go:S->E->S}
def H6:∀(a:List E) (b:S),(wW nx b a).length=a.length:=by
 intro a;induction a with
 |nil=>intro b;rfl
 |cons d a c=>intro b;simp[wW,c]
def K0(f:∀a b,ok a b=true->go a b=nx a b):∀(c d:List E) (a:S),rM ok nx a (c++d)=(rM ok nx a c&&rM ok nx (vw go a c) d):=by
 intro c;induction c with
 |nil=>intro d a;simp[rM,vw]
 |cons b c g=>
  intro d a;simp only[cG,rM,vw];cases e:ok a b with
  |true=>rw[g,f a b e,bK,bK]
  |false=>simp
def HH:∀(a b:List E) (c:S),vw go c (a++b)=vw go (vw go c a) b:=by
 intro a;induction a with
 |nil=>intro b c;rfl
 |cons e a d=>intro b c;simp only[cG,vw,d]
def H7(g:∀a d,ok a d=true->go a d=nx a d):∀(c:List E) (a:S) (b:Nat),rM ok nx a c=true->b<c.length->(wW nx a c)[b]? =some (vw go a (c.take b)):=by
 intro c;induction c with
 |nil=>intro a b _ f;simp at f
 |cons d c h=>
  intro a b e f;simp only[rM,aB]at e;cases b with
  |zero=>simp[wW,vw]
  |succ b=>
   simp only[wW,dc,List.take_succ_cons,vw];rw[g a d e.1];exact h _ b e.2 (by simpa using f)
def MP(g:∀b a,ok b a=true->go b a=nx b a):∀(d:List E) (b:S) (c:Nat) (a:E),rM ok nx b d=true->d[c]? =some a->ok (vw go b (d.take c)) a=true:=by
 intro d;induction d with
 |nil=>intro b c a _ e;simp at e
 |cons i d h=>
  intro b c a f e;simp only[rM,aB]at f;cases c with
  |zero=>simp at e;subst e;simpa[vw]using f.1
  |succ c=>
   simp only[List.take_succ_cons,vw];rw[g b i f.1];exact h _ c a f.2 (by simpa using e)
def PK{I:S->Prop}(e:∀a c,I a->I (go a c)):∀(b:List E) (a:S),I a->I (vw go a b):=by
 intro b;induction b with
 |nil=>intro a d;exact d
 |cons c b f=>intro a d;exact f _ (e a c d)
end
def runs(a:dU):d8->List ed->Bool:=rM (pw a) (jS a)
def MI(a:dU):d8->List ed->List d8:=wW (jS a)
def ow(w:dU):d8->List ed->d8:=vw λb a=>(jA w b a).1
def sM{c:dU}(b:d8)(a:ed)(d:pw c b a=true):(jA c b a).1=jS c b a:=by unfold jA;rw[aq d]
def KX(c:dU)(a:List ed)(b:d8):(MI c b a).length=a.length:=H6 a b
def Bk(b:dU)(c d:List ed)(a:d8):runs b a (c++d)=(runs b a c&&runs b (ow b a c) d):=K0 (go:=λa e=>(jA b a e).1) sM c d a
def yP{e:dU}{a:List ed}{d:d8}(b:runs e d a=true)(c:Nat):runs e d (a.take c)=true:=by
 rw[<-cN c a,Bk,aB]at b;exact b.1
def MO{c:dU}{a:List ed}{f:d8}(d:runs c f a=true)(b e:Nat):runs c (ow c f (a.take b)) ((a.drop b).take e)=true:=by
 rw[<-cN b a,Bk,aB]at d;exact yP d.2 e
def KY{d:dU}(b:List ed)(a:d8)(c:Nat)(f:runs d a b=true)(g:c<b.length):(MI d a b)[c]? =some (ow d a (b.take c)):=H7 (go:=λa e=>(jA d a e).1) sM b a c f g
def Qx{d:dU}(c:List ed)(b:d8)(e:Nat)(a:ed)(f:runs d b c=true)(g:c[e]? =some a):pw d (ow d b (c.take e)) a=true:=MP (go:=λb a=>(jA d b a).1) sM c b e a f g
def tu{c:dU}{d:d8}{a:ed}(b:pw c d a=true):mV c d=true/\iT a.dQ c.dE.length=true/\jM c d.fF a.dQ a.kind a.obj=true:=by
 unfold pw at b;simp only[aB]at b;exact⟨b.1.1.1.1.1.1.1.1.1,b.1.1.1.1.1.1.1.1.2,b.1.1.1.1.1.1.2⟩
structure wQ(w:eZ):Prop where
 len:w.dK.length<=16
 oE:w.eK.dE.length<=4
 run:runs w.eK w.jK w.dK=true
 D0:w.jK.fF.D0
def eZ.gx(c:eZ):GX:=⟨c.eK,c.dK,(MI c.eK c.jK c.dK).map d8.fF⟩
def wQ.ok{a:eZ}(b:wQ a){i:Nat}{e:ed}(c:a.dK[i]? =some e):pw a.eK (ow a.eK a.jK (a.dK.take i)) e=true:=Qx _ _ _ _ b.run c
def wQ.st{a:eZ}(c:wQ a){b:Nat}(d:b<a.dK.length):a.gx.st[b]? =some (ow a.eK a.jK (a.dK.take b)).fF:=by
 unfold eZ.gx;rw[aQ,KY _ _ _ c.run d];rfl
def wQ.e{a:eZ}(d:wQ a){i:Int}(g:iT i a.dK.length=true):∃e,a.dK[i.toNat]? =some e/\a.gx.e i=e/\iT e.dQ a.eK.dE.length=true/\jD a.eK e.kind e.obj=true:=by
 obtain⟨f,b⟩:=fj.1 g;refine⟨a.dK[i.toNat],by simp[b],?_,?_⟩
 ·unfold GX.e qn wO eZ.gx;rw[aq f];simp[b]
 ·have:=d.ok (i:=i.toNat) (e:=a.dK[i.toNat]) (by simp[b]);obtain⟨_,h,c⟩:=tu this;refine⟨h,?_⟩;unfold jM at c;simp only[aB]at c;exact c.1.2
def wQ.s{a:eZ}(c:wQ a){i:Int}(g:iT i a.dK.length=true):a.gx.s i=(ow a.eK a.jK (a.dK.take i.toNat)).fF/\mr a.eK (a.gx.s i)=true:=by
 obtain⟨f,d⟩:=fj.1 g;have h:=c.st d;have b:a.gx.s i=(ow a.eK a.jK (a.dK.take i.toNat)).fF:=by
  unfold GX.s wO;rw[aq f,h];rfl
 refine⟨b,?_⟩;rw[b];have:=(tu (c.ok (i:=i.toNat) (e:=a.dK[i.toNat]) (by simp[d]))).1;unfold mV at this;simp only[aB]at this;exact this.1.1.1
def H5{b:dU}{a:d8}{c:ed}(d:a.fF.D0):(jA b a c).1.fF.D0:=by
 unfold jA;split
 ·exact xC d b _ _ _ _
 ·intro e hl;simp[sg]at hl
def RV{d:dU}(c:List ed)(a:d8)(b:a.fF.D0):(ow d a c).fF.D0:=PK (I:=λa=>a.fF.D0) (λ_ _ b=>H5 b) c a b
def kQ(a:dU):fk:=⟨a.dY.map λ_=>⟨-1,[]⟩,-1,a.dX.map λ_=>false,(List.range a.dE.length).map λb=>⟨if b=0 then 1 else 0,0,false⟩⟩
def jF(a:dU):d8:=⟨kQ a,a.cells.map ge.jK,a.dX.map λ_=>0,a.dE.map λ_=>0⟩
def rJ(a:dU):(jF a).fF.D0:=by
 intro b hl;unfold jF kQ at hl;simp only[List.mem_map]at hl;obtain⟨_,_,rfl⟩:=hl;exact List.Pairwise.nil
def wv(b:dU)(c:List ed)(d a:Nat):eZ:=⟨b,a,ow b (jF b) (c.take a),(c.drop a).take d⟩
def Ms{a:dU}{d:List ed}(e:runs a (jF a) d=true)(ht:a.dE.length<=4){b:Nat}(f:b<=16)(c:Nat):wQ (wv a d b c):=
 ⟨by simp[wv];omega,ht,MO e c b,RV _ _ (rJ a)⟩
end
end Go.Proofs.YtmaeadedikngoaaGreatDoor
namespace Go.TI
noncomputable section
def hr(a:H):H:=⟨a.size,a.size,a.fc⟩
@[simp] theorem nq (a:H):(hr a).size=a.size:=id rfl
@[simp] theorem f9 (a:H) (b:Nat):(hr a).get b=a.get b:=H.qB a a.size b
@[simp] theorem ZD (a:H):Hp (hr a)=Hp a:=id rfl
def KI(f:Bool)(c:H)(g:List T)(e:H)(d:T->H->Prop):Prop:=∃b a,BR f c.size c.low (jv g) e=some (b,a)/\(d b a\/d (cn b) a)
section
variable {P:ai}{cx:Ctx}{cf:iL}{mask:Nat}
def Xd(J:P.follows .mixedOrders=true)(iG:iP P cx){m:aj}{a:Func}{r:DL}(h:FC P cx m a mask r)(C:mX P cx cf)(i:Bool){c:List T}{d:H}{w:T->H->Prop}(K:c.length<=a.ntmps)(j:Nat)
 (Q:∀z,mY z 0 c->W (jm cx cf j mask r (a.body.getD .skip) ⟨z,.nil⟩ (hr d)) (BU cx mask a.results.toList λu g=>KI i d u g w)):∃b g,w b g/\pT P cx ⟨m,c,d,b,g⟩:=by
 obtain⟨y,O,_,G⟩:=md mask a.ntmps 0 c K;obtain⟨Z,D,E,e,R,u,M,b,f,hl,hp⟩:=CE (Q y G);have e:=pH _ h.dr _ _ _ e;obtain⟨B,s⟩:=yz h.ok;rw[s]at e;have I:rZ cx cf j a mask i c d=some (b,f):=by
  unfold rZ;rw[s];obtain⟨x,al,A⟩:=d;simp only;rw[O,dR];have e:jP cx cf j mask B ⟨y,.nil⟩ ⟨x,x,A⟩=some (Z,D,E):=e;rw[e,dR,kw];have N:=nU M;rcases R with rfl|rfl<;>(simp only;rw[N,dR];exact hl)
 have L:wE ⟨a,mask,i,none⟩=true:=h.ok;have t:pT P cx ⟨m,c,d,b,f⟩:=λk p q l o n=>oL (F:=⟨a,mask,i,none⟩) J iG h.at_ L cf C j c d b f I k p q l o n;rcases hp with hp|hp
 ·exact⟨b,f,hp,t⟩
 ·exact⟨cn b,f,hp,λk p q l o n=>(t k p q l o n).mono λv an ⟨⟨ae,S,U,V,X⟩,Y⟩=>⟨⟨ae,S.cn,U,V,X⟩,Y⟩⟩
def HT{tb:fy}{c:kH}(n:P.follows .mixedOrders=true)(iG:iP P cx){g:aj}{d:Func}{f:DL}(q:FC P cx g d mask f)(i:Bool)(j:List T->H->Nat)(o:∀a b,c.pre a b->a.length<=d.ntmps)
 (p:∀a b,c.pre a b->∀k,mY k 0 a->W (jm cx (qp P cx tb) (j a b) mask f (d.body.getD .skip) ⟨k,.nil⟩ (hr b)) (BU cx mask d.results.toList λr e=>KI i b r e (c.post a b))):c.Ok P cx g:=
 λa b h=>by
  obtain⟨s,e,l,m⟩:=Xd n iG q (Cr P cx tb) i (o a b h) (j a b) (p a b h);exact⟨s,e,l,m⟩
end
def TT{P:ai}{cx:Ctx}{cf:iL}{mask:Nat}(H:P.follows .mixedOrders=true)(iG:iP P cx){p:aj}{c:Func}{w:DL}(j:FC P cx p c mask w)(C:mX P cx cf){b:List T}{m:T->Prop}(hl:mp b=true)(y:b.length<=c.ntmps)(k:Nat)
 (K:∀f,mY f 0 b->W (jm cx cf k mask w (c.body.getD .skip) ⟨f,.nil⟩ hE) (BU cx mask c.results.toList λA g=>∃a,m a/\PY g A a)):∃a,m a/\kM P cx p b a:=by
 have S:∃a,m a/\∀f,mY f 0 b->TI.dH f 0=TI.dH f 0->∃d,cn d=a/\rZ cx cf k c mask false b hE=some (d,hE):=by
  obtain⟨l,z,_,s⟩:=md mask c.ntmps 0 b y;obtain⟨U,D,g,e,L,A,hr,a,r,I,i⟩:=CE (K l s);have e:=pH _ j.dr _ _ _ e;obtain⟨B,h⟩:=yz j.ok;rw[h]at e;unfold LT at i;obtain⟨d,i,x⟩:=dD.1 i;simp only[ar]at x;refine⟨a,r,λ_ _ _=>⟨d,x,?_⟩⟩;unfold rZ;rw[h];simp only;rw[z,dR];have e:jP cx cf k mask B ⟨l,.nil⟩ ⟨0,0,[]⟩=some (U,D,g):=e;rw[e,dR,kw];have J:=nU hr;rcases L with rfl|rfl<;>(simp only;rw[J,dR];exact GD I i)
 obtain⟨a,r,G⟩:=S;obtain⟨l,z,_,s⟩:=md mask c.ntmps 0 b y;obtain⟨d,rfl,h⟩:=G l s rfl;refine⟨cn d,r,?_⟩;have E:kM P cx p b d:=xR (lx _ hl) λn u v o t q=>
  oL (F:=⟨c,mask,false,none⟩) H iG j.at_ j.ok cf C k b hE d hE h n u v o t q
 intro n u v o g t q;refine(E n u v o g t q).mono λX Y ⟨⟨V,M,N,O,Q⟩,R⟩=> ?_;exact⟨⟨V,M.cn,N,O,Q⟩,R⟩
def DM(b:T):Prop:=∃a,b= .bool a
def u4(a:Nat)(d:T)(b:H):mO a d b=some (d,⟨b.size,if b.low<a then b.low else a,b.fc⟩):=by
 obtain⟨g,c,e⟩:=b;show @Bool.rec (λ_=>aa (T×H)) (some (d,⟨g,a,e⟩)) (some (d,⟨g,c,e⟩)) (Nat.blt c a)=_;by_cases hl:c<a
 ·rw[show Nat.blt c a=true by rw[aG];exact hl,aq hl]
 ·rw[show Nat.blt c a=false by rw[cj];intro f;rw[aG]at f;exact hl f,ao hl]
def He{h:H}(f:Hp h){a d:Nat}(e:a<=h.size){b:Nat}(c:b<a):(⟨a,d,h.fc.drop (h.size-a)⟩:H).get b=h.get b:=by
 rw[H.get_eq,H.get_eq];simp only;rw[aq c,aq dq,bG];congr 1;omega
def pA(a b:H)(m:List T){r:T}{n:T->H->Prop}(l:Hp a)(c:Fr a.size (hr a) b)(g:(dM (iX b a.size (jv m)) λt=>some (cn t))=some r)(p:n r a):KI false a m b n:=by
 obtain⟨s,g,k⟩:=dD.1 g;simp only[ar]at k;unfold KI BR;simp only[g];have h:Hp b:=c.hp (by simpa using l);have o:a.size<=b.low:=c.low (au _);have u:a.size<=b.size:=c.size;have f:b.fc.drop (b.size-a.size)=a.fc:=by
  apply cU;intro d;rw[bG];rcases aD d a.size with hi|hi
  ·have j:=c.get (a.size-1-d) dq;rw[f9,H.get_eq,H.get_eq,aq dq,aq dq]at j;rw[show b.size-a.size+d=b.size-1-(a.size-1-d)by omega,j];congr 1;omega
  ·rw[aK (by unfold Hp at h;omega),aK (by unfold Hp at l;omega)]
 obtain⟨i,q,e⟩:=b;unfold tI;simp only;rw[lF,aq (by show i-a.size<=e.length;unfold Hp at h;simp only at h;omega),dR,show Nat.ble a.size q=true from bW o];refine⟨s,_,rfl,.inr ?_⟩;rw[k];have:(⟨a.size,a.low,List.drop (Nat.sub i a.size) e⟩:H)=a:=by
  have f:List.drop (Nat.sub i a.size) e=a.fc:=f;rw[f]
 rw[this];exact p
end
noncomputable section
noncomputable section
variable {cx:Ctx}{mask:Nat}{e:Env}{h:H}
end
end
noncomputable section
structure gF(n:Nat)(h:H):Prop where
 hp:Hp h
 low:h.low<=h.size
 sz:n<=h.size
def gF.cons{c:Nat}{b:H}(a:gF c b)(d:iN):gF c (b.cons d):=⟨by simpa using a.hp,by simp only[Ow];have:=a.low;simp[H.cons];omega,by have:=a.sz;simp[H.cons];omega⟩
def gF.ne{c:Nat}{a:H}(d:gF c a){b:Nat}(e:b<c):(b=a.size)=False:=by have:=d.sz;simp;omega
def F3(c:H)(b:Nat)(h:iN):(dT c b h).low<=c.low:=by
 unfold dT;cases a:c.put b h with
 |none=>exact au _
 |some i=>
  obtain⟨e,d,j⟩:=c;have a:(fT (Nat.blt b e) (dM (kr j (Nat.sub (Nat.sub e 1) b) h) λf=> @Bool.rec (λ_=>aa H) (some ⟨e,d,f⟩) (some ⟨e,b,f⟩) (Nat.blt b d)))=some i:=a;obtain⟨_,a⟩:=dL.1 a;obtain⟨f,_,a⟩:=dD.1 a;show i.low<=d;cases g:Nat.blt b d<;>rw[g]at a<;>simp only[ar]at a<;>subst a
  ·exact au _
  ·rw[aG]at g;exact bp g
def gF.put{n:Nat}{a:H}(b:gF n a)(d:Nat)(e:iN):gF n (dT a d e):=⟨by simpa using b.hp,by rw[fJ];exact aS (F3 a d e) b.low,by rw[fJ];exact b.sz⟩
structure pK(sz:Nat)(h h':H):Prop where
 get:∀c x,h.get c=some x->x.sz≠sz->h'.get c=some x
 ok:∀n,gF n h->gF n h'
 size:h.size<=h'.size
def pK.refl(d:Nat)(a:H):pK d a a:=⟨λ_ _ b _=>b,λ_ c=>c,au _⟩
def pK.trans{c:Nat}{e f g:H}(a:pK c e f)(b:pK c f g):pK c e g:=⟨λd j k h=>b.get d j (a.get d j k h) h,λi l=>b.ok i (a.ok i l),aS a.size b.size⟩
def pK.cons(e:Nat)(a:H)(c:iN):pK e a (a.cons c):=⟨λf h b _=>by have:=H.ez b;rw[dP,ao dq];exact b,λg d=>d.cons c,by simp[H.cons]⟩
def pK.put{g:Nat}{d:H}{a:Nat}{x:iN}(f:d.get a=some x)(i:x.sz=g)(h:iN):pK g d (dT d a h):=⟨λc l b j=>by
 rw[dI f];by_cases e:c=a
 ·subst e;rw[f]at b;simp only[ar]at b;subst b;exact absurd i j
 ·rw[ao e];exact b,λn k=>k.put a h,dt⟩
def rC.aae{cx:Ctx}{a:H}{d:T}{b:Nat}{e:List T}(l:rC a 0 d b e){o p j:ab}{v w c:Ty}(B:cx.ty o=some v)(C:v.u= .slice j)(D:cx.ty j=some c)(E:cx.ty p=some w)(F:w.u= .slice j)(t:c.size=b)(r:1<=c.bytes)
 {x:T} {xs:List T} (I:a.jg x=some xs) (m:∀z∈xs,z.cells.length=b) (s:(e.length+xs.length)*c.bytes<=70368744177664):
 ∃y k,iO cx a o p d x=some (.val y k)/\rC k 0 y b (e++xs)/\pK b a k:=by
 have G:iO cx a o p d x=jp (a.append c.size c.bytes d xs):=by
  unfold iO pR nc;rw[B,dR,E,dR];simp only[C,D,F,I,dR];rw[t,ni m,ij]
 rw[G,t];cases xs with
 |nil=>
  refine⟨d,a,?_,by simpa using l,pK.refl _ _⟩;show jp (fT (og d) (some (d,a)))=_;rcases l with⟨rfl,_⟩|⟨h,i,q,A,_,rfl,_⟩<;>rfl
 |cons f g=>
  rcases l with⟨rfl,rfl⟩|⟨h,i,q,A,J,rfl,n⟩
  ·refine⟨.arr a.size 0 0 (f::g).length false,a.cons ⟨b,0,0,false,false,f::g⟩,?_,.inr ⟨a.size,0,0,false,aw _,rfl,dt⟩,pK.cons _ _ _⟩;show jp (a.iY b c.bytes [] (f::g))=_;rw[ou m r (by simpa using s)];rfl
  ·refine⟨.arr h (i+1) 0 (e++f::g).length false,dT a h ⟨b,i+1,q+1,false,false,e++f::g⟩,?_,.inr ⟨h,i+1,q+1,false,J,rfl,by rw[dI n,aq rfl]⟩,pK.put n rfl _⟩;show jp (a.ma b c.bytes h i e.length (f::g))=_;rw[vq n m r s];rfl
def rC.TD{cx:Ctx}{g:H}{o:T}{b:Nat}{i:Type}{a:i->T}{f:List i}(t:rC g 0 o b (f.map a)){h k:ab}{n d:Ty}(l:cx.ty h=some n)(m:n.u= .slice k)(p:cx.ty k=some d)(v:d.size=b)(q:1<=d.bytes)
 (r:∀x,Km (a x)=b) (xs:List i) (s:(f.length+xs.length)*d.bytes<=70368744177664):
 ∃e c,iO cx g h h o (sl (xs.map a))=some (.val e c)/\rC c 0 e b ((f++xs).map a)/\pK b g c:=by
 obtain⟨e,c,w,y,z⟩:=t.aae (x:=sl (xs.map a)) (xs:=xs.map a) l m p l m v q dt (by simpa using λj _=>show(a j).cells.length=b from r j) (by simpa using s);exact⟨e,c,w,by rw[List.map_append];exact y,z⟩
def rC.Jp{cx:Ctx}{c:H}{n:T}{a:Nat}{i:Type}{b:i->T}{g:List i}(s:rC c 0 n a (g.map b)){h j:ab}{m e:Ty}(k:cx.ty h=some m)(l:m.u= .slice j)(o:cx.ty j=some e)(t:e.size=a)(p:1<=e.bytes)
 (q:∀x,Km (b x)=a) (x:i) (r:(g.length+1)*e.bytes<=70368744177664):
 ∃f d,iO cx (c.cons ⟨a,0,0,true,false,[b x]⟩) h h n (.arr c.size 0 0 1 false)=some (.val f d)/\rC d 0 f a ((g++[x]).map b)/\pK a c d:=by
 obtain⟨f,d,v,w,y⟩:=(s.cons ⟨a,0,0,true,false,[b x]⟩).aae (x:= .arr c.size 0 0 1 false) (xs:=[b x]) k l o k l t p (by rw[f7];simp) (by simpa using show(b x).cells.length=a from q x) (by simpa using r);exact⟨f,d,v,by rw[List.map_append];exact w,(pK.cons _ _ _).trans y⟩
def yC{n:Env->H->Out}(d:Nat)(f:Nat->fN->H->Prop){l:iB}
 (q:∀k c a,k<=d->f k c a->W (n ⟨c,.nil⟩ a) (xi (λb a=>b.tmps= .nil/\∃e,k<e/\e<=d/\f e b.vars a) l)) {j:Nat} (v:d<j) {k:Nat} (h:k<=d) {c:fN} {a:H} (g:f k c a):W (nL n j ⟨c,.nil⟩ a) l:=by
 refine PN (σ:=Nat) (I:=λk b a=>k<=d/\b.tmps= .nil/\f k b.vars a) (m:=λk=>d-k) ?_ j k _ _ dq ⟨h,rfl,g⟩;rintro k ⟨c,y⟩ a ⟨h,ht,g⟩;simp only at ht g;subst ht;obtain⟨o,b,p,r,i⟩:=q k c a h g;refine⟨o,b,p,r,?_⟩;cases o with
 |normal=>
  obtain⟨s,e,x,t,u⟩:=i;exact⟨e,dq,t,s,u⟩
 |exit w=>exact i
 |ret=>exact i
section
variable {cx:Ctx}
end
end
noncomputable section
section
variable {P:ai}{cx:Ctx}
def Pe{f:aj}{t:List T}{b c:H}{F G:T}(O:pT P cx ⟨f,t,b,F,c⟩)(Y:Hp c)(z:b.size<=c.size)
 (R:∀a h,a<b.size->c.get a=some h->c.get a=b.get a\/∀m∈fa h.em,o8 b.size m) (S:iX c b.size F=some G):
 pT P cx ⟨f,t,b,cn G,⟨b.size,c.low,c.fc.drop (c.size-b.size)⟩⟩:=by
 intro J w r K q i;refine(O J w r K q i).mono λm al ⟨⟨s,ae,D,g,j⟩,p⟩=> ?_;have v:∀a e,r a=some e->a<b.size:=λa e d=>q.ez d;have j:xE r s b.size c.size:=j;have hl:∀a e h,a<b.size->s a=some e->c.get a=some h->∀m∈fa h.em,o8 b.size m:=by
  intro a e h d i B;rcases R a h d B with he|he
  ·rcases j.2.1 a (by rw[i];simp)with k|k
   ·obtain⟨I,N⟩:=Option.ne_none_iff_exists'.1 k;obtain⟨an,o,X⟩:=q.box a I N;rw[<-he,B]at o;simp only[ar]at o;subst o;exact X.low v
   ·omega
  ·exact he
 have u:=St.cut (low:=c.low) D z hl;have x:∀a,a<b.size->(⟨b.size,c.low,c.fc.drop (c.size-b.size)⟩:H).get a=c.get a:=λa d=>He Y z d;refine⟨⟨lZ b.size s,(uz D ae S).cn,u,⟨⟨g.ext.size,λZ U W=> ?_,λa e d=> ?_,g.ext.oH,g.ext.kept⟩,g.os,g.tape,g.output⟩,au _,λa d=> ?_,λa E l=>absurd E (by show¬b.size<=a;have l:a<b.size:=l;omega)⟩,?_⟩
 ·obtain⟨L,M⟩:=g.ext.mZ Z U W;exact⟨L,vY M⟩
 ·rw[tQ (v a e d)];exact g.ext.mu a e d
 ·left;obtain⟨e,i⟩:=Option.ne_none_iff_exists'.1 d;obtain⟨E,l⟩:=jT i;rcases j.2.1 a (by rw[l];simp)with k|k
  ·exact k
  ·omega
 ·refine⟨u.wf,au _,p.low,λa d V=> ?_,λa y C=> ?_⟩
  ·rw[x a d];exact p.kE a d V
  ·rw[x a (H.ez C)];exact p.ver a y C
def IX{g h:H}(t:∀b,h.get b=g.get b)(n:Nat):∀a,freeze h n a=freeze g n a:=by
 intro a;induction a with
 |zero=>rfl
 |succ a q=>
  funext u;cases u with
  |agg m=>
   show(dM (fD (freeze h n a) m) λc=>some (T.agg c))=(dM (fD (freeze g n a) m) λc=>some (T.agg c));rw[q]
  |arr b o s r p=>
   show fT (Nat.ble n b) (dM (h.get b) λl=> @iN.rec (λ_=>aa T) (λ_ i _ exact k d=>
    fT (Nat.beq i o) (@Bool.rec (λ_=>aa T) (dM (dM (jJ s d) λc=>takeN r c) λj=>dM (fD (freeze h n a) j) λe=>
     @List.rec T (λ_=>aa T) (@List.rec T (λ_=>aa T) (@Bool.rec (λ_=>aa T) (some .fR) (some (.dF [] false)) exact) (λ_ _ _=>some .fR) d) (λ_ _ _=>some (.dF e p)) e) none k)) l)=
    fT (Nat.ble n b) (dM (g.get b) λl=> @iN.rec (λ_=>aa T) (λ_ i _ exact k d=>
    fT (Nat.beq i o) (@Bool.rec (λ_=>aa T) (dM (dM (jJ s d) λc=>takeN r c) λj=>dM (fD (freeze g n a) j) λe=>
     @List.rec T (λ_=>aa T) (@List.rec T (λ_=>aa T) (@Bool.rec (λ_=>aa T) (some .fR) (some (.dF [] false)) exact) (λ_ _ _=>some .fR) d) (λ_ _ _=>some (.dF e p)) e) none k)) l)
   rw[q,t]
  |_=>rfl
def sw{a b:H}(i:∀e,b.get e=a.get e)(n:Nat)(c:T):iX b n c=iX a n c:=by
 have g:iy b n=iy a n:=by funext d;cases d<;>(unfold iy;simp only[IX i])
 have h:j3 b n=j3 a n:=by funext d;cases d<;>(unfold j3;simp only[g])
 cases c<;>(unfold iX;simp only[h])
end
def FT(e:H)(c:Nat->Prop):Nat->T->T->Prop
 |0,_,_=>False
 |d+1,a,g=>(jI a=true/\(∀b,a≠ .agg b)/\g=cn a)\/
  (∃h l o m f j k,a= .arr h l o m f/\c h/\e.jg a=some j/\iv (FT e c d) j k/\g=sl k)\/
  (∃b i,a= .agg b/\iv (FT e c d) b i/\g= .agg i)
def iv.imp_mem{α h:Type}{d R':α->h->Prop}{c:List α}{g:List h}(i:iv d c g)(e:∀a∈c,∀b,d a b->R' a b):iv R' c g:=by
 induction i with
 |nil=>exact .nil
 |cons a _ k=>exact .cons (e _ dt _ a) (k λl j b=>e l (by simp[j]) b)
def pz{α d:Type}{f:α->aa d}{b:List α}{c:List d}(g:iv (λa e=>f a=some e) b c):fD f b=some c:=by
 induction g with
 |nil=>rfl
 |cons a _ h=>rw[jr,a,h];rfl
def FT.wG{h:H}{V:Nat->Prop}:∀{d:Nat} {v t:T},FT h V d v t->TI.wG h d v=some t:=by
 intro d;induction d with
 |zero=>intro v t c;exact c.elim
 |succ d g=>
  intro v t c;rcases c with⟨j,k,rfl⟩|⟨e,p,u,s,f,q,r,rfl,_,l,a,rfl⟩|⟨m,o,rfl,a,rfl⟩
  ·unfold TI.wG;rw[rX h 0 d v j k];rfl
  ·rw[xm,l,dR,pz (a.imp λi e b=>g b)];rfl
  ·rw[Rf,pz (a.imp λi e b=>g b)];rfl
def GI{c d:H}{a b g e:Nat}{f:Bool}(h:d.get a=c.get a):d.jg (.arr a b g e f)=c.jg (.arr a b g e f):=by
 rw[f7,f7,h]
def FT.mono{k h':H}{i j:Nat->Prop}(m:∀a,i a->j a/\h'.get a=k.get a):∀{b:Nat} {e d:T},FT k i b e d->FT h' j b e d:=by
 intro b;induction b with
 |zero=>intro e d c;exact c.elim
 |succ b o=>
  intro e d c;rcases c with c|⟨a,s,x,w,f,t,u,rfl,l,v,g,rfl⟩|⟨q,r,rfl,g,rfl⟩
  ·exact .inl c
  ·exact .inr (.inl ⟨a,s,x,w,f,t,u,rfl,(m a l).1,by rw[GI (m a l).2];exact v,g.imp λp a h=>o h,rfl⟩)
  ·exact .inr (.inr ⟨q,r,rfl,g.imp λp a h=>o h,rfl⟩)
def FT.deep{k:H}{j:Nat->Prop}:∀{b a:Nat} {e d:T},b<=a->FT k j b e d->FT k j a e d:=by
 intro b;induction b with
 |zero=>intro a e d _ c;exact c.elim
 |succ b l=>
  intro a e d y c;obtain⟨a,rfl⟩:∃q,a=q+1:=⟨a-1,dq⟩;rcases c with c|⟨g,r,x,w,f,s,t,rfl,u,v,h,rfl⟩|⟨o,p,rfl,h,rfl⟩
  ·exact .inl c
  ·exact .inr (.inl ⟨g,r,x,w,f,s,t,rfl,u,v,h.imp λm g i=>l dq i,rfl⟩)
  ·exact .inr (.inr ⟨o,p,rfl,h.imp λm g i=>l dq i,rfl⟩)
def FT.fz{h:H}{V:Nat->Prop}{v t:T}(l:FT h V 12 v t):TI.fz h v=some t:=by
 rcases l with⟨i,e,rfl⟩|⟨g,o,s,r,f,p,q,rfl,e,j,a,rfl⟩|⟨b,c,rfl,a,rfl⟩
 ·show(dM (iy h 0 v) λv=>some (cn v))=_;rw[pQ h i e];rfl
 ·rw[vd,j,dR,pz (a.imp λm g k=>k.wG)];rfl
 ·have:=FT.wG (h:=h) (V:=V) (d:=12) (v:= .agg b) (t:= .agg c) (.inr (.inr ⟨b,c,rfl,a,rfl⟩));exact this
@[simp] theorem fW (d:H) (b:Nat->Prop) (c:Nat) (a:ak) (n:Int):FT d b (c+1) (.int a n) (.int a n):= .inl ⟨dt,dt,dt⟩
@[simp] theorem jV (d:H) (b:Nat->Prop) (c:Nat) (a:List Nat):FT d b (c+1) (.str a) (.str a):= .inl ⟨dt,dt,dt⟩
@[simp] theorem KK (d:H) (b:Nat->Prop) (c:Nat) (a:Bool):FT d b (c+1) (.bool a) (.bool a):= .inl ⟨dt,dt,dt⟩
def oz(g:H)(d:Nat->Prop)(e:Nat){a:List T}(c:∀b∈a,cn b=b):FT g d (e+1) (sl a) (sl a):=by
 refine .inl ⟨dt,by cases a<;>simp[sl],?_⟩;rw[Ko];congr 1;induction a with
 |nil=>rfl
 |cons b k i=>rw[aR,c b dt,<-i λj h=>c j (by simp[h])]
def iU(c:H)(a:Nat->Prop)(b:Nat)(f:Bool):FT c a (b+1) (.dF [] f) (sl []):= .inl ⟨dt,dt,by rw[mQ];rfl⟩
section
variable {cx:Ctx}{cf:iL}{mask n:Nat}{dl:DL}
def adk{a:Bool}{h:af Oper}{c:aa Tmp}{g:Op}{e:List Oper}{j i:fN}{d:H}{b:iB}(k:a=true->GK (some true) cx cf mask h c g e j i d b)(l:a=false->GK (some false) cx cf mask h c g e j i d b):GK (some a) cx cf mask h c g e j i d b:=by
 cases a
 ·exact l rfl
 ·exact k rfl
def fq(b e:Code)(c:Env)(d:H)(a:iB):CK (some (.bool true)) cx cf n mask dl b e c d a=W (jm cx cf n mask dl b c d) a:=rfl
def eY(e b:Code)(c:Env)(d:H)(a:iB):CK (some (.bool false)) cx cf n mask dl e b c d a=W (jm cx cf n mask dl b c d) a:=rfl
def dW{a:Bool}{e g:Code}{c:Env}{d:H}{b:iB}(h:a=true->W (jm cx cf n mask dl e c d) b)(i:a=false->W (jm cx cf n mask dl g c d) b):CK (some (.bool a)) cx cf n mask dl e g c d b:=by
 cases a
 ·exact i rfl
 ·exact h rfl
end
def wR(P:ai)(cx:Ctx)(f:aj){α:Type}(A:α->List T)(pre:α->Prop)(Q:α->T->Prop):gu:=
 ⟨α,A,pre,λa=>Classical.epsilon λc=>(∀b,A b=A a->Q b c)/\kM P cx f (A a) c,λa b d=>by simp only[d]⟩
section
variable {P:ai}{cx:Ctx}{f:aj}{α:Type}{A:α->List T}{pre:α->Prop}{Q:α->T->Prop}
def JA(h:∀a b,A a=A b->a=b){a:α}(j:∃c,Q a c/\kM P cx f (A a) c):Q a ((wR P cx f A pre Q).R a)/\kM P cx f (A a) ((wR P cx f A pre Q).R a):=by
 have d:∃c,(∀b,A b=A a->Q b c)/\kM P cx f (A a) c:=by
  obtain⟨c,e,g⟩:=j;exact⟨c,λb i=>by rw[h b a i];exact e,g⟩
 have:=Classical.epsilon_spec d;exact⟨this.1 a rfl,this.2⟩
def Xe(d:∀a b,A a=A b->a=b)(g:∀a,pre a->∃c,Q a c/\kM P cx f (A a) c):(wR P cx f A pre Q).Ok P cx f:=λa e=>(JA d (g a e)).2
def jd{tb:fy}{c:Func}{mask:Nat}{dl:DL}(j:P.follows .mixedOrders=true)(iG:iP P cx)(m:FC P cx f c mask dl)(n:α->Nat)(h:∀a g,A a=A g->a=g)(hl:∀a,mp (A a)=true)(k:∀a,(A a).length<=c.ntmps)
 (l:∀a,pre a->∀i,mY i 0 (A a)->W (jm cx (qp P cx tb) (n a) mask dl (c.body.getD .skip) ⟨i,.nil⟩ hE) (BU cx mask c.results.toList λo d=>∃b,Q a b/\PY d o b)):(wR P cx f A pre Q).Ok P cx f/\∀a,pre a->Q a ((wR P cx f A pre Q).R a):=by
 have d:∀a,pre a->∃b,Q a b/\kM P cx f (A a) b:=λa e=>TT j iG m (Cr P cx tb) (hl a) (k a) (n a) (l a e);exact⟨Xe h d,λa e=>(JA h (d a e)).1⟩
def m6(P:ai)(cx:Ctx)(f:aj)(A:α->List T)(pre:α->Prop)(Q:α->T->Prop):Prop:=(wR P cx f A pre Q).Ok P cx f/\∀a,pre a->Q a ((wR P cx f A pre Q).R a)
def AL(d:α->Nat)(step:∀b,m6 P cx f A (λa=>pre a/\d a<b) Q->m6 P cx f A (λa=>pre a/\d a<b+1) Q):m6 P cx f A pre Q:=by
 have e:∀b,m6 P cx f A (λa=>pre a/\d a<b) Q:=by
  intro b;induction b with
  |zero=>exact⟨λa c=>absurd c.2 (Nat.not_lt_zero _),λa c=>absurd c.2 (Nat.not_lt_zero _)⟩
  |succ b g=>exact step b g
 exact⟨λa c=>(e (d a+1)).1 a ⟨c,cY _⟩,λa c=>(e (d a+1)).2 a ⟨c,cY _⟩⟩
end
def LH(b:Prop)(c:T):Prop:=∃a,c= .bool a/\(a=true->b)
@[simp] theorem Wu (d:Prop) (a:Bool):LH d (.bool a)=(a=true->d):=by
 unfold LH;apply propext;constructor
 ·rintro⟨e,c,b⟩;simp at c;subst c;exact b
 ·exact λb=>⟨a,rfl,b⟩
@[simp] theorem ZA (a:Bool):DM (.bool a)=True:=by simp[DM]
end
end Go.TI
