/- W01 -/
import Derived.Test.YtbappgeamhmmbaaGreatDoorA9
import Derived.Test.YtbappgeamhmmbaaGreatDoorA14
set_option linter.all false
set_option maxRecDepth 100000
set_option maxHeartbeats 0
namespace Go.Proofs.YtbappgeamhmmbaaGreatDoor
noncomputable section
open Go Go.TI Tryz
attribute [-simp] List.map_take List.map_drop List.map_append fj ez TI.d8 Bool.not_or Bool.not_and
attribute [simp] fh eG
def okB(a:List Int):Prop:=a.length<=140737488351232/\∀x∈a,0<=x/\x<256
def Tp(b:List Int)(c:Nat)(d:H):Prop:=∃e a,d.get c=some (Z 2 e [.agg [sl (b.map (T.int .u8)),D a]])/\0<=a
structure yX where
 (L:List Int) (b:Nat) (n:Int)
def tW(a:yX)(d:List T)(c:H):Prop:=d=[.ptr a.b 0 0 0,D a.n]/\Tp a.L a.b c/\gH 0 c/\1<=a.n/\a.n<=100/\okB a.L
def qM(a:yX)(g:List T)(e:H)(f:T)(d:H):Prop:=∃c,f= D c/\0<=c/\c<a.n/\Tp a.L a.b d/\Sm a.b e d
def _root_.Go.TI.Sm.out{b:Nat}{h c:H}(a:Sm b (TI.hr h) c):Sm b h (lM h c):=⟨a.ok.out h,a.size,λd e=>by rw[fO,a.get d e,gu]⟩
def Dc{k:ak}{a b:Int}(d:¬b=0):binop .rem (.int k a) (.int k b)=some (.int k (a.tmod b)):=by
 have c:Qh b 0=false:=by rw[xx];simp[d]
 unfold binop;simp[wB,c]
def NN:(jr yX tW qM).Ok prog cx 64:=by
 refine jn (tb:=⟨pt [],ht []⟩) iB gW (iP 262163 [] func64) (λ_ _=>5) (λG a h z=>by obtain⟨rfl,_⟩:=z;simp[f64]) ?_;rintro⟨c,f,l⟩ _ h ⟨rfl,⟨g,b,e,q⟩,r,w,y,s,n⟩ H o;simp only at e q w y s n;simp at o;obtain⟨i,j⟩:=o;simp[f64,i,j,e];refine dV (λk=>?_) (λk=>?_)
 ·simp[k];exact⟨0,rfl,Int.le_refl _,dq,⟨g,b,by rw[fO,gu];exact e,q⟩,Sm.out (Sm.refl r.hr)⟩
 ·simp at k;have C:IntKind.i64.wrap (b+1)=b+1:=by rw[<-jv];exact jD B B
  have E:IntKind.i64.wrap b=b:=by rw[<-jv];exact jD B B
  have A:Sm f (hr h) _:=(Sm.refl r.hr).put (x:=(Z 2 g [.agg [sl (c.map (T.int .u8)),D b]])) (by rw[gu];exact e) (Z 2 (g+1) [.agg [sl (c.map (T.int .u8)),D (b+1)]]);have m:(dT (hr h) f (Z 2 (g+1) [.agg [sl (c.map (T.int .u8)),D (b+1)]])).get f=_:=(dF (h:=hr h) (by rw[gu];exact e) _ f).trans (aq rfl);simp[i,j,e,nG,dN,C];generalize dT (hr h) f _=F at*
  obtain⟨d,rfl⟩:∃d:Nat,b=d:=⟨b.toNat,B⟩;have p:d<c.length:=B;have t:=n c[d] (aD p);have u: -9223372036854775808<=c[d]:=B;have v:c[d]<9223372036854775808:=B;have t0:=Int.tmod_nonneg l t.1;have t1:=Int.tmod_lt_of_pos c[d] (show 0<l by omega);simp[i,j,m,tQ,E,p,u,v,Dc (a:=c[d]) (show¬l=0 by omega)];exact⟨_,rfl,t0,t1,⟨_,_,by rw[fO];exact m,B⟩,Sm.out A⟩
def Ia:ge:=⟨Int,λa=>[D a],λ_=>True,λa=>(dL.mk 1 a [] []).t,λa c b=>by simp at b;rw[b]⟩
def aak:Ia.Ok prog cx 133:=by
 refine fR [] (iP 5 [] func133) (λ_=>5) (by simp[Ia]) ?_;rintro a _ c b;simp[Ia]at a b|-;simp[f133,b];simpa using dL.fold 1 a [] []
def RQ{b:fw}(ht:b.p 133=some Ia)(a:Int):rl prog cx b 133 [D a]=some (dL.mk 1 a [] []).t:=gG ht aak a trivial
def K0:ge:=⟨List Nat,λa=>[.str a],λ_=>True,λa=>(dL.mk 2 0 a []).t,λa c b=>by simp at b;rw[b]⟩
def aal:K0.Ok prog cx 229:=by
 refine fR [] (iP 5 [] func229) (λ_=>5) (by simp[K0]) ?_;rintro a _ c b;simp[K0]at a b|-;simp[f229,b];simpa using dL.fold 2 0 a []
def Pn{b:fw}(ht:b.p 229=some K0)(a:List Nat):rl prog cx b 229 [.str a]=some (dL.mk 2 0 a []).t:=gG ht aal a trivial
def K2:ge:=⟨Int×dL×dL,λa=>[D a.1,a.2.1.t,a.2.2.t],λ_=>True,λa=>(dL.mk a.1 0 [] [a.2.1,a.2.2]).t,λa c b=>by
 simp at b;rw[b.1,dL.inj b.2.1,dL.inj b.2.2]⟩
def aan:K2.Ok prog cx 228:=by
 refine fR [] (iP 119 [] func228) (λ_=>5) (by simp[K2]) ?_;rintro⟨d,b,c⟩ _ e a;simp[K2]at a|-;simp[f228,a,gh];simpa using dL.fold d 0 [] [b,c]
def WM{d:fw}(ht:d.p 228=some K2)(c:Int)(a b:dL):rl prog cx d 228 [D c,a.t,b.t]=some (dL.mk c 0 [] [a,b]).t:=gG ht aan (c,a,b) trivial
def K3:ge:=⟨List Nat×dL,λa=>[.str a.1,a.2.t],λ_=>True,λa=>(dH.mk 1 0 a.1 [] [] a.2 [] []).t,λa c b=>by
 simp at b;rw[b.1,dL.inj b.2]⟩
def aao:K3.Ok prog cx 132:=by
 refine fR [] (iP 27 [] func132) (λ_=>5) (by simp[K3]) ?_;rintro⟨b,c⟩ _ d a;simp[K3]at a|-;simp[f132,a];rw[dH.mS];rfl
def uB:List gU:=[⟨1,0,[120],0,0,[]⟩,⟨1,0,[121],0,1,[]⟩,⟨2,0,[118],0,0,[]⟩,⟨1,0,[113],2,0,[]⟩,⟨3,0,[109],0,0,[]⟩,⟨3,0,[110],0,0,[]⟩,⟨4,0,[114],0,0,[]⟩,⟨5,0,[99],0,0,[109]⟩,⟨6,0,[102],0,0,[]⟩]
def BO:ge:=⟨Unit,λ_=>[],λ_=>True,λ_=>sl (uB.map gU.t),λ_ _ _=>rfl⟩
def QZ:BO.Ok prog cx 130:=by
 refine fR [] (iP 1 [] func130) (λ_=>5) (by simp[BO]) ?_;rintro _ _ b a;simp[BO]at a|-;simp[f130,gh,uB]
def Pu{a:fw}(ht:a.p 130=some BO):rl prog cx a 130 []=some (sl (uB.map gU.t)):=gG ht QZ () trivial
def sx{c:fw}(ht:c.p 132=some K3)(a:List Nat)(b:dL):rl prog cx c 132 [.str a,b.t]=some (dH.mk 1 0 a [] [] b [] []).t:=gG ht aao (a,b) trivial
