/- W20m -/
import Derived.Test.YtbappgeamhmmbaaGreatDoorA35
set_option linter.all false
set_option maxRecDepth 100000
set_option maxHeartbeats 0
namespace Go.Proofs.YtbappgeamhmmbaaGreatDoor
noncomputable section
open Go Go.TI Tryz
attribute [-simp] List.map_take List.map_drop List.map_append fj ez TI.d8 Bool.not_or Bool.not_and
attribute [simp] fh eG
def Ib:ge:=⟨Unit,λ_=>[],λ_=>True,λ_=> .bool true,λ_ _ _=>rfl⟩
def Q0:Ib.Ok prog cx 7:=λ_ _=>QD
def WN{a:fw}(ht:a.p 7=some Ib):rl prog cx a 7 []=some (.bool true):=gG ht Q0 () trivial
def xZ:ge:=⟨eJ×jq,λa=>[a.1.t,a.2.t],λa=>kM a.1/\a.2.kA.length<=1000000,λa=> .bool (a.1.gx.vR a.2),λa c b=>by simp at b;rw[eJ.inj b.1,jq.inj b.2]⟩
def L5{b:fw}(ht:b.p 40=some uX)(a:eJ)(c:kM a):rl prog cx b 40 [a.t]=some (.tuple [fM.t ⟨a,a.gx.st⟩,.bool true]):=gG ht LA a c
def NB:xZ.Ok prog cx 16:=by
 refine fR [(40,uX),(41,x6)] (iP 127 [] func16) (λ_=>100) (by simp[xZ]) ?_;rintro⟨c,d⟩ ⟨a,hl⟩ g b;simp only at a hl;simp[xZ]at b|-;obtain⟨e,f⟩:=b;simp[f16,e,f,L5,a,RP,(⟨a,rfl⟩:Aj ⟨c,c.gx.st⟩),hl];exact GX.aew _ d
def RO{c:fw}(ht:c.p 16=some xZ)(b:eJ)(a:jq)(d:kM b)(hl:a.kA.length<=1000000):rl prog cx c 16 [b.t,a.t]=some (.bool (b.gx.vR a)):=gG ht NB (b,a) ⟨d,hl⟩
def BL:ge:=⟨eJ×jq,λa=>[a.1.t,a.2.t],λa=>kM a.1/\a.2.kA.length<=1000000/\a.1.gx.vR a.2=false,λ_=> .tuple [.fK,.bool false],λ_ _ _=>rfl⟩
def QX:BL.Ok prog cx 6:=by
 refine fR [(16,xZ)] (iP 37086407215374335 [] func6) (λ_=>1) (by simp[BL]) ?_;rintro⟨h,f⟩ ⟨c,hl,b⟩ g a;simp only at c hl b;simp[BL]at a|-;obtain⟨d,e⟩:=a;simp[f6,d,e,RO,c,hl,b]
def WK{c:fw}(ht:c.p 6=some BL)(b:eJ)(a:jq)(e:kM b)(hl:a.kA.length<=1000000)(d:b.gx.vR a=false):rl prog cx c 6 [b.t,a.t]=some (.tuple [.fK,.bool false]):=gG ht QX (b,a) ⟨e,hl,d⟩
def M4:ge:=⟨mJ×jq,λa=>[a.1.t,a.2.t],λa=>PV a.1,λ_=> .bool true,λ_ _ _=>rfl⟩
def Vk:M4.Ok prog cx 3:=by
 refine fR [(4,NA.ji),(6,BL),(5,uQ),(7,Ib)] (iP 67839 [] func3) (λl=>1) (by simp[M4]) ?_;rintro⟨j,a⟩ h m d;simp[M4]at d|-;obtain⟨b,c⟩:=d;obtain⟨_,⟨k,rfl,i⟩,f⟩:=NA.use j h;simp[f3,b,c];refine dV (λe=>?_) (λe=>?_)
 ·simp
 have hl:a.kA.length<=1000000:=by simp at e;omega
 cases g:k.gx.vR a<;>simp[b,c,f,WK,Pi,i,hl,g,WN]
