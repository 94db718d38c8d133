/- Texts X15 to X16. -/
import Derived.Test.YtmaeadedikngoaaGreatDoorA46
set_option linter.unusedVariables false
set_option linter.unusedSimpArgs false
set_option linter.defProp false
set_option maxRecDepth 100000
set_option maxHeartbeats 8000000
namespace Go.Proofs.YtmaeadedikngoaaGreatDoor
noncomputable section
open Go Go.TI
attribute [-simp] List.map_take List.map_drop List.map_append fj eG dY Bool.not_or Bool.not_and
attribute [simp] fh eJ
def vn:f7:=⟨eK×jo,λa=>[a.1.t,a.2.t],λa=>kH a.1/\a.2.kF.length<=1000000,λa=> .bool (a.1.gx.vR a.2),λa c b=>by simp at b;rw[eK.inj b.1,jo.inj b.2]⟩
def LR{b:fq}(ht:b.p 21=some sU)(a:eK)(c:kH a):rl Tryz.prog cx b 21 [a.t]=some (.tuple [fI.t ⟨a,a.gx.st⟩,.bool true]):=gF ht Lo a c
def Nm:vn.Ok Tryz.prog cx 14:=by
 refine gH (tb:=⟨pt [(21,sU),(23,vq)],ht []⟩) ei eg (iL 127 [] Tryz.func14) (λ_=>100) (by simp[vn]) (by simp[vn,Tryz.f14]) ?_;rintro⟨c,d⟩ ⟨a,hl⟩ g b;simp only at a hl;simp[vn]at b|-;obtain⟨e,f⟩:=b;simp[Tryz.f14,e,f,LR,a,Ry,(⟨a,rfl⟩:zv ⟨c,c.gx.st⟩),hl];exact GX.abG _ d
def Rx{c:fq}(ht:c.p 14=some vn)(b:eK)(a:jo)(d:kH b)(hl:a.kF.length<=1000000):rl Tryz.prog cx c 14 [b.t,a.t]=some (.bool (b.gx.vR a)):=gF ht Nm (b,a) ⟨d,hl⟩
def JF:f7:=⟨mn×jo,λa=>[a.1.t,a.2.t],λa=>PI a.1,λ_=> .bool true,λ_ _ _=>rfl⟩
def Uh:JF.Ok Tryz.prog cx 5:=by
 refine gH (tb:=⟨pt [(8,Nl.jb),(14,vn),(15,sL),(12,H8)],ht []⟩) ei eg (iL 575 [(4,[(2,3),(2,4)])] Tryz.func5) (λj=>1) (by simp[JF]) (by simp[JF,Tryz.f5]) ?_;rintro⟨i,d⟩ g k a;simp[JF]at a|-;obtain⟨e,f⟩:=a;obtain⟨_,⟨l,rfl,h⟩,c⟩:=Nl.use i g;simp[Tryz.f5,e,f];refine dU (λb=> ?_) (λb=> ?_)
 ·simp
 have hl:d.kF.length<=1000000:=by simp at b;omega
 simp[c,Rx,O6,h,hl,Vq]
end
end Go.Proofs.YtmaeadedikngoaaGreatDoor
