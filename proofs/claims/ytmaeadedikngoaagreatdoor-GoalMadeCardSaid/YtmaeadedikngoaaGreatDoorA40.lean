/- Texts W20k to W20k. -/
import Derived.Test.YtmaeadedikngoaaGreatDoorA39
set_option linter.unusedVariables false
set_option linter.unusedSimpArgs false
set_option maxRecDepth 100000
set_option maxHeartbeats 8000000
namespace Go.Proofs.YtmaeadedikngoaaGreatDoor
noncomputable section
open Go Go.TI
attribute [-simp] List.map_take List.map_drop List.map_append fi ei dT Bool.not_or Bool.not_and
attribute [simp] fh ew
def HB:fK:=⟨Unit,λ_=>[],λ_=>True,λ_=> .bool true,λ_ _ _=>rfl⟩
theorem PS:HB.Ok Tryz.prog cx 12:=λ_ _=>Ma
theorem Vm{a:eG}(ht:a.p 12=some HB):rl Tryz.prog cx a 12 []=some (.bool true):=fR ht PS () trivial
theorem Tl{f:GX}{b:fw}(a:f.vR b=true):b.jf.length<=4:=by
 unfold GX.vR at a
 split at a
 ·unfold GX.dead GX.Eu at a
  simp only[ay,aL]at a
  exact a.2.1.1.2
 split at a
 rotate_left
 ·simp at a
 have e:∀{d:Bool},(decide (b.jf=[])&&d)=true->b.jf.length<=4:=λc=>by
  simp only[ay,aL]at c
  rw[c.1];simp
 split at a
 ·simp only[ay,aL]at a
  rw[a.1.2];simp
 split at a
 ·simp only[ay,aL]at a
  rw[a.1.2];simp
 split at a
 ·exact e a
 ·simp at a
theorem LS{a:dZ}(d:jV a):a.gx.mI.length<=1000000/\∀b∈a.gx.mI,b.jf.length<=1000000:=by
 rw[GX.DG]
 refine⟨aS (yt a.gx d.ok.len) (by omega),λb c=> ?_⟩
 have:=Tl (GX.H7 c);omega
theorem Vi{b:eG}(ht:b.p 10=some yg)(a:dZ)(c:jV a):rl Tryz.prog cx b 10 [a.t]=some (sl (a.gx.mI.map fw.t)):=fR ht PL a c
theorem QJ{b:eG}(ht:b.p 11=some uX)(a:dZ)(c:jV a):rl Tryz.prog cx b 11 [a.t]=some (sl (a.gx.mI.map fw.t)):=(fR ht MT a c).trans (by rw[GX.DG];rfl)
theorem Vg{b:eG}(ht:b.p 9=some yd){a:dZ}(c:jV a):rl Tryz.prog cx b 9 [sl (a.gx.mI.map fw.t),sl (a.gx.mI.map fw.t)]=some (.bool true):=fR ht PE a.gx.mI (LS c)
def byB(a:Int):Prop:=0<=a/\a<256
def byL(a:List Int):Prop:=∀b∈a,byB b
theorem byL.okB{a:List Int}(b:byL a)(hl:a.length<=1000000):okB a:=⟨by omega,b⟩
def Pu:fK:=⟨List Int×List Int×Int×Int,λa=>[sl (a.1.map (T.int .u8)),sl (a.2.1.map (T.int .u8)),.int .u8 a.2.2.1,.int .u8 a.2.2.2],λa=>byL a.1/\byL a.2.1/\byB a.2.2.1/\byB a.2.2.2,λ_=> .bool true,λ_ _ _=>rfl⟩
theorem Yz:Pu.Ok Tryz.prog cx 4:=by
 refine f8 (tb:=⟨pt [(13,AV.jl),(10,yg),(11,uX),(9,yd),(12,HB)],ht []⟩) dX dU (iN 263951 [(4,[(4,5)])] Tryz.func4) (λt=>1) (by simp[Pu]) (by simp[Pu,Tryz.f4]) ?_
 rintro⟨e,d,r,s⟩ ⟨i,h,l,m⟩ u j
 simp only at i h l m
 simp[Pu]at j|-
 obtain⟨b,c,f,g⟩:=j
 simp[Tryz.f4,b,c]
 refine dM (λk=> ?_) (λk=> ?_)
 ·simp
 have o:e.length<=200/\d.length<=60:=by simp at k;omega
 obtain⟨_,⟨v,q,rfl,p⟩,a⟩:=AV.use (e,d,r,s) ⟨i.okB (by omega),h.okB (by omega),o.2,l,m⟩
 simp only at a
 cases q with
 |false=>simp[b,c,f,g,a]
 |true=>
  have n:=p rfl
  simp[b,c,f,g,a,Vi,QJ,Vg,n,Vm]
end
end Go.Proofs.YtmaeadedikngoaaGreatDoor
