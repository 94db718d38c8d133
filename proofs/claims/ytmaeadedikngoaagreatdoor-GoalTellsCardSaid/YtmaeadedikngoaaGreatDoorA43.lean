/- Texts W20l to W20l. -/
import Derived.Test.YtmaeadedikngoaaGreatDoorA42
set_option linter.all false
set_option maxRecDepth 100000
set_option maxHeartbeats 8000000
namespace Go.Proofs.YtmaeadedikngoaaGreatDoor
noncomputable section
open Go Go.TI
attribute [-simp] List.map_take List.map_drop List.map_append fG fg ei Bool.not_or Bool.not_and
attribute [simp] fF fh
def Vi{f:GX}{b:f6}(a:f.vR b=true):b.jJ.length<=4:=by
 unfold GX.vR at a;split at a
 ·unfold GX.dead GX.Gk at a;simp only[aB,aK]at a;exact a.2.1.1.2
 split at a;rotate_left
 ·simp at a
 have e:∀{d:Bool},(decide (b.jJ=[])&&d)=true->b.jJ.length<=4:=λc=>by
  simp only[aB,aK]at c;rw[c.1];simp
 split at a
 ·simp only[aB,aK]at a;rw[a.1.2];simp
 split at a
 ·simp only[aB,aK]at a;rw[a.1.2];simp
 split at a
 ·exact e a
 ·simp at a
def N2{a:eZ}(d:kq a):a.gx.nG.length<=1000000/\∀b∈a.gx.nG,b.jJ.length<=1000000:=by
 rw[GX.FG];refine⟨aS (Ab a.gx d.ok.len) dz,λb c=> ?_⟩;have:=Vi (GX.JQ c);omega
def Xf{b:fJ}(ht:b.p 10=some zG)(a:eZ)(c:kq a):rl Tryz.prog cx b 10 [a.t]=some (sl (a.gx.nG.map f6.t)):=im ht Sd a c
def Ts{b:fJ}(ht:b.p 11=some wv)(a:eZ)(c:kq a):rl Tryz.prog cx b 11 [a.t]=some (sl (a.gx.nG.map f6.t)):=(im ht Pd a c).trans (by rw[GX.FG];rfl)
def Xd{b:fJ}(ht:b.p 9=some zv){a:eZ}(c:kq a):rl Tryz.prog cx b 9 [sl (a.gx.nG.map f6.t),sl (a.gx.nG.map f6.t)]=some (.bool true):=im ht R1 a.gx.nG (N2 c)
end
end Go.Proofs.YtmaeadedikngoaaGreatDoor
