/- Texts W01g to W01g. -/
import Derived.Test.YtmaeadedikngoaaGreatDoorA27
set_option linter.unusedVariables false
set_option linter.unusedSimpArgs false
set_option linter.defProp false
set_option maxRecDepth 100000
set_option maxHeartbeats 8000000
namespace Go.Proofs.YtmaeadedikngoaaGreatDoor
noncomputable section
open Go Go.TI
attribute [-simp] List.map_take List.map_drop List.map_append fj eG dY Bool.not_or Bool.not_and
attribute [simp] fh eJ
def DP:mU Tryz.prog cx 44 (λa:List Int=>[sl (a.map (T.int .u8))]) (λa=>okB a/\a.length<=1000000) (λa w=>∃c:List iN,w=sl (c.map iN.t)/\c.length=a.length):=by
 refine iZ (tb:=⟨pt [],ht []⟩) ei eg (iL 285 [] Tryz.func44) (λa=>a.length+5) (λx y b=>by simp at b;exact jt (λ_ _ b=>by simpa using b) b) dp (by simp[Tryz.f44]) ?_;rintro a ⟨⟨_,u⟩,A⟩ e o;simp at o;simp[Tryz.f44];refine fc a.length dj (λd e b=>∃g,∃c:List iN,Gr b g 2 (c.map iN.t)/\gu 0 b/\c.length=d/\dz e 0 (sl (a.map (T.int .u8)))/\dz e 3 g/\dz e 4 (dw d)) ?_ ?_ dj ⟨dx,[],Gr.nil _ _,by exact⟨dp,dp,dp⟩,rfl,by simp[o]⟩
 ·rintro d e b p v ⟨g,c,h,l,n,i,j,k⟩;have B:=u a[d] (aF p);have q: -9223372036854775808<=a[d]:=dj;have r:a[d]<9223372036854775808:=dj;obtain⟨C,z,s,m⟩:=h.mM (cx:=cx) (f:=iN.t) l Rm rfl Rh rfl dp (λ_=>rfl) (⟨a[d].tmod 4,IntKind.i64.wrap ((IntKind.i64.wrap (a[d].tdiv 4)).tmod 5-1)⟩:iN) dq;simp[i,j,k,p,s,v,q,r,CJ (show¬(4:Int)=0 by omega),Yo (show¬(4:Int)=0 by omega),CJ (show¬(5:Int)=0 by omega),tN];exact⟨_,_,m.1,⟨m.2.2.2.hp,m.2.2.2.low,aw _⟩,dq,rfl⟩
 ·rintro e b ⟨g,c,h,l,n,i,j,k⟩;simp[i,j,k];exact⟨_,⟨c,rfl,n⟩,l.hp,by rw[UU g h.gD,h.ry dp]⟩
end
end Go.Proofs.YtmaeadedikngoaaGreatDoor
