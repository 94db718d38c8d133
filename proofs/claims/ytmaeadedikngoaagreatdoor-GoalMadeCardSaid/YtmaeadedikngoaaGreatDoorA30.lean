/- Texts W01g to W01g. -/
import Derived.Test.YtmaeadedikngoaaGreatDoorA17
set_option linter.unusedVariables false
set_option linter.unusedSimpArgs false
set_option maxRecDepth 100000
set_option maxHeartbeats 8000000
namespace Go.Proofs.YtmaeadedikngoaaGreatDoor
noncomputable section
open Go Go.TI
attribute [-simp] List.map_take List.map_drop List.map_append fi ei dT Bool.not_or Bool.not_and
attribute [simp] fh ew
theorem CN:nZ Tryz.prog cx 44 (λa:List Int=>[sl (a.map (T.int .u8))]) okB (λa w=>∃c:List iD,w=sl (c.map iD.t)/\c.length=a.length):=by
 refine jk (tb:=⟨pt [],ht []⟩) dX dU (iN 285 [] Tryz.func44) (λa=>a.length+5) (λx y b=>by simp at b;exact ja (λ_ _ b=>by simpa using b) b) (by simp) (by simp[Tryz.f44]) ?_
 rintro a ⟨A,u⟩ e o
 simp at o
 simp[Tryz.f44]
 refine eQ a.length (by omega) (λd e b=>∃g,∃c:List iD,Gr b g 2 (c.map iD.t)/\gh 0 b/\c.length=d/\TI.dt e 0=some (sl (a.map (T.int .u8)))/\TI.dt e 3=some g/\TI.dt e 4=some (.int .i64 d)) ?_ ?_ (by omega) ⟨.dq [] false,[],Gr.nil _ _,by exact⟨by simp,by simp,by simp⟩,rfl,by simp[o]⟩
 ·rintro d e b p v ⟨g,c,h,l,n,i,j,k⟩
  have B:=u a[d] (aF p)
  have q: -9223372036854775808<=a[d]:=by omega
  have r:a[d]<9223372036854775808:=by omega
  obtain⟨C,z,s,m⟩:=h.nY (cx:=cx) (f:=iD.t) l Qv rfl Qp rfl (by simp) (λ_=>rfl) (⟨a[d].tmod 4,IntKind.i64.wrap ((IntKind.i64.wrap (a[d].tdiv 4)).tmod 5-1)⟩:iD) (by simp;omega)
  simp[i,j,k,p,s,v,q,r,E7 (show¬(4:Int)=0 by omega),Yc (show¬(4:Int)=0 by omega),E7 (show¬(5:Int)=0 by omega),wt]
  exact⟨_,_,m.1,⟨m.2.2.2.hp,m.2.2.2.low,aw _⟩,by simp;omega,rfl⟩
 ·rintro e b ⟨g,c,h,l,n,i,j,k⟩
  simp[i,j,k]
  exact⟨_,⟨c,rfl,n⟩,l.hp,by rw[NN g h.fT,h.pq (by simp)]⟩
end
end Go.Proofs.YtmaeadedikngoaaGreatDoor
