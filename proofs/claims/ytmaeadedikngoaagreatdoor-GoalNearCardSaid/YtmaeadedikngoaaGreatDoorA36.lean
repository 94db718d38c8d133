/- Texts W01g to W01g. -/
import Derived.Test.YtmaeadedikngoaaGreatDoorA27
set_option linter.all false
set_option maxRecDepth 100000
set_option maxHeartbeats 8000000
namespace Go.Proofs.YtmaeadedikngoaaGreatDoor
noncomputable section
open Go Go.TI
attribute [-simp] List.map_take List.map_drop List.map_append fw eQ dZ Bool.not_or Bool.not_and
attribute [simp] fq eY
def Dy:m6 Tryz.prog cx 44 (λa:List Int=>[sl (a.map (T.int .u8))]) (λa=>okB a/\a.length<=1000000) (λa w=>∃c:List iR,w=sl (c.map iR.t)/\c.length=a.length):=by
 refine jd (tb:=⟨pt [],ht []⟩) ew ej (iQ 285 [] Tryz.func44) (λa=>a.length+5) (λx y b=>by simp at b;exact jw (λ_ _ b=>by simpa using b) b) dt (by simp[Tryz.f44]) ?_;rintro a ⟨⟨_,u⟩,A⟩ e o;simp at o;simp[Tryz.f44];refine fh a.length dq (λd e b=>∃g,∃c:List iR,Gr b g 2 (c.map iR.t)/\gF 0 b/\c.length=d/\dB e 0 (sl (a.map (T.int .u8)))/\dB e 3 g/\dB e 4 (dy d)) ?_ ?_ dq ⟨dz,[],Gr.nil _ _,by exact⟨dt,dt,dt⟩,rfl,by simp[o]⟩
 ·rintro d e b p v ⟨g,c,h,l,n,i,j,k⟩;have B:=u a[d] (aF p);have q: -9223372036854775808<=a[d]:=dq;have r:a[d]<9223372036854775808:=dq;obtain⟨C,z,s,m⟩:=h.mJ (cx:=cx) (f:=iR.t) l Rx rfl Rs rfl dt (λ_=>rfl) (⟨a[d].tmod 4,IntKind.i64.wrap ((IntKind.i64.wrap (a[d].tdiv 4)).tmod 5-1)⟩:iR) du;simp[i,j,k,p,s,v,q,r,yQ (show¬(4:Int)=0 by omega),Yy (show¬(4:Int)=0 by omega),yQ (show¬(5:Int)=0 by omega),tU];exact⟨_,_,m.1,⟨m.2.2.2.hp,m.2.2.2.low,aw _⟩,du,rfl⟩
 ·rintro e b ⟨g,c,h,l,n,i,j,k⟩;simp[i,j,k];exact⟨_,⟨c,rfl,n⟩,l.hp,by rw[U6 g h.gJ,h.rF dt]⟩
end
end Go.Proofs.YtmaeadedikngoaaGreatDoor
