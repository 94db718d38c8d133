/- X23s -/
import Derived.Test.YtalknpnbaceflaaGreatDoorA32
set_option linter.all false
set_option maxRecDepth 100000
set_option maxHeartbeats 0
namespace Go.Proofs.YtalknpnbaceflaaGreatDoor
noncomputable section
open Go Go.TI Tryz
attribute [-simp] List.map_take List.map_drop List.map_append ij gG fK Bool.not_or Bool.not_and
attribute [simp] ig gJ
section
attribute [-simp] size_cons
def BA:iK:=⟨nT×List Int,λa=>[a.1.t,sl (a.2.map (T.int .u8))],λa=>IB a.1/\∀b∈a.2,PT b,λ_=> .ez true,λ_ _ _=>rfl⟩
def FW{h:nT}{l:List Int}(u:IB h)(j:∀y∈l,PT y)(hl:l.length<=40):∃(w:fg) (i:List iv) (d:fT),lj w/\vZ w d/\d=(ml w l [] (jI w)).2/\
 (∀{a:io},a.p 6=some FB.kc->rl prog cx a 6 [h.t,C 16]=some w.t)/\
 (∀{a:io},a.p 8=some DB->rl prog cx a 8 [sl (l.map (T.int .u8))]=some (sl (iz l)))/\
 (∀{a:io},a.p 7=some Dz->rl prog cx a 7 [w.t,sl (iz l)]=some (.tuple [sl (i.map iv.t),d.t]))/\
 (∀{a:io},a.p 9=some Bv->rl prog cx a 9 [w.t,sl (i.map iv.t)]=some (.tuple [d.t,.ez true]))/\
 ∃f:List jm,f.length<=1000000/\(∀c∈f,c.jz.length<=1000000)/\∀{a:io},a.p 10=some xg->rl prog cx a 10 [w.t]=some (sl (f.map jm.t)):=by
 obtain⟨_,⟨w,rfl,b⟩,m⟩:=FB.use h u;have⟨k,v,z,x⟩:=R0 (w:=w) l [] (jI w);have n:∀e∈l,0<=e/\e<=255:=λe r=>by have:=j e r;unfold PT at this;omega
 have s:vZ w (ml w l [] (jI w)).2:=⟨b,(Qf l [] _ _ (xU.start b)).up B⟩;have o:∀c∈w.gx.rk,w.gx.vR c=true:=λc g=>GX.Nr (GX.I6 w.gx▸g);have q:=Id w.gx b.ok.len;rw[<-GX.I6]at q;refine⟨w,(ml w l [] (jI w)).1,(ml w l [] (jI w)).2,b,s,rfl,m,λht=>afJ ht l B j,λht=>afG ht w l b hl n,λht=>?_,w.gx.rk,B,λc g=>by have:=ZQ (o c g);omega,λht=>abE ht w b⟩;rw[v,cQ];exact afH ht w k _ b B x
