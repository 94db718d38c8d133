/- X23s -/
import Derived.Test.YtmoiekepclmgbaaGreatDoorA32
set_option linter.all false
set_option maxRecDepth 100000
set_option maxHeartbeats 0
namespace Go.Proofs.YtmoiekepclmgbaaGreatDoor
noncomputable section
open Go Go.TI Tryz
attribute [-simp] List.map_take List.map_drop List.map_append fU fK fh Bool.not_or Bool.not_and
attribute [simp] fT fM
section
attribute [-simp] size_cons
def RA:iy:=⟨nj×List Int,λa=>[a.1.t,sl (a.2.map (T.int .u8))],λa=>HH a.1/\∀b∈a.2,QV b,λ_=> .bool true,λ_ _ _=>rfl⟩
def Tu{h:nj}{l:List Int}(u:HH h)(j:∀y∈l,QV y)(hl:l.length<=40):∃(w:ej) (i:List gJ) (d:fD),kZ w/\vH w d/\d=(mB w l [] (ka w)).2/\
 (∀{a:gG},a.p 5=some EH.jX->rl prog cx a 5 [h.t,G 16]=some w.t)/\
 (∀{a:gG},a.p 7=some GR->rl prog cx a 7 [sl (l.map (T.int .u8))]=some (sl (ij l)))/\
 (∀{a:gG},a.p 6=some GN->rl prog cx a 6 [w.t,sl (ij l)]=some (.tuple [sl (i.map gJ.t),d.t]))/\
 (∀{a:gG},a.p 8=some AN->rl prog cx a 8 [w.t,sl (i.map gJ.t)]=some (.tuple [d.t,.bool true]))/\
 ∃f:List iX,f.length<=1000000/\(∀c∈f,c.kc.length<=1000000)/\∀{a:gG},a.p 9=some wH->rl prog cx a 9 [w.t]=some (sl (f.map iX.t)):=by
 obtain⟨_,⟨w,rfl,b⟩,m⟩:=EH.use h u;have⟨k,v,z,x⟩:=Q0 (w:=w) l [] (ka w);have n:∀e∈l,0<=e/\e<=255:=λe r=>by have:=j e r;unfold QV at this;omega
 have s:vH w (mB w l [] (ka w)).2:=⟨b,(O0 l [] _ _ (uI.start b)).up D⟩;have o:∀c∈w.gx.pq,w.gx.vR c=true:=λc g=>GX.EZ (GX.Be w.gx▸g);have q:=B9 w.gx b.ok.len;rw[<-GX.Be]at q;refine⟨w,(mB w l [] (ka w)).1,(mB w l [] (ka w)).2,b,s,rfl,m,λht=>ae0 ht l D j,λht=>aeW ht w l b hl n,λht=>?_,w.gx.pq,D,λc g=>by have:=Q3 (o c g);omega,λht=>Uh ht w b⟩;rw[v,cG];exact YL ht w k _ b D x
