/- PROVED: the law interleave/interleavelaw20.GoalMade returns true for every input, and leaves its arguments and all that was there as it was: the row goalMadeRow and its card (GoalMadeCardSaid). Where the bytes make a window of a program, goal.List returns the goals that the document defines. Conditions: those of the given row alone (the listed package variables start as the text lays them). The texts W.. walk through the functions' own code, the texts Ti.. bear that out against the model. -/
import Derived.Test.YtmaeadedikngoaaGreatDoorA40
import Derived.Test.YtmaeadedikngoaaGreatDoorA43
import Derived.Test.YtmaeadedikngoaaGreatDoorA44
import Derived.Test.YtmaeadedikngoaaGreatDoorA45
set_option linter.unusedVariables false
set_option linter.unusedSimpArgs false
set_option maxRecDepth 100000
set_option maxHeartbeats 8000000
namespace Go.Proofs.YtmaeadedikngoaaGreatDoor
noncomputable section
open Go Go.TI Go.RowKit Go.ChangeShapes Go.WideShapes
theorem JV{b:Int}(a:ok5 b):byB b:=by
 unfold ok5 IntKind.min IntKind.max IntKind.signed IntKind.bits at a;unfold byB;simp at a;omega
theorem XY:Tryz.f4.params.toList.all (λa=> !Tryz.prog.wantsStandIn a)=true:=by kernel_rfl
theorem u6:Tryz.f4.params.toList=[22,22,5,5]:=by kernel_rfl
theorem laidOut:laidOutB Tryz.prog=true:=by kernel_rfl
theorem stays:(([22,22,5,5]:List ab).all λa=>Tryz.prog.readableRec a&&decide (a<Tryz.prog.types.size))=true:=by kernel_rfl
theorem zx(os:Os)(O:os.Started)(H:Type)(enc:ab×am->H):
 ReturnsInHanded {} Tryz.checked os 4 .any (λb i=>(Rows.goalMadeSpec.pre enc Tryz.prog Tryz.f4 [] false b i/\laidMetH Tryz.prog Rows.goalMadeRow.laid b)/\sizedMet enc Tryz.prog Tryz.f4 (OpenSpec.ofChange Rows.goalMadeSpec) false b i)
  (Rows.goalMadeSpec.post enc Tryz.prog Tryz.f4 false true false false):=by
 refine returnsInHanded_of_change_and (C:=Tryz.checked) (X:=λb _=>laidMetH Tryz.prog Rows.goalMadeRow.laid b) (λ_ _ _ x d=>d.of_heap x) own O (by kernel_rfl) Tryz.func4
  (ChangeSpec.witness_shaped (enc:=enc) (C:=Tryz.checked) (os:=os) (X:=λb _=>laidMetH Tryz.prog Rows.goalMadeRow.laid b) false (World.laidAll Tryz.prog os Rows.goalMadeRow.laid)
    #[.slice none 0 0,.slice none 0 0,.int .u8 0,.int .u8 0] 8 (World.laidAll_os _ _ _)
    (World.shaped_of_ZipB (by kernel_rfl) (by kernel_rfl)) (by kernel_rfl) (by kernel_rfl) (by kernel_rfl)
    (by rw[MakeChecks.laidMetH_plain _ _ _ (by kernel_rfl)];exact laidMet_laidAll _ (by kernel_rfl) (by kernel_rfl))) ?_
 intro W Y i aA a7 Z A m _ B l _
 have n:=m
 obtain⟨r,q,u,v,rfl,_,_⟩:=m
 obtain⟨rfl,rfl⟩:=trodVars_none v
 rw[MakeChecks.laidMetH_plain _ _ _ (by kernel_rfl)]at l
 have a:=u
 rw[u6]at a
 obtain⟨a8,f,J⟩:=Lo (.cons (VC.one dU Iy (by simp) X8) (.cons (VC.one dU Iy (by simp) X8) (.cons (VC.one dU Gx (by simp) rd5) (.cons (VC.one dU Gx (by simp) rd5) (.nil))))) a (λD P Q s t=>A D P Q (by rw[<-Array.getElem?_toList,u6];exact s) (by rw[<-Array.getElem?_toList];exact t)) (λh f=>by
  have:=List.all_eq_true.1 B h (by rw[bL,u6];exact f)
  simpa using this)
 obtain⟨_,_,rfl,⟨R,rfl,E⟩,K⟩:=J.inv
 obtain⟨_,_,rfl,⟨S,rfl,F⟩,L⟩:=K.inv
 obtain⟨_,_,rfl,⟨T,rfl,G⟩,M⟩:=L.inv
 obtain⟨_,_,rfl,⟨U,rfl,I⟩,N⟩:=M.inv
 obtain rfl:=N.Nl
 have z:=Yz (R,S,T,U) ⟨λk j=>JV (E.2 k j),λk j=>JV (F.2 k j),JV G,JV I⟩
 have y:∀h∈r,h.block<W.heap.size:=λh f=>n.lt h (by simpa using f)
 refine(IC Tryz.func4 (by kernel_rfl) (c:=TI.Vw ⟨Tryz.f4,0,false,none⟩) (by kernel_rfl) z W (λg ae d=>(UF W l).find d) f).mono λe V ⟨w,p⟩=> ?_
 subst w
 have o:=Ln laidOut p stays a y
 rw[<-u6]at o
 obtain⟨_,_,al,aE,_,_,_,rfl,_,_,a⟩:=trodAll_cons a
 obtain⟨_,_,an,aN,_,_,_,rfl,_,_,a⟩:=trodAll_cons a
 obtain⟨_,_,ap,aX,_,_,_,rfl,_,_,a⟩:=trodAll_cons a
 obtain⟨_,_,av,a6,_,_,_,rfl,_,_,a⟩:=trodAll_cons a
 obtain⟨_,rfl,_⟩:=trodAll_nil a
 exact⟨_,rfl,_,_,_,[],r,[],n,trodAll_mk1 (shut_bool Tryz.underlying4 _),o,rfl,p.frame _,λd=>by cases d⟩
theorem Bt:Rows.goalMadeRow.holds Tryz.pinned (OpenSpec.ofChange Rows.goalMadeSpec):=
 OpenClaim.holds_of_wide 4 Tryz.f4 rfl rfl rfl rfl rfl rfl rfl ⟨rfl,rfl,rfl,rfl,rfl⟩ rfl rfl rfl rfl rfl uG Tryz.func4 zy
  (of_decide_eq_true (by kernel_rfl)) (by unfold Func.isWrapper;first|(rw[aq (by decide+kernel)];kernel_rfl)|(rw[ao (by decide+kernel)];exact⟨rfl,rfl⟩))
  (λc d H a _=>zx c d H a)
theorem goalMade_card_holds:Rows.GoalMadeCardSaid:=
 Claim7.holds_tied_plain_at .later [] [.data,.data,.data,.data,.sentinel,.sentinel,.data,.pinned] true (true,"96e63c93249ac6efc5ef6cb6ded2ba7abf4f04f423059530b43eb10f2a7c5359") true Bt (λ_ a=>by cases a) F6 (λ_ a=>by cases a) goalMade_row_tie rfl ⟨rfl,rfl⟩ Ck rfl
  (λd e f g=>by
    obtain rfl:d=4:=Option.some.inj (uG.symm.trans f)|>.symm
    obtain rfl:e=Tryz.f4:=(Option.some.inj (Tryz.func4.symm.trans g)).symm
    refine⟨Br,λi c ht=> ?_⟩
    have h:c∈Tryz.f4.params.toList:=Array.mem_toList_iff.2 (Array.mem_of_getElem? ht)
    have b:=List.all_eq_true.1 XY c h
    simp only[bP]at b
    exact b)
  Cm
end
end Go.Proofs.YtmaeadedikngoaaGreatDoor
