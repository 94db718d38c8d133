/- PROVED: the law interleave/interleavelaw20.GoalValid returns true for every input, and leaves its arguments and all that was there as it was: the row goalValidRow and its card (GoalValidCardSaid). goal.Valid recognizes exactly the goals that the document defines, for every window of a scene or of a program. Conditions: those of the given row alone (the listed package variables start as the text lays them). The texts W.. walk through the functions' own code, the texts Ti.. bear that out against the model. -/
import Derived.Test.YtmaeadedikngoaaGreatDoorA47
import Derived.Test.YtmaeadedikngoaaGreatDoorA50
import Derived.Test.YtmaeadedikngoaaGreatDoorA51
import Derived.Test.YtmaeadedikngoaaGreatDoorA52
set_option linter.unusedVariables false
set_option linter.unusedSimpArgs false
set_option linter.defProp false
set_option maxRecDepth 100000
set_option maxHeartbeats 8000000
namespace Go.Proofs.YtmaeadedikngoaaGreatDoor
noncomputable section
open Go Go.TI Go.RowKit Go.ChangeShapes Go.WideShapes
def Pp{b:Int}(a:V5 b):byV b:=by
 unfold V5 IntKind.min IntKind.max IntKind.signed IntKind.bits at a;unfold byV;simp at a;omega
def Is{b:List Int}(a:N6 b):okB b:=⟨by have:=a.1;omega,λd c=>Pp (a.2 d c)⟩
def Qc{b:mn}(a:YR b):PI b:=⟨Is a.1,Is a.2.1,Is a.2.2.1,Pp a.2.2.2.1,Pp a.2.2.2.2⟩
def Yd:Tryz.f5.params.toList.all (λa=> !Tryz.prog.wantsStandIn a)=true:=by kernel_rfl
def vJ:Tryz.f5.params.toList=[24,54]:=by kernel_rfl
def laidOut:laidOutB Tryz.prog=true:=by kernel_rfl
def stays:(([24,54]:List ab).all λa=>Tryz.prog.readableRec a&&decide (a<Tryz.prog.types.size))=true:=by kernel_rfl
def zk(os:Os)(D:os.Started)(H:Type)(enc:ab×am->H):
 ReturnsInHanded {} Tryz.checked os 5 .any (λb g=>(Rows.goalValidSpec.pre enc Tryz.prog Tryz.f5 [] false b g/\laidMetH Tryz.prog Rows.goalValidRow.laid b)/\sizedMet enc Tryz.prog Tryz.f5 (OpenSpec.ofChange Rows.goalValidSpec) false b g)
  (Rows.goalValidSpec.post enc Tryz.prog Tryz.f5 false true false false):=by
 refine returnsInHanded_of_change_and (C:=Tryz.checked) (X:=λb _=>laidMetH Tryz.prog Rows.goalValidRow.laid b) (λ_ _ _ s d=>d.of_heap s) own D (by kernel_rfl) Tryz.func5
  (ChangeSpec.witness_shaped (enc:=enc) (C:=Tryz.checked) (os:=os) (X:=λb _=>laidMetH Tryz.prog Rows.goalValidRow.laid b) false (World.laidAll Tryz.prog os Rows.goalValidRow.laid)
    #[.agg #[.slice none 0 0,.slice none 0 0,.slice none 0 0,.int .u8 0,.int .u8 0],.agg #[.int .i64 0,.int .i64 0,.int .i64 0,.int .i64 0,.int .i64 0,.slice none 0 0]] 8 (World.laidAll_os _ _ _)
    (World.shaped_of_ZipB (by kernel_rfl) (by kernel_rfl)) (by kernel_rfl) (by kernel_rfl) (by kernel_rfl)
    (by rw[MakeChecks.laidMetH_plain _ _ _ (by kernel_rfl)];exact laidMet_laidAll _ (by kernel_rfl) (by kernel_rfl))) ?_
 intro W K g P U L v i _ w h _;have j:=i;obtain⟨m,Y,p,q,rfl,_,_⟩:=i;obtain⟨rfl,rfl⟩:=trodVars_none q;rw[MakeChecks.laidMetH_plain _ _ _ (by kernel_rfl)]at h;have a:=p;rw[vJ]at a;obtain⟨Z,e,z⟩:=LX (.cons (Tu.struct eg ON rfl ab0 λ_=>rfl) (.cons (Tu.struct eg OI rfl abY λ_=>rfl) (.nil))) a (λx E F n o=>v x E F (by rw[<-Array.getElem?_toList,vJ];exact n) (by rw[<-Array.getElem?_toList];exact o)) (λf e=>by
  have:=List.all_eq_true.1 w f (by rw[cg,vJ];exact e);simpa using this)
 obtain⟨_,_,rfl,⟨G,rfl,y⟩,A⟩:=z.inv;obtain⟨_,_,rfl,⟨I,rfl,V⟩,B⟩:=A.inv;obtain rfl:=B.yW;have u:=Uh (G,I) (Qc y);have t:∀f∈m,f.block<W.heap.size:=λf e=>j.lt f (by simpa using e);refine(I7 Tryz.func5 (by kernel_rfl) (c:=TI.Vx ⟨Tryz.f5,0,false,none⟩) (by kernel_rfl) u W (λT M d=>(UL W h).find d) e).mono λS J ⟨r,l⟩=> ?_;subst r;have k:=LW laidOut l stays a t;rw[<-vJ]at k;obtain⟨_,_,N,Q,_,_,_,rfl,_,_,a⟩:=trodAll_cons a;obtain⟨_,_,O,R,_,_,_,rfl,_,_,a⟩:=trodAll_cons a;obtain⟨_,rfl,_⟩:=trodAll_nil a;exact⟨_,rfl,_,_,_,[],m,[],j,trodAll_mk1 (shut_bool Tryz.underlying4 _),k,rfl,l.frame _,λd=>by cases d⟩
def Au:Rows.goalValidRow.holds Tryz.pinned (OpenSpec.ofChange Rows.goalValidSpec):=
 OpenClaim.holds_of_wide 5 Tryz.f5 rfl rfl rfl rfl rfl rfl rfl ⟨rfl,rfl,rfl,rfl,rfl⟩ rfl rfl rfl rfl rfl us Tryz.func5 zl
  (of_decide_eq_true (by kernel_rfl)) (by unfold Func.isWrapper;first|(rw[aq (by decide+kernel)];kernel_rfl)|(rw[ao (by decide+kernel)];exact⟨rfl,rfl⟩))
  (λb c H a _=>zk b c H a)
theorem goalValid_card_holds:Rows.GoalValidCardSaid:=
 Claim7.holds_tied_plain_at .later [] [.data,.data,.data,.data,.sentinel,.sentinel,.data,.pinned] true (true,"96e63c93249ac6efc5ef6cb6ded2ba7abf4f04f423059530b43eb10f2a7c5359") true Au (λ_ a=>by cases a) EW (λ_ a=>by cases a) goalValid_row_tie rfl ⟨rfl,rfl⟩ B0 rfl
  (λd e f g=>by
    obtain rfl:d=5:=Option.some.inj (us.symm.trans f)|>.symm;obtain rfl:e=Tryz.f5:=(Option.some.inj (Tryz.func5.symm.trans g)).symm;refine⟨At,λi c ht=> ?_⟩;have h:c∈Tryz.f5.params.toList:=Array.mem_toList_iff.2 (Array.mem_of_getElem? ht);have b:=List.all_eq_true.1 Yd c h;simp only[bL]at b;exact b)
  B1
end
end Go.Proofs.YtmaeadedikngoaaGreatDoor
