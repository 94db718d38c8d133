/- PROVED: the law interleave/interleavelaw20.GoalLists returns true for every input, and leaves its arguments and all that was there as it was: the row goalListsRow and its card (GoalListsCardSaid). The goals of goal.List are valid and ascend, and each valid goal is among them; for every window of a scene or of a program. Conditions: those of the given row alone (the listed package variables start as the text lays them). The texts W.. walk through the functions' own code, the texts Ti.. bear that out against the model. -/
import Derived.Test.YtmaeadedikngoaaGreatDoorA42
import Derived.Test.YtmaeadedikngoaaGreatDoorA45
import Derived.Test.YtmaeadedikngoaaGreatDoorA46
import Derived.Test.YtmaeadedikngoaaGreatDoorA47
set_option linter.all false
set_option maxRecDepth 100000
set_option maxHeartbeats 8000000
namespace Go.Proofs.YtmaeadedikngoaaGreatDoor
noncomputable section
open Go Go.TI Go.RowKit Go.ChangeShapes Go.WideShapes
def QD{b:Int}(a:XQ b):byV b:=by
 unfold XQ IntKind.min IntKind.max IntKind.signed IntKind.bits at a;unfold byV;simp at a;omega
def Jt{b:List Int}(a:Pn b):okB b:=⟨by have:=a.1;omega,λd c=>QD (a.2 d c)⟩
def Rq{b:mN}(a:aao b):Q2 b:=⟨Jt a.1,Jt a.2.1,Jt a.2.2.1,QD a.2.2.2.1,QD a.2.2.2.2⟩
def ZL:Tryz.f7.params.toList.all (λa=> !Tryz.prog.wantsStandIn a)=true:=dK
def wy:Tryz.f7.params.toList=[24,54]:=dK
def laidOut:laidOutB Tryz.prog=true:=dK
def stays:(([24,54]:List ab).all λa=>Tryz.prog.readableRec a&&decide (a<Tryz.prog.types.size))=true:=dK
def Ak(os:Os)(D:os.Started)(H:Type)(enc:ab×am->H):
 ReturnsInHanded {} Tryz.checked os 7 .any (λb g=>(Rows.goalListsSpec.pre enc Tryz.prog Tryz.f7 [] false b g/\laidMetH Tryz.prog Rows.goalListsRow.laid b)/\sizedMet enc Tryz.prog Tryz.f7 (OpenSpec.ofChange Rows.goalListsSpec) false b g)
  (Rows.goalListsSpec.post enc Tryz.prog Tryz.f7 false true false false):=by
 refine returnsInHanded_of_change_and (C:=Tryz.checked) (X:=λb _=>laidMetH Tryz.prog Rows.goalListsRow.laid b) (λ_ _ _ s d=>d.of_heap s) own D dK Tryz.func7
  (ChangeSpec.witness_shaped (enc:=enc) (C:=Tryz.checked) (os:=os) (X:=λb _=>laidMetH Tryz.prog Rows.goalListsRow.laid b) false (World.laidAll Tryz.prog os Rows.goalListsRow.laid)
    #[.agg #[.slice none 0 0,.slice none 0 0,.slice none 0 0,.int .u8 0,.int .u8 0],.agg #[.int .i64 0,.int .i64 0,.int .i64 0,.int .i64 0,.int .i64 0,.slice none 0 0]] 8 (World.laidAll_os _ _ _)
    (World.shaped_of_ZipB dK dK) dK dK dK
    (by rw[MakeChecks.laidMetH_plain _ _ _ dK];exact laidMet_laidAll _ dK dK)) ?_
 intro W K g P U L v i _ w h _;have j:=i;obtain⟨m,Y,p,q,rfl,_,_⟩:=i;obtain⟨rfl,rfl⟩:=trodVars_none q;rw[MakeChecks.laidMetH_plain _ _ _ dK]at h;have a:=p;rw[wy]at a;obtain⟨Z,e,z⟩:=M9 (.cons (US.struct fa P9 rfl adG λ_=>rfl) (.cons (US.struct fa J7 rfl adE λ_=>rfl) (.nil))) a (λx E F n o=>v x E F (by rw[<-Array.getElem?_toList,wy];exact n) (by rw[<-Array.getElem?_toList];exact o)) (λf e=>by
  have:=List.all_eq_true.1 w f (by rw[bL,wy];exact e);simpa using this)
 obtain⟨_,_,rfl,⟨G,rfl,y⟩,A⟩:=z.inv;obtain⟨_,_,rfl,⟨I,rfl,V⟩,B⟩:=A.inv;obtain rfl:=B.zU;have u:=VE (G,I) (Rq y);have t:∀f∈m,f.block<W.heap.size:=λf e=>j.lt f (by simpa using e);refine(Kc Tryz.func7 dK (c:=TI.Xf ⟨Tryz.f7,0,false,none⟩) dK u W (λT M d=>(V9 W h).find d) e).mono λS J ⟨r,l⟩=> ?_;subst r;have k:=M8 laidOut l stays a t;rw[<-wy]at k;obtain⟨_,_,N,Q,_,_,_,rfl,_,_,a⟩:=trodAll_cons a;obtain⟨_,_,O,R,_,_,_,rfl,_,_,a⟩:=trodAll_cons a;obtain⟨_,rfl,_⟩:=trodAll_nil a;exact⟨_,rfl,_,_,_,[],m,[],j,trodAll_mk1 (shut_bool Tryz.underlying4 _),k,rfl,l.frame _,λd=>by cases d⟩
def A2:Rows.goalListsRow.holds Tryz.pinned (OpenSpec.ofChange Rows.goalListsSpec):=
 OpenClaim.holds_of_wide 7 Tryz.f7 rfl rfl rfl rfl rfl rfl rfl ⟨rfl,rfl,rfl,rfl,rfl⟩ rfl rfl rfl rfl rfl u0 Tryz.func7 Al
  (of_decide_eq_true dK) (by unfold Func.isWrapper;first|(rw[aq (by decide+kernel)];kernel_rfl)|(rw[ao (by decide+kernel)];exact⟨rfl,rfl⟩))
  (λb c H a _=>Ak b c H a)
theorem goalLists_card_holds:Rows.GoalListsCardSaid:=
 Claim7.holds_tied_plain_at .later [] [.data,.data,.data,.data,.sentinel,.sentinel,.data,.pinned] true (true,"96e63c93249ac6efc5ef6cb6ded2ba7abf4f04f423059530b43eb10f2a7c5359") true A2 (λ_ a=>by cases a) FN (λ_ a=>by cases a) goalLists_row_tie rfl ⟨rfl,rfl⟩ CH rfl
  (λd e f g=>by
    obtain rfl:d=7:=Option.some.inj (u0.symm.trans f)|>.symm;obtain rfl:e=Tryz.f7:=(Option.some.inj (Tryz.func7.symm.trans g)).symm;refine⟨A1,λi c ht=> ?_⟩;have h:c∈Tryz.f7.params.toList:=Array.mem_toList_iff.2 (Array.mem_of_getElem? ht);have b:=List.all_eq_true.1 ZL c h;simp only[ci]at b;exact b)
  CI
end
end Go.Proofs.YtmaeadedikngoaaGreatDoor
