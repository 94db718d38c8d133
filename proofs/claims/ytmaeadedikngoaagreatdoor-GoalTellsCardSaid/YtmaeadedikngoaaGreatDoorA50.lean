/- PROVED: the law interleave/interleavelaw20.GoalTells returns true for every input, and leaves its arguments and all that was there as it was: the row goalTellsRow and its card (GoalTellsCardSaid). goal.List returns the goals that the document defines, for every window of a scene or of a program. Conditions: those of the given row alone (the listed package variables start as the text lays them). The texts W.. walk through the functions' own code, the texts Ti.. bear that out against the model. -/
import Derived.Test.YtmaeadedikngoaaGreatDoorA44
import Derived.Test.YtmaeadedikngoaaGreatDoorA47
import Derived.Test.YtmaeadedikngoaaGreatDoorA48
import Derived.Test.YtmaeadedikngoaaGreatDoorA49
set_option linter.all false
set_option maxRecDepth 100000
set_option maxHeartbeats 8000000
namespace Go.Proofs.YtmaeadedikngoaaGreatDoor
noncomputable section
open Go Go.TI Go.RowKit Go.ChangeShapes Go.WideShapes
def QU{b:Int}(a:X2 b):byV b:=by
 unfold X2 IntKind.min IntKind.max IntKind.signed IntKind.bits at a;unfold byV;simp at a;omega
def JG{b:List Int}(a:PD b):okB b:=⟨by have:=a.1;omega,λd c=>QU (a.2 d c)⟩
def RE{b:mD}(a:aay b):Rg b:=⟨JG a.1,JG a.2.1,JG a.2.2.1,QU a.2.2.2.1,QU a.2.2.2.2⟩
def ZV:Tryz.f3.params.toList.all (λa=> !Tryz.prog.wantsStandIn a)=true:=dI
def wA:Tryz.f3.params.toList=[24]:=dI
def laidOut:laidOutB Tryz.prog=true:=dI
def stays:(([24]:List ab).all λa=>Tryz.prog.readableRec a&&decide (a<Tryz.prog.types.size))=true:=dI
def Ar(os:Os)(B:os.Started)(H:Type)(enc:ab×am->H):
 ReturnsInHanded {} Tryz.checked os 3 .any (λa g=>(Rows.goalTellsSpec.pre enc Tryz.prog Tryz.f3 [] false a g/\laidMetH Tryz.prog Rows.goalTellsRow.laid a)/\sizedMet enc Tryz.prog Tryz.f3 (OpenSpec.ofChange Rows.goalTellsSpec) false a g)
  (Rows.goalTellsSpec.post enc Tryz.prog Tryz.f3 false true false false):=by
 refine returnsInHanded_of_change_and (C:=Tryz.checked) (X:=λa _=>laidMetH Tryz.prog Rows.goalTellsRow.laid a) (λ_ _ _ s d=>d.of_heap s) own B dI Tryz.func3
  (ChangeSpec.witness_shaped (enc:=enc) (C:=Tryz.checked) (os:=os) (X:=λa _=>laidMetH Tryz.prog Rows.goalTellsRow.laid a) false (World.laidAll Tryz.prog os Rows.goalTellsRow.laid)
    #[.agg #[.slice none 0 0,.slice none 0 0,.slice none 0 0,.int .u8 0,.int .u8 0]] 8 (World.laidAll_os _ _ _)
    (World.shaped_of_ZipB dI dI) dI dI dI
    (by rw[MakeChecks.laidMetH_plain _ _ _ dI];exact laidMet_laidAll _ dI dI)) ?_
 intro W I g M Q J v i _ w h _;have j:=i;obtain⟨m,R,p,q,rfl,_,_⟩:=i;obtain⟨rfl,rfl⟩:=trodVars_none q;rw[MakeChecks.laidMetH_plain _ _ _ dI]at h;have b:=p;rw[wA]at b;obtain⟨S,e,z⟩:=Nr (.cons (Xz.struct eQ Qp rfl adR λ_=>rfl) (.nil)) b (λx D E n o=>v x D E (by rw[<-Array.getElem?_toList,wA];exact n) (by rw[<-Array.getElem?_toList];exact o)) (λf e=>by
  have:=List.all_eq_true.1 w f (by rw[bL,wA];exact e);simpa using this)
 obtain⟨_,_,rfl,⟨F,rfl,y⟩,A⟩:=z.inv;obtain rfl:=A.FD;have u:=VW F (RE y);have t:∀f∈m,f.block<W.heap.size:=λf e=>j.lt f (by simpa using e);refine(Ko Tryz.func3 dI (c:=TI.Xr ⟨Tryz.f3,0,false,none⟩) dI u W (λP K d=>(Ws W h).find d) e).mono λO G ⟨r,l⟩=> ?_;subst r;have k:=Nq laidOut l stays b t;rw[<-wA]at k;obtain⟨_,_,L,N,_,_,_,rfl,_,_,b⟩:=trodAll_cons b;obtain⟨_,rfl,_⟩:=trodAll_nil b;exact⟨_,rfl,_,_,_,[],m,[],j,trodAll_mk1 (shut_bool Tryz.underlying4 _),k,rfl,l.frame _,λd=>by cases d⟩
def Bd:Rows.goalTellsRow.holds Tryz.pinned (OpenSpec.ofChange Rows.goalTellsSpec):=
 OpenClaim.holds_of_wide 3 Tryz.f3 rfl rfl rfl rfl rfl rfl rfl ⟨rfl,rfl,rfl,rfl,rfl⟩ rfl rfl rfl rfl rfl u0 Tryz.func3 As
  (of_decide_eq_true dI) (by unfold Func.isWrapper;first|(rw[aq (by decide+kernel)];kernel_rfl)|(rw[ao (by decide+kernel)];exact⟨rfl,rfl⟩))
  (λb c H a _=>Ar b c H a)
theorem goalTells_card_holds:Rows.GoalTellsCardSaid:=
 Claim7.holds_tied_plain_at .later [] [.data,.data,.data,.data,.sentinel,.sentinel,.data,.pinned] true (true,"96e63c93249ac6efc5ef6cb6ded2ba7abf4f04f423059530b43eb10f2a7c5359") true Bd (λ_ a=>by cases a) FY (λ_ a=>by cases a) goalTells_row_tie rfl ⟨rfl,rfl⟩ CS rfl
  (λd e f g=>by
    obtain rfl:d=3:=Option.some.inj (u0.symm.trans f)|>.symm;obtain rfl:e=Tryz.f3:=(Option.some.inj (Tryz.func3.symm.trans g)).symm;refine⟨Bc,λi c ht=> ?_⟩;have h:c∈Tryz.f3.params.toList:=Array.mem_toList_iff.2 (Array.mem_of_getElem? ht);have b:=List.all_eq_true.1 ZV c h;simp only[bR]at b;exact b)
  CT
end
end Go.Proofs.YtmaeadedikngoaaGreatDoor
