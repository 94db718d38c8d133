/- PROVED: the law interleave/interleavelaw20.GoalRaces returns true for every input, and leaves its arguments and all that was there as it was: the row goalRacesRow and its card (GoalRacesCardSaid). Where a race holds, the two threads can go on and hold no lock that excludes them from each other. Conditions: those of the given row alone (the listed package variables start as the text lays them). The texts W.. walk through the functions' ownRaces code, the texts Ti.. bear that out against the model. -/
import Derived.Test.YtmoiekepclmgbaaGreatDoorA38
import Derived.Test.YtmoiekepclmgbaaGreatDoorA36
import Derived.Test.YtmoiekepclmgbaaGreatDoorA39
import Derived.Test.YtmoiekepclmgbaaGreatDoorA37
set_option linter.all false
set_option maxRecDepth 100000
set_option maxHeartbeats 0
namespace Go.Proofs.YtmoiekepclmgbaaGreatDoor
noncomputable section
open Go Go.TI Go.RowKit Go.ChangeShapes Go.WideShapes
def xg{b:Int}(a:Yt b):QV b:=by
 unfold Yt IntKind.min IntKind.max IntKind.signed IntKind.bits at a;unfold QV;simp at a;omega
def ye{b:List Int}(a:Qa b):okB b:=⟨by have:=a.1;omega,λd c=>xg (a.2 d c)⟩
def HM{b:nj}(a:ZY b):HH b:=⟨ye a.1,ye a.2.1,ye a.2.2.1,xg a.2.2.2.1,xg a.2.2.2.2⟩
def LD:Tryz.f3.params.toList.all (λa=> !Tryz.prog.wantsStandIn a)=true:=dU
def ql:Tryz.f3.params.toList=[24,22]:=dU
def Ic:laidOutB Tryz.prog=true:=dU
def LC:(([24,22]:List ab).all λa=>Tryz.prog.readableRec a&&decide (a<Tryz.prog.types.size))=true:=dU
def Cp(os:Os)(L:os.Started)(H:Type)(enc:ab×am->H):
 ReturnsInHanded {} Tryz.checked os 3 .any (λb i=>(vN.pre enc Tryz.prog Tryz.f3 [] false b i/\laidMetH Tryz.prog rQ.laid b)/\sizedMet enc Tryz.prog Tryz.f3 (OpenSpec.ofChange vN) false b i)
  (vN.post enc Tryz.prog Tryz.f3 false true false false):=by
 refine returnsInHanded_of_change_and (C:=Tryz.checked) (X:=λb _=>laidMetH Tryz.prog rQ.laid b) (λ_ _ _ v d=>d.of_heap v) R8 L dU Tryz.func3
  (ChangeSpec.witness_shaped (enc:=enc) (C:=Tryz.checked) (os:=os) (X:=λb _=>laidMetH Tryz.prog rQ.laid b) false (World.laidAll Tryz.prog os rQ.laid)
    #[.agg #[.slice none 0 0,.slice none 0 0,.slice none 0 0,.int .u8 0,.int .u8 0],.slice none 0 0] 8 (World.laidAll_os _ _ _)
    (World.shaped_of_ZipB dU dU) dU dU dU
    (by rw[MakeChecks.laidMetH_plain _ _ _ dU];exact laidMet_laidAll _ dU dU)) ?_
 intro W S i ae ap T y k _ A j _;have l:=k;obtain⟨o,q,s,t,rfl,_,_⟩:=k;obtain⟨rfl,rfl⟩:=trodVars_none t;rw[MakeChecks.laidMetH_plain _ _ _ dU]at j;have a:=s;rw[ql]at a;have⟨av,f,I⟩:=HE (.cons (QW.struct iT MV rfl adr λ_=>rfl) (.cons (QW.one iT TX Y Vx) (.nil))) a (λB M N p r=>y B M N (by rw[<-dJ,ql];exact p) (by rw[<-dJ];exact r)) (λh f=>by
  have:=List.all_eq_true.1 A h (by rw[bG,ql];exact f);simpa using this)
 obtain⟨_,_,rfl,⟨O,rfl,E⟩,J⟩:=I.inv;obtain⟨_,_,rfl,⟨P,rfl,F⟩,K⟩:=J.inv;obtain rfl:=K.ES;have x:=VS (O,P) ⟨HM E,λQ z=>xg (F.2 Q z)⟩;have w:∀h∈o,h.block<W.heap.size:=λh f=>l.lt h (by simpa using f);refine(FN Tryz.func3 dU (c:=TI.Uw ⟨Tryz.f3,0,false,none⟩) dU x W (λg U d=>(KD W j).find d) f).mono λe R ⟨u,n⟩=>?_;subst u;have m:=HD Ic n LC a w;rw[<-ql]at m;obtain⟨_,_,V,al,_,_,_,rfl,_,_,a⟩:=trodAll_cons a;obtain⟨_,_,Z,an,_,_,_,rfl,_,_,a⟩:=trodAll_cons a;obtain⟨_,rfl,_⟩:=trodAll_nil a;exact⟨_,rfl,_,_,_,[],o,[],l,trodAll_mk1 (shut_bool Tryz.underlying4 _),m,rfl,n.frame _,λd=>by cases d⟩
def De:rQ.holds Tryz.pinned (OpenSpec.ofChange vN):=
 OpenClaim.holds_of_wide 3 Tryz.f3 rfl rfl rfl rfl rfl rfl rfl ⟨rfl,rfl,rfl,rfl,rfl⟩ rfl rfl rfl rfl rfl xp Tryz.func3 Cr
  (of_decide_eq_true dU) (by unfold Func.isWrapper;first|(rw[aq (by decide+kernel)];kernel_rfl)|(rw[ao (by decide+kernel)];exact⟨rfl,rfl⟩))
  (λb c H a _=>Cp b c H a)
theorem goalRaces_card_holds:Rows.GoalRacesCardSaid:=
 Claim7.holds_tied_plain_at .later [] [.data,.data,.data,.data,.sentinel,.sentinel,.data,.pinned] true (true,"81d43e2c43c14c58f6b0f0263e7c4eae5221d2c24a3c85b5ee4ac1558d68afd5") true De (λ_ a=>by cases a) Is (λ_ a=>by cases a) goalRaces_row_tie rfl ⟨rfl,rfl⟩ Fj rfl
  (λd e f g=>by
    obtain rfl:d=3:=c8 (xp.symm.trans f)|>.symm;obtain rfl:e=Tryz.f3:=(c8 (Tryz.func3.symm.trans g)).symm;refine⟨Dd,λi c ht=>?_⟩;have h:c∈Tryz.f3.params.toList:=Array.mem_toList_iff.2 (Array.mem_of_getElem? ht);have b:=List.all_eq_true.1 LD c h;simp only[cj]at b;exact b)
  Fk
