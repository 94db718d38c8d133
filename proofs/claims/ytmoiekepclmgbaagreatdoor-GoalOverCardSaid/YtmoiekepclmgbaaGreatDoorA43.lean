/- PROVED: the law interleave/interleavelaw20.GoalOver returns true for every input, and leaves its arguments and all that was there as it was: the row goalOverRow and its card (GoalOverCardSaid). Behind the recorded order no goal holds any more. Conditions: those of the given row alone (the listed package variables start as the text lays them). The texts W.. walk through the functions' ownOver code, the texts Ti.. bear that out against the model. -/
import Derived.Test.YtmoiekepclmgbaaGreatDoorA41
import Derived.Test.YtmoiekepclmgbaaGreatDoorA36
import Derived.Test.YtmoiekepclmgbaaGreatDoorA42
import Derived.Test.YtmoiekepclmgbaaGreatDoorA37
set_option linter.all false
set_option maxRecDepth 100000
set_option maxHeartbeats 0
namespace Go.Proofs.YtmoiekepclmgbaaGreatDoor
noncomputable section
open Go Go.TI Go.RowKit Go.ChangeShapes Go.WideShapes
def Cw{b:Int}(a:Yt b):QV b:=by
 unfold Yt IntKind.min IntKind.max IntKind.signed IntKind.bits at a;unfold QV;simp at a;omega
def Af{b:List Int}(a:Qa b):okB b:=⟨by have:=a.1;omega,λd c=>Cw (a.2 d c)⟩
def I9{b:nj}(a:ZY b):HH b:=⟨Af a.1,Af a.2.1,Af a.2.2.1,Cw a.2.2.2.1,Cw a.2.2.2.2⟩
def D2{a:Int}(b:ZX a):0<=a/\a<65536:=by
 unfold ZX IntKind.min IntKind.max IntKind.signed IntKind.bits at b;simp at b;omega
def Pe:Tryz.f4.params.toList.all (λa=> !Tryz.prog.wantsStandIn a)=true:=dU
def rE:Tryz.f4.params.toList=[24,67]:=dU
def Kg:laidOutB Tryz.prog=true:=dU
def Pd:(([24,67]:List ab).all λa=>Tryz.prog.readableRec a&&decide (a<Tryz.prog.types.size))=true:=dU
def Df(os:Os)(K:os.Started)(H:Type)(enc:ab×am->H):
 ReturnsInHanded {} Tryz.checked os 4 .any (λb i=>(yy.pre enc Tryz.prog Tryz.f4 [] false b i/\laidMetH Tryz.prog uO.laid b)/\sizedMet enc Tryz.prog Tryz.f4 (OpenSpec.ofChange yy) false b i)
  (yy.post enc Tryz.prog Tryz.f4 false true false false):=by
 refine returnsInHanded_of_change_and (C:=Tryz.checked) (X:=λb _=>laidMetH Tryz.prog uO.laid b) (λ_ _ _ w d=>d.of_heap w) VG K dU Tryz.func4
  (ChangeSpec.witness_shaped (enc:=enc) (C:=Tryz.checked) (os:=os) (X:=λb _=>laidMetH Tryz.prog uO.laid b) false (World.laidAll Tryz.prog os uO.laid)
    #[.agg #[.slice none 0 0,.slice none 0 0,.slice none 0 0,.int .u8 0,.int .u8 0],.int .u16 0] 8 (World.laidAll_os _ _ _)
    (World.shaped_of_ZipB dU dU) dU dU dU
    (by rw[MakeChecks.laidMetH_plain _ _ _ dU];exact laidMet_laidAll _ dU dU)) ?_
 intro W Q i V al R z k _ A j _;have l:=k;obtain⟨p,q,t,u,rfl,_,_⟩:=k;obtain⟨rfl,rfl⟩:=trodVars_none u;rw[MakeChecks.laidMetH_plain _ _ _ dU]at j;have a:=t;rw[rE]at a;have⟨an,f,F⟩:=HE (.cons (QW.struct iT MV rfl adr λ_=>rfl) (.cons (QW.one iT TS Y ahc) (.nil))) a (λB L M r s=>z B L M (by rw[<-dJ,rE];exact r) (by rw[<-dJ];exact s)) (λh f=>by
  have:=List.all_eq_true.1 A h (by rw[bG,rE];exact f);simpa using this)
 obtain⟨_,_,rfl,⟨N,rfl,E⟩,I⟩:=F.inv;obtain⟨_,_,rfl,⟨O,rfl,o⟩,J⟩:=I.inv;obtain rfl:=J.ES;have y:=ZQ (N,O) ⟨I9 E,(D2 o).1,(D2 o).2⟩;have x:∀h∈p,h.block<W.heap.size:=λh f=>l.lt h (by simpa using f);refine(FN Tryz.func4 dU (c:=TI.Uw ⟨Tryz.f4,0,false,none⟩) dU y W (λg S d=>(MG W j).find d) f).mono λe P ⟨v,n⟩=>?_;subst v;have m:=HD Kg n Pd a x;rw[<-rE]at m;obtain⟨_,_,T,Z,_,_,_,rfl,_,_,a⟩:=trodAll_cons a;obtain⟨_,_,U,ae,_,_,_,rfl,_,_,a⟩:=trodAll_cons a;obtain⟨_,rfl,_⟩:=trodAll_nil a;exact⟨_,rfl,_,_,_,[],p,[],l,trodAll_mk1 (shut_bool Tryz.underlying4 _),m,rfl,n.frame _,λd=>by cases d⟩
def Fo:uO.holds Tryz.pinned (OpenSpec.ofChange yy):=
 OpenClaim.holds_of_wide 4 Tryz.f4 rfl rfl rfl rfl rfl rfl rfl ⟨rfl,rfl,rfl,rfl,rfl⟩ rfl rfl rfl rfl rfl yn Tryz.func4 Dg
  (of_decide_eq_true dU) (by unfold Func.isWrapper;first|(rw[aq (by decide+kernel)];kernel_rfl)|(rw[ao (by decide+kernel)];exact⟨rfl,rfl⟩))
  (λb c H a _=>Df b c H a)
theorem goalOver_card_holds:Rows.GoalOverCardSaid:=
 Claim7.holds_tied_plain_at .later [] [.data,.data,.data,.data,.sentinel,.sentinel,.data,.pinned] true (true,"81d43e2c43c14c58f6b0f0263e7c4eae5221d2c24a3c85b5ee4ac1558d68afd5") true Fo (λ_ a=>by cases a) KC (λ_ a=>by cases a) goalOver_row_tie rfl ⟨rfl,rfl⟩ Gq rfl
  (λd e f g=>by
    obtain rfl:d=4:=c8 (yn.symm.trans f)|>.symm;obtain rfl:e=Tryz.f4:=(c8 (Tryz.func4.symm.trans g)).symm;refine⟨Fl,λi c ht=>?_⟩;have h:c∈Tryz.f4.params.toList:=Array.mem_toList_iff.2 (Array.mem_of_getElem? ht);have b:=List.all_eq_true.1 Pe c h;simp only[cj]at b;exact b)
  Gs
