/- PROVED: the law interleave/interleavelaw21.SearchInvalid returns true for every input, and leaves its arguments and all that was there as it was: the row searchInvalidRow and its card (SearchInvalidCardSaid). Nothing is found for what is no goal of a window. Conditions: those of the given row alone (the listed package variables start as the text lays them). The texts W.. walk through the functions' own code, the texts Ti.. bear that out against the model. -/
import Derived.Test.YtbappgeamhmmbaaGreatDoorA36
import Derived.Test.YtbappgeamhmmbaaGreatDoorA39
import Derived.Test.YtbappgeamhmmbaaGreatDoorA40
import Derived.Test.YtbappgeamhmmbaaGreatDoorA41
set_option linter.all false
set_option maxRecDepth 100000
set_option maxHeartbeats 0
namespace Go.Proofs.YtbappgeamhmmbaaGreatDoor
noncomputable section
open Go Go.TI Go.RowKit Go.ChangeShapes Go.WideShapes
def PA{b:Int}(a:XT b):byV b:=by
 unfold XT IntKind.min IntKind.max IntKind.signed IntKind.bits at a;unfold byV;simp at a;omega
def Iv{b:List Int}(a:Oj b):okB b:=⟨by have:=a.1;omega,λd c=>PA (a.2 d c)⟩
def Qo{b:mJ}(a:du b):PV b:=⟨Iv a.1,Iv a.2.1,Iv a.2.2.1,PA a.2.2.2.1,PA a.2.2.2.2⟩
def ZF:Tryz.f3.params.toList.all (λa=> !Tryz.prog.wantsStandIn a)=true:=dz
def vY:Tryz.f3.params.toList=[24,27]:=dz
def laidOut:laidOutB Tryz.prog=true:=dz
def stays:(([24,27]:List ab).all λa=>Tryz.prog.readableRec a&&decide (a<Tryz.prog.types.size))=true:=dz
def uL(os:Os)(K:os.Started)(H:Type)(enc:ab×am->H):
 ReturnsInHanded {} Tryz.checked os 3 .any (λb i=>(Rows.searchInvalidSpec.pre enc Tryz.prog Tryz.f3 [] false b i/\laidMetH Tryz.prog Rows.searchInvalidRow.laid b)/\sizedMet enc Tryz.prog Tryz.f3 (OpenSpec.ofChange Rows.searchInvalidSpec) false b i)
  (Rows.searchInvalidSpec.post enc Tryz.prog Tryz.f3 false true false false):=by
 refine returnsInHanded_of_change_and (C:=Tryz.checked) (X:=λb _=>laidMetH Tryz.prog Rows.searchInvalidRow.laid b) (λ_ _ _ v d=>d.of_heap v) own K dz Tryz.func3
  (ChangeSpec.witness_shaped (enc:=enc) (C:=Tryz.checked) (os:=os) (X:=λb _=>laidMetH Tryz.prog Rows.searchInvalidRow.laid b) false (World.laidAll Tryz.prog os Rows.searchInvalidRow.laid)
    #[.agg #[.slice none 0 0,.slice none 0 0,.slice none 0 0,.int .u8 0,.int .u8 0],.agg #[.int .i64 0,.int .i64 0,.int .i64 0,.int .i64 0,.int .i64 0,.slice none 0 0]] 8 (World.laidAll_os _ _ _)
    (World.shaped_of_ZipB dz dz) dz dz dz
    (by rw[MakeChecks.laidMetH_plain _ _ _ dz];exact laidMet_laidAll _ dz dz)) ?_
 intro W Q i V al R y k _ z j _;have l:=k;obtain⟨o,q,s,t,rfl,_,_⟩:=k;obtain⟨rfl,rfl⟩:=trodVars_none t;rw[MakeChecks.laidMetH_plain _ _ _ dz]at j;have a:=s;rw[vY]at a;have⟨ap,f,F⟩:=Mb (.cons (Ux.struct gW OY rfl aeQ λ_=>rfl) (.cons (Ux.struct gW OX rfl aeO λ_=>rfl) (.nil))) a (λA L M p r=>y A L M (by rw[<-Array.getElem?_toList,vY];exact p) (by rw[<-Array.getElem?_toList];exact r)) (λh f=>by
  have:=List.all_eq_true.1 z h (by rw[cj,vY];exact f);simpa using this)
 obtain⟨_,_,rfl,⟨N,rfl,E⟩,G⟩:=F.inv;obtain⟨_,_,rfl,⟨O,rfl,an⟩,I⟩:=G.inv;obtain rfl:=I.zH;have x:=Vk (N,O) (Qo E);have w:∀h∈o,h.block<W.heap.size:=λh f=>l.lt h (by simpa using f);refine(Jb Tryz.func3 dz (c:=TI.W7 ⟨Tryz.f3,0,false,none⟩) dz x W (λg S d=>(VV W j).find d) f).mono λe P ⟨u,n⟩=>?_;subst u;have m:=Ma laidOut n stays a w;rw[<-vY]at m;obtain⟨_,_,T,Y,_,_,_,rfl,_,_,a⟩:=trodAll_cons a;obtain⟨_,_,U,ae,_,_,_,rfl,_,_,a⟩:=trodAll_cons a;obtain⟨_,rfl,_⟩:=trodAll_nil a;exact⟨_,rfl,_,_,_,[],o,[],l,trodAll_mk1 (shut_bool Tryz.underlying4 _),m,rfl,n.frame _,λd=>by cases d⟩
def wA:Rows.searchInvalidRow.holds Tryz.pinned (OpenSpec.ofChange Rows.searchInvalidSpec):=
 OpenClaim.holds_of_wide 3 Tryz.f3 rfl rfl rfl rfl rfl rfl rfl ⟨rfl,rfl,rfl,rfl,rfl⟩ rfl rfl rfl rfl rfl pX Tryz.func3 uM
  (of_decide_eq_true dz) (by unfold Func.isWrapper;first|(rw[aq (by decide+kernel)];kernel_rfl)|(rw[ao (by decide+kernel)];exact⟨rfl,rfl⟩))
  (λb c H a _=>uL b c H a)
theorem searchInvalid_card_holds:Rows.SearchInvalidCardSaid:=
 Claim7.holds_tied_plain_at .later [] [.data,.data,.data,.data,.sentinel,.sentinel,.data,.pinned] true (true,"e975a56edcbc2268a8e17d7c5f96900bc9fae82f87bc7463c3be052f0b8bcde6") true wA (λ_ a=>by cases a) zj (λ_ a=>by cases a) searchInvalid_row_tie rfl ⟨rfl,rfl⟩ xa rfl
  (λd e f g=>by
    obtain rfl:d=3:=Option.some.inj (pX.symm.trans f)|>.symm;obtain rfl:e=Tryz.f3:=(Option.some.inj (Tryz.func3.symm.trans g)).symm;refine⟨wz,λi c ht=>?_⟩;have h:c∈Tryz.f3.params.toList:=Array.mem_toList_iff.2 (Array.mem_of_getElem? ht);have b:=List.all_eq_true.1 ZF c h;simp only[bF]at b;exact b)
  xc
