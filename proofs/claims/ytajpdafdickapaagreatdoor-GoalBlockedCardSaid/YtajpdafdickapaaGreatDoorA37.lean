/- PROVED: the law interleave/interleavelaw20.GoalBlocked returns true for every input, and leaves its arguments and all that was there as it was: the row goalBlockedRow and its card (GoalBlockedCardSaid). Where, behind any reordering, two threads block each other, each just ahead of an event, these events are a valid deadlock goal that holds; for every window of a scene or of a program. Conditions: those of the given row alone (the listed package variables start as the text lays them). The texts W.. walk through the functions' own code, the texts Ti.. bear that out against the model. -/
import Derived.Test.YtajpdafdickapaaGreatDoorA31
import Derived.Test.YtajpdafdickapaaGreatDoorA34
import Derived.Test.YtajpdafdickapaaGreatDoorA35
import Derived.Test.YtajpdafdickapaaGreatDoorA36
set_option linter.all false
set_option maxRecDepth 100000
set_option maxHeartbeats 8000000
namespace Go.Proofs.YtajpdafdickapaaGreatDoor
noncomputable section
open Go Go.TI Go.RowKit Go.ChangeShapes Go.WideShapes
def Ms{b:Int}(a:YP b):Uj b:=by
 unfold YP IntKind.min IntKind.max IntKind.signed IntKind.bits at a;unfold Uj;simp at a;omega
def Kg{b:List Int}(a:QC b):okB b:=⟨by have:=a.1;omega,λd c=>Ms (a.2 d c)⟩
def Sv{b:mZ}(a:abj b):R4 b:=⟨Kg a.1,Kg a.2.1,Kg a.2.2.1,Ms a.2.2.2.1,Ms a.2.2.2.2⟩
def aaJ:Tryz.f4.params.toList.all (λa=> !Tryz.prog.wantsStandIn a)=true:=dG
def xj:Tryz.f4.params.toList=[24,22]:=dG
def laidOut:laidOutB Tryz.prog=true:=dG
def stays:(([24,22]:List ab).all λa=>Tryz.prog.readableRec a&&decide (a<Tryz.prog.types.size))=true:=dG
def yv(os:Os)(K:os.Started)(H:Type)(enc:ab×ao->H):
 ReturnsInHanded {} Tryz.checked os 4 .any (λb i=>(Rows.goalBlockedSpec.pre enc Tryz.prog Tryz.f4 [] false b i/\laidMetH Tryz.prog Rows.goalBlockedRow.laid b)/\sizedMet enc Tryz.prog Tryz.f4 (OpenSpec.ofChange Rows.goalBlockedSpec) false b i)
  (Rows.goalBlockedSpec.post enc Tryz.prog Tryz.f4 false true false false):=by
 refine returnsInHanded_of_change_and (C:=Tryz.checked) (X:=λb _=>laidMetH Tryz.prog Rows.goalBlockedRow.laid b) (λ_ _ _ v d=>d.of_heap v) own K dG Tryz.func4
  (ChangeSpec.witness_shaped (enc:=enc) (C:=Tryz.checked) (os:=os) (X:=λb _=>laidMetH Tryz.prog Rows.goalBlockedRow.laid b) false (World.laidAll Tryz.prog os Rows.goalBlockedRow.laid)
    #[.agg #[.slice none 0 0,.slice none 0 0,.slice none 0 0,.int .u8 0,.int .u8 0],.slice none 0 0] 8 (World.laidAll_os _ _ _)
    (World.shaped_of_ZipB dG dG) dG dG dG
    (by rw[MakeChecks.laidMetH_plain _ _ _ dG];exact laidMet_laidAll _ dG dG)) ?_
 intro W R i Y an S y k _ A j _;have l:=k;obtain⟨o,q,s,t,rfl,_,_⟩:=k;obtain⟨rfl,rfl⟩:=trodVars_none t;rw[MakeChecks.laidMetH_plain _ _ _ dG]at j;have a:=s;rw[xj]at a;have⟨ap,f,F⟩:=Oa (.cons (So.struct iE Rc rfl aey λ_=>rfl) (.cons (So.one iE Re dy SN) (.nil))) a (λB L M p r=>y B L M (by rw[<-Array.getElem?_toList,xj];exact p) (by rw[<-Array.getElem?_toList];exact r)) (λh f=>by
  have:=List.all_eq_true.1 A h (by rw[bQ,xj];exact f);simpa using this)
 obtain⟨_,_,rfl,⟨N,rfl,D⟩,G⟩:=F.inv;obtain⟨_,_,rfl,⟨O,rfl,E⟩,I⟩:=G.inv;obtain rfl:=I.Gx;have x:=WN (N,O) ⟨Sv D,λP z=>Ms (E.2 P z)⟩;have w:∀h∈o,h.block<W.heap.size:=λh f=>l.lt h (by simpa using f);refine(KV Tryz.func4 dG (c:=TI.Yh ⟨Tryz.f4,0,false,none⟩) dG x W (λg T d=>(Xr W j).find d) f).mono λe Q ⟨u,n⟩=>?_;subst u;have m:=N9 laidOut n stays a w;rw[<-xj]at m;obtain⟨_,_,U,ae,_,_,_,rfl,_,_,a⟩:=trodAll_cons a;obtain⟨_,_,V,al,_,_,_,rfl,_,_,a⟩:=trodAll_cons a;obtain⟨_,rfl,_⟩:=trodAll_nil a;exact⟨_,rfl,_,_,_,[],o,[],l,trodAll_mk1 (shut_bool Tryz.underlying4 _),m,rfl,n.frame _,λd=>by cases d⟩
def zH:Rows.goalBlockedRow.holds Tryz.pinned (OpenSpec.ofChange Rows.goalBlockedSpec):=
 OpenClaim.holds_of_wide 4 Tryz.f4 rfl rfl rfl rfl rfl rfl rfl ⟨rfl,rfl,rfl,rfl,rfl⟩ rfl rfl rfl rfl rfl tI Tryz.func4 yw
  (of_decide_eq_true dG) (by unfold Func.isWrapper;first|(rw[ar (by decide+kernel)];kernel_rfl)|(rw[aq (by decide+kernel)];exact⟨rfl,rfl⟩))
  (λb c H a _=>yv b c H a)
theorem goalBlocked_card_holds:Rows.GoalBlockedCardSaid:=
 Claim7.holds_tied_plain_at .later [] [.data,.data,.data,.data,.sentinel,.sentinel,.data,.pinned] true (true,"0ae23184089ae666cb7da79b8b2862ed35f15fa0fbc7b2123bc8527cf0069351") true zH (λ_ a=>by cases a) DZ (λ_ a=>by cases a) goalBlocked_row_tie rfl ⟨rfl,rfl⟩ AT rfl
  (λd e f g=>by
    obtain rfl:d=4:=Option.some.inj (tI.symm.trans f)|>.symm;obtain rfl:e=Tryz.f4:=(Option.some.inj (Tryz.func4.symm.trans g)).symm;refine⟨zG,λi c ht=>?_⟩;have h:c∈Tryz.f4.params.toList:=Array.mem_toList_iff.2 (Array.mem_of_getElem? ht);have b:=List.all_eq_true.1 aaJ c h;simp only[cg]at b;exact b)
  AU
