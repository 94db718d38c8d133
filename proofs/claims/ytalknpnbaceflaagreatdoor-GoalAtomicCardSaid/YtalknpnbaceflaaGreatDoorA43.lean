/- PROVED: the law interleave/interleavelaw20.GoalAtomic returns true for every input, and leaves its arguments and all that was there as it was: the row goalAtomicRow and its card (GoalAtomicCardSaid). Where a broken atomic block holds behind a reordering of a window, its thread is inside the block, and the accesses of the other thread lie behind the first one. Conditions: those of the given row alone (the listed package variables start as the text lays them). The texts W.. walk through the functions' ownAtomic code, the texts Ti.. bear that out against the model. -/
import Derived.Test.YtalknpnbaceflaaGreatDoorA41
import Derived.Test.YtalknpnbaceflaaGreatDoorA36
import Derived.Test.YtalknpnbaceflaaGreatDoorA42
import Derived.Test.YtalknpnbaceflaaGreatDoorA37
set_option linter.all false
set_option maxRecDepth 100000
set_option maxHeartbeats 0
namespace Go.Proofs.YtalknpnbaceflaaGreatDoor
noncomputable section
open Go Go.TI Go.RowKit Go.ChangeShapes Go.WideShapes
def vU{b:Int}(a:VT b):PT b:=by
 unfold VT IntKind.min IntKind.max IntKind.signed IntKind.bits at a;unfold PT;simp at a;omega
def xu{b:List Int}(a:Nc b):okB b:=⟨by have:=a.1;omega,λd c=>vU (a.2 d c)⟩
def G8{b:nT}(a:WZ b):IB b:=⟨xu a.1,xu a.2.1,xu a.2.2.1,vU a.2.2.2.1,vU a.2.2.2.2⟩
def Km:Tryz.f4.params.toList.all (λa=> !Tryz.prog.wantsStandIn a)=true:=dY
def pX:Tryz.f4.params.toList=[24,22]:=dY
def Hn:laidOutB Tryz.prog=true:=dY
def Kl:(([24,22]:List af).all λa=>Tryz.prog.readableRec a&&decide (a<Tryz.prog.types.size))=true:=dY
def B5(os:Os)(L:os.Started)(H:Type)(enc:af×aq->H):
 ReturnsInHanded {} Tryz.checked os 4 .any (λb i=>(uu.pre enc Tryz.prog Tryz.f4 [] false b i/\laidMetH Tryz.prog qn.laid b)/\sizedMet enc Tryz.prog Tryz.f4 (OpenSpec.ofChange uu) false b i)
  (uu.post enc Tryz.prog Tryz.f4 false true false false):=by
 refine returnsInHanded_of_change_and (C:=Tryz.checked) (X:=λb _=>laidMetH Tryz.prog qn.laid b) (λ_ _ _ v d=>d.of_heap v) QN L dY Tryz.func4
  (ChangeSpec.witness_shaped (enc:=enc) (C:=Tryz.checked) (os:=os) (X:=λb _=>laidMetH Tryz.prog qn.laid b) false (World.laidAll Tryz.prog os qn.laid)
    #[.agg #[.slice none 0 0,.slice none 0 0,.slice none 0 0,.int .u8 0,.int .u8 0],.slice none 0 0] 8 (World.laidAll_os _ _ _)
    (World.shaped_of_ZipB dY dY) dY dY dY
    (by rw[MakeChecks.laidMetH_plain _ _ _ dY];exact laidMet_laidAll _ dY dY)) ?_
 intro W S i ab an T y k _ A j _;have l:=k;obtain⟨o,q,s,t,rfl,_,_⟩:=k;obtain⟨rfl,rfl⟩:=trodVars_none t;rw[MakeChecks.laidMetH_plain _ _ _ dY]at j;have a:=s;rw[pX]at a;have⟨ap,f,I⟩:=Dl (.cons (P8.struct jl JB rfl dP λ_=>rfl) (.cons (P8.one jl JC G Qx) (.nil))) a (λD M N p r=>y D M N (by rw[<-dq,pX];exact p) (by rw[<-dq];exact r)) (λh f=>by
  have:=List.all_eq_true.1 A h (by rw[bG,pX];exact f);simpa using this)
 obtain⟨_,_,rfl,⟨O,rfl,E⟩,J⟩:=I.inv;obtain⟨_,_,rfl,⟨P,rfl,F⟩,K⟩:=J.inv;obtain rfl:=K.CV;have x:=WJ (O,P) ⟨G8 E,λQ z=>vU (F.2 Q z)⟩;have w:∀h∈o,h.block<W.heap.size:=λh f=>l.lt h (by simpa using f);refine(A4 Tryz.func4 dY (c:=TI.Oa ⟨Tryz.f4,0,false,none⟩) dY x W (λg U d=>(Jm W j).find d) f).mono λe R ⟨u,n⟩=>?_;subst u;have m:=Dk Hn n Kl a w;rw[<-pX]at m;obtain⟨_,_,V,ae,_,_,_,rfl,_,_,a⟩:=trodAll_cons a;obtain⟨_,_,Z,al,_,_,_,rfl,_,_,a⟩:=trodAll_cons a;obtain⟨_,rfl,_⟩:=trodAll_nil a;exact⟨_,rfl,_,_,_,[],o,[],l,trodAll_mk1 (shut_bool Tryz.underlying4 _),m,rfl,n.frame _,λd=>by cases d⟩
def Dd:qn.holds Tryz.pinned (OpenSpec.ofChange uu):=
 OpenClaim.holds_of_wide 4 Tryz.f4 rfl rfl rfl rfl rfl rfl rfl ⟨rfl,rfl,rfl,rfl,rfl⟩ rfl rfl rfl rfl rfl wV Tryz.func4 B6
  (dA dY) (by unfold Func.isWrapper;first|(rw[au (by decide+kernel)];kernel_rfl)|(rw[Z (by decide+kernel)];exact⟨rfl,rfl⟩))
  (λb c H a _=>B5 b c H a)
theorem goalAtomic_card_holds:Rows.GoalAtomicCardSaid:=
 Claim7.holds_tied_plain_at .later [] [.data,.data,.data,.data,.sentinel,.sentinel,.data,.pinned] true (true,"d5896529f5d7735db0de5a9dc02100719733a75c95f19923495dfbced31af927") true Dd (λ_ a=>by cases a) Hv (λ_ a=>by cases a) goalAtomic_row_tie rfl ⟨rfl,rfl⟩ D6 rfl
  (λd e f g=>by
    obtain rfl:d=4:=cO (wV.symm.trans f)|>.symm;obtain rfl:e=Tryz.f4:=(cO (Tryz.func4.symm.trans g)).symm;refine⟨Dc,λi c ht=>?_⟩;have h:c∈Tryz.f4.params.toList:=Array.mem_toList_iff.2 (Array.mem_of_getElem? ht);have b:=List.all_eq_true.1 Km c h;simp only[cq]at b;exact b)
  D7
