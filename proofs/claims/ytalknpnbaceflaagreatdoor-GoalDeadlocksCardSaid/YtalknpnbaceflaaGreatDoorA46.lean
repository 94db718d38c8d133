/- PROVED: the law interleave/interleavelaw20.GoalDeadlocks returns true for every input, and leaves its arguments and all that was there as it was: the row goalDeadlocksRow and its card (GoalDeadlocksCardSaid). Where a deadlock holds behind a reordering of a window, none of its threads can go on, and each one is blocked by the thread of the next one. Conditions: those of the given row alone (the listed package variables start as the text lays them). The texts W.. walk through the functions' ownDeadlocks code, the texts Ti.. bear that out against the model. -/
import Derived.Test.YtalknpnbaceflaaGreatDoorA44
import Derived.Test.YtalknpnbaceflaaGreatDoorA36
import Derived.Test.YtalknpnbaceflaaGreatDoorA45
import Derived.Test.YtalknpnbaceflaaGreatDoorA37
set_option linter.all false
set_option maxRecDepth 100000
set_option maxHeartbeats 0
namespace Go.Proofs.YtalknpnbaceflaaGreatDoor
noncomputable section
open Go Go.TI Go.RowKit Go.ChangeShapes Go.WideShapes
def qU{b:Int}(a:VT b):PT b:=by
 unfold VT IntKind.min IntKind.max IntKind.signed IntKind.bits at a;unfold PT;simp at a;omega
def tN{b:List Int}(a:Nc b):okB b:=⟨by have:=a.1;omega,λd c=>qU (a.2 d c)⟩
def CB{b:nT}(a:WZ b):IB b:=⟨tN a.1,tN a.2.1,tN a.2.2.1,qU a.2.2.2.1,qU a.2.2.2.2⟩
def ET:Tryz.f5.params.toList.all (λa=> !Tryz.prog.wantsStandIn a)=true:=dY
def nY:Tryz.f5.params.toList=[24,22]:=dY
def CW:laidOutB Tryz.prog=true:=dY
def EQ:(([24,22]:List af).all λa=>Tryz.prog.readableRec a&&decide (a<Tryz.prog.types.size))=true:=dY
def yR(os:Os)(L:os.Started)(H:Type)(enc:af×aq->H):
 ReturnsInHanded {} Tryz.checked os 5 .any (λb i=>(ph.pre enc Tryz.prog Tryz.f5 [] false b i/\laidMetH Tryz.prog mT.laid b)/\sizedMet enc Tryz.prog Tryz.f5 (OpenSpec.ofChange ph) false b i)
  (ph.post enc Tryz.prog Tryz.f5 false true false false):=by
 refine returnsInHanded_of_change_and (C:=Tryz.checked) (X:=λb _=>laidMetH Tryz.prog mT.laid b) (λ_ _ _ v d=>d.of_heap v) IW L dY Tryz.func5
  (ChangeSpec.witness_shaped (enc:=enc) (C:=Tryz.checked) (os:=os) (X:=λb _=>laidMetH Tryz.prog mT.laid b) false (World.laidAll Tryz.prog os mT.laid)
    #[.agg #[.slice none 0 0,.slice none 0 0,.slice none 0 0,.int .u8 0,.int .u8 0],.slice none 0 0] 8 (World.laidAll_os _ _ _)
    (World.shaped_of_ZipB dY dY) dY dY dY
    (by rw[MakeChecks.laidMetH_plain _ _ _ dY];exact laidMet_laidAll _ dY dY)) ?_
 intro W S i ab an T y k _ A j _;have l:=k;obtain⟨o,q,s,t,rfl,_,_⟩:=k;obtain⟨rfl,rfl⟩:=trodVars_none t;rw[MakeChecks.laidMetH_plain _ _ _ dY]at j;have a:=s;rw[nY]at a;have⟨ap,f,I⟩:=Dl (.cons (P8.struct jl JB rfl dP λ_=>rfl) (.cons (P8.one jl JC G Qx) (.nil))) a (λD M N p r=>y D M N (by rw[<-dq,nY];exact p) (by rw[<-dq];exact r)) (λh f=>by
  have:=List.all_eq_true.1 A h (by rw[bG,nY];exact f);simpa using this)
 obtain⟨_,_,rfl,⟨O,rfl,E⟩,J⟩:=I.inv;obtain⟨_,_,rfl,⟨P,rfl,F⟩,K⟩:=J.inv;obtain rfl:=K.CV;have x:=WI (O,P) ⟨CB E,λQ z=>qU (F.2 Q z)⟩;have w:∀h∈o,h.block<W.heap.size:=λh f=>l.lt h (by simpa using f);refine(A4 Tryz.func5 dY (c:=TI.Oa ⟨Tryz.f5,0,false,none⟩) dY x W (λg U d=>(D8 W j).find d) f).mono λe R ⟨u,n⟩=>?_;subst u;have m:=Dk CW n EQ a w;rw[<-nY]at m;obtain⟨_,_,V,ae,_,_,_,rfl,_,_,a⟩:=trodAll_cons a;obtain⟨_,_,Z,al,_,_,_,rfl,_,_,a⟩:=trodAll_cons a;obtain⟨_,rfl,_⟩:=trodAll_nil a;exact⟨_,rfl,_,_,_,[],o,[],l,trodAll_mk1 (shut_bool Tryz.underlying4 _),m,rfl,n.frame _,λd=>by cases d⟩
def Ad:mT.holds Tryz.pinned (OpenSpec.ofChange ph):=
 OpenClaim.holds_of_wide 5 Tryz.f5 rfl rfl rfl rfl rfl rfl rfl ⟨rfl,rfl,rfl,rfl,rfl⟩ rfl rfl rfl rfl rfl t7 Tryz.func5 yS
  (dA dY) (by unfold Func.isWrapper;first|(rw[au (by decide+kernel)];kernel_rfl)|(rw[Z (by decide+kernel)];exact⟨rfl,rfl⟩))
  (λb c H a _=>yR b c H a)
theorem goalDeadlocks_card_holds:Rows.GoalDeadlocksCardSaid:=
 Claim7.holds_tied_plain_at .later [] [.data,.data,.data,.data,.sentinel,.sentinel,.data,.pinned] true (true,"d5896529f5d7735db0de5a9dc02100719733a75c95f19923495dfbced31af927") true Ad (λ_ a=>by cases a) Db (λ_ a=>by cases a) goalDeadlocks_row_tie rfl ⟨rfl,rfl⟩ AU rfl
  (λd e f g=>by
    obtain rfl:d=5:=cO (t7.symm.trans f)|>.symm;obtain rfl:e=Tryz.f5:=(cO (Tryz.func5.symm.trans g)).symm;refine⟨Ab,λi c ht=>?_⟩;have h:c∈Tryz.f5.params.toList:=Array.mem_toList_iff.2 (Array.mem_of_getElem? ht);have b:=List.all_eq_true.1 ET c h;simp only[cq]at b;exact b)
  AV
