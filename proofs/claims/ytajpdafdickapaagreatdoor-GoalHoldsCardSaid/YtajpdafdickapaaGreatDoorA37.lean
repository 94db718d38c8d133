/- PROVED: the law interleave/interleavelaw20.GoalHolds returns true for every input, and leaves its arguments and all that was there as it was: the row goalHoldsRow and its card (GoalHoldsCardSaid). goal.Holds says of every goal of a window, behind any reordering, what the document says; for every window of a scene or of a program. Conditions: those of the given row alone (the listed package variables start as the text lays them). The texts W.. walk through the functions' own code, the texts Ti.. bear that out against the model. -/
import Derived.Test.YtajpdafdickapaaGreatDoorA31
import Derived.Test.YtajpdafdickapaaGreatDoorA34
import Derived.Test.YtajpdafdickapaaGreatDoorA35
import Derived.Test.YtajpdafdickapaaGreatDoorA36
set_option linter.all false
set_option maxRecDepth 100000
set_option maxHeartbeats 8000000
namespace Go.Proofs.YtajpdafdickapaaGreatDoor
noncomputable section
open Go Go.TI Go.RowKit Go.ChangeShapes Go.WideShapes
def M2{b:Int}(a:ZH b):Vd b:=by
 unfold ZH IntKind.min IntKind.max IntKind.signed IntKind.bits at a;unfold Vd;simp at a;omega
def KO{b:List Int}(a:Ri b):okB b:=⟨by have:=a.1;omega,λd c=>M2 (a.2 d c)⟩
def TF{b:ng}(a:ab6 b):Tb b:=⟨KO a.1,KO a.2.1,KO a.2.2.1,M2 a.2.2.2.1,M2 a.2.2.2.2⟩
def Pk{a:Int}(b:X0 a):0<=a/\a<65536:=by
 unfold X0 IntKind.min IntKind.max IntKind.signed IntKind.bits at b;simp at b;omega
def abv:Tryz.f3.params.toList.all (λa=> !Tryz.prog.wantsStandIn a)=true:=dG
def xv:Tryz.f3.params.toList=[24,22,25]:=dG
def laidOut:laidOutB Tryz.prog=true:=dG
def stays:(([24,22,25]:List ab).all λa=>Tryz.prog.readableRec a&&decide (a<Tryz.prog.types.size))=true:=dG
def Bb(os:Os)(M:os.Started)(H:Type)(enc:ab×am->H):
 ReturnsInHanded {} Tryz.checked os 3 .any (λb i=>(Rows.goalHoldsSpec.pre enc Tryz.prog Tryz.f3 [] false b i/\laidMetH Tryz.prog Rows.goalHoldsRow.laid b)/\sizedMet enc Tryz.prog Tryz.f3 (OpenSpec.ofChange Rows.goalHoldsSpec) false b i)
  (Rows.goalHoldsSpec.post enc Tryz.prog Tryz.f3 false true false false):=by
 refine returnsInHanded_of_change_and (C:=Tryz.checked) (X:=λb _=>laidMetH Tryz.prog Rows.goalHoldsRow.laid b) (λ_ _ _ w d=>d.of_heap w) own M dG Tryz.func3
  (ChangeSpec.witness_shaped (enc:=enc) (C:=Tryz.checked) (os:=os) (X:=λb _=>laidMetH Tryz.prog Rows.goalHoldsRow.laid b) false (World.laidAll Tryz.prog os Rows.goalHoldsRow.laid)
    #[.agg #[.slice none 0 0,.slice none 0 0,.slice none 0 0,.int .u8 0,.int .u8 0],.slice none 0 0,.int .u16 0] 8 (World.laidAll_os _ _ _)
    (World.shaped_of_ZipB dG dG) dG dG dG
    (by rw[MakeChecks.laidMetH_plain _ _ _ dG];exact laidMet_laidAll _ dG dG)) ?_
 intro W U i ap aN V z k _ B j _;have l:=k;obtain⟨p,q,t,u,rfl,_,_⟩:=k;obtain⟨rfl,rfl⟩:=trodVars_none u;rw[MakeChecks.laidMetH_plain _ _ _ dG]at j;have a:=t;rw[xv]at a;have⟨aX,f,G⟩:=OU (.cons (Tc.struct iB RY rfl afp λ_=>rfl) (.cons (Tc.one iB RZ dy TV) (.cons (Tc.one iB RX dy afo) (.nil)))) a (λD N O r s=>z D N O (by rw[<-Array.getElem?_toList,xv];exact r) (by rw[<-Array.getElem?_toList];exact s)) (λh f=>by
  have:=List.all_eq_true.1 B h (by rw[bP,xv];exact f);simpa using this)
 obtain⟨_,_,rfl,⟨P,rfl,E⟩,I⟩:=G.inv;obtain⟨_,_,rfl,⟨Q,rfl,F⟩,K⟩:=I.inv;obtain⟨_,_,rfl,⟨R,rfl,o⟩,L⟩:=K.inv;obtain rfl:=L.GS;have y:=XS (P,Q,R) ⟨TF E,λS A=>M2 (F.2 S A),(Pk o).1,(Pk o).2⟩;have x:∀h∈p,h.block<W.heap.size:=λh f=>l.lt h (by simpa using f);refine(Lv Tryz.func3 dG (c:=TI.Y9 ⟨Tryz.f3,0,false,none⟩) dG y W (λg Y d=>(Yo W j).find d) f).mono λe T ⟨v,n⟩=>?_;subst v;have m:=OT laidOut n stays a x;rw[<-xv]at m;obtain⟨_,_,ae,av,_,_,_,rfl,_,_,a⟩:=trodAll_cons a;obtain⟨_,_,al,aA,_,_,_,rfl,_,_,a⟩:=trodAll_cons a;obtain⟨_,_,an,aE,_,_,_,rfl,_,_,a⟩:=trodAll_cons a;obtain⟨_,rfl,_⟩:=trodAll_nil a;exact⟨_,rfl,_,_,_,[],p,[],l,trodAll_mk1 (shut_bool Tryz.underlying4 _),m,rfl,n.frame _,λd=>by cases d⟩
def B3:Rows.goalHoldsRow.holds Tryz.pinned (OpenSpec.ofChange Rows.goalHoldsSpec):=
 OpenClaim.holds_of_wide 3 Tryz.f3 rfl rfl rfl rfl rfl rfl rfl ⟨rfl,rfl,rfl,rfl,rfl⟩ rfl rfl rfl rfl rfl vM Tryz.func3 Bc
  (of_decide_eq_true dG) (by unfold Func.isWrapper;first|(rw[aq (by decide+kernel)];kernel_rfl)|(rw[ao (by decide+kernel)];exact⟨rfl,rfl⟩))
  (λb c H a _=>Bb b c H a)
theorem goalHolds_card_holds:Rows.GoalHoldsCardSaid:=
 Claim7.holds_tied_plain_at .later [] [.data,.data,.data,.data,.sentinel,.sentinel,.data,.pinned] true (true,"0ae23184089ae666cb7da79b8b2862ed35f15fa0fbc7b2123bc8527cf0069351") true B3 (λ_ a=>by cases a) Hh (λ_ a=>by cases a) goalHolds_row_tie rfl ⟨rfl,rfl⟩ DT rfl
  (λd e f g=>by
    obtain rfl:d=3:=Option.some.inj (vM.symm.trans f)|>.symm;obtain rfl:e=Tryz.f3:=(Option.some.inj (Tryz.func3.symm.trans g)).symm;refine⟨B2,λi c ht=>?_⟩;have h:c∈Tryz.f3.params.toList:=Array.mem_toList_iff.2 (Array.mem_of_getElem? ht);have b:=List.all_eq_true.1 abv c h;simp only[bK]at b;exact b)
  DU
