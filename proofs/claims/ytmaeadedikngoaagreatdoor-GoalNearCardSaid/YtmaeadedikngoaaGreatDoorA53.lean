/- PROVED: the law interleave/interleavelaw20.GoalNear returns true for every input, and leaves its arguments and all that was there as it was: the row goalNearRow and its card (GoalNearCardSaid). goal.Valid recognizes exactly the goals that the document defines, also where the numbers of a goal are events of the window; for every window of a scene or of a program. Conditions: those of the given row alone (the listed package variables start as the text lays them). The texts W.. walk through the functions' own code, the texts Ti.. bear that out against the model. -/
import Derived.Test.YtmaeadedikngoaaGreatDoorA47
import Derived.Test.YtmaeadedikngoaaGreatDoorA50
import Derived.Test.YtmaeadedikngoaaGreatDoorA51
import Derived.Test.YtmaeadedikngoaaGreatDoorA52
set_option linter.all false
set_option maxRecDepth 100000
set_option maxHeartbeats 8000000
namespace Go.Proofs.YtmaeadedikngoaaGreatDoor
noncomputable section
open Go Go.TI Go.RowKit Go.ChangeShapes Go.WideShapes
def yy{b:Int}(a:Wf b):Pz b:=by
 unfold Wf IntKind.min IntKind.max IntKind.signed IntKind.bits at a;unfold Pz;simp at a;omega
def Iz{b:List Int}(a:Oh b):okB b:=⟨by have:=a.1;omega,λd c=>yy (a.2 d c)⟩
def Qm{b:mc}(a:Y0 b):PT b:=⟨Iz a.1,Iz a.2.1,Iz a.2.2.1,yy a.2.2.2.1,yy a.2.2.2.2⟩
def Yn:Tryz.f6.params.toList.all (λa=> !Tryz.prog.wantsStandIn a)=true:=dC
def vS:Tryz.f6.params.toList=[24,5,5,5,5,5,22]:=dC
def laidOut:laidOutB Tryz.prog=true:=dC
def stays:(([24,5,5,5,5,5,22]:List ab).all λa=>Tryz.prog.readableRec a&&decide (a<Tryz.prog.types.size))=true:=dC
def AB(os:Os)(U:os.Started)(H:Type)(enc:ab×am->H):
 ReturnsInHanded {} Tryz.checked os 6 .any (λb i=>(Rows.goalNearSpec.pre enc Tryz.prog Tryz.f6 [] false b i/\laidMetH Tryz.prog Rows.goalNearRow.laid b)/\sizedMet enc Tryz.prog Tryz.f6 (OpenSpec.ofChange Rows.goalNearSpec) false b i)
  (Rows.goalNearSpec.post enc Tryz.prog Tryz.f6 false true false false):=by
 refine returnsInHanded_of_change_and (C:=Tryz.checked) (X:=λb _=>laidMetH Tryz.prog Rows.goalNearRow.laid b) (λ_ _ _ v d=>d.of_heap v) own U dC Tryz.func6
  (ChangeSpec.witness_shaped (enc:=enc) (C:=Tryz.checked) (os:=os) (X:=λb _=>laidMetH Tryz.prog Rows.goalNearRow.laid b) false (World.laidAll Tryz.prog os Rows.goalNearRow.laid)
    #[.agg #[.slice none 0 0,.slice none 0 0,.slice none 0 0,.int .u8 0,.int .u8 0],.int .u8 0,.int .u8 0,.int .u8 0,.int .u8 0,.int .u8 0,.slice none 0 0] 8 (World.laidAll_os _ _ _)
    (World.shaped_of_ZipB dC dC) dC dC dC
    (by rw[MakeChecks.laidMetH_plain _ _ _ dC];exact laidMet_laidAll _ dC dC)) ?_
 intro W aN i bu b6 aX z k _ B j _;have l:=k;obtain⟨o,q,s,t,rfl,_,_⟩:=k;obtain⟨rfl,rfl⟩:=trodVars_none t;rw[MakeChecks.laidMetH_plain _ _ _ dC]at j;have a:=s;rw[vS]at a;obtain⟨b7,f,M⟩:=Ma (.cons (Js.struct ej OW rfl ab8 λ_=>rfl) (.cons (Js.one ej Aq dt SI) (.cons (Js.one ej Aq dt SI) (.cons (Js.one ej Aq dt SI) (.cons (Js.one ej Aq dt SI) (.cons (Js.one ej Aq dt SI) (.cons (Js.one ej OX dt Qz) (.nil)))))))) a (λD V Y p r=>z D V Y (by rw[<-Array.getElem?_toList,vS];exact p) (by rw[<-Array.getElem?_toList];exact r)) (λh f=>by
  have:=List.all_eq_true.1 B h (by rw[cg,vS];exact f);simpa using this)
 obtain⟨_,_,rfl,⟨Z,rfl,E⟩,N⟩:=M.inv;obtain⟨_,_,rfl,⟨ae,rfl,F⟩,O⟩:=N.inv;obtain⟨_,_,rfl,⟨al,rfl,G⟩,P⟩:=O.inv;obtain⟨_,_,rfl,⟨an,rfl,I⟩,Q⟩:=P.inv;obtain⟨_,_,rfl,⟨ap,rfl,J⟩,R⟩:=Q.inv;obtain⟨_,_,rfl,⟨av,rfl,K⟩,S⟩:=R.inv;obtain⟨_,_,rfl,⟨aA,rfl,L⟩,T⟩:=S.inv;obtain rfl:=T.Eq;have x:=Ut (Z,ae,al,an,ap,av,aA) ⟨Qm E,yy F,yy G,yy I,yy J,yy K,λy A=>yy (L.2 y A)⟩;have w:∀h∈o,h.block<W.heap.size:=λh f=>l.lt h (by simpa using f);refine(Je Tryz.func6 dC (c:=TI.VI ⟨Tryz.f6,0,false,none⟩) dC x W (λg a6 d=>(UX W j).find d) f).mono λe aE ⟨u,n⟩=> ?_;subst u;have m:=L9 laidOut n stays a w;rw[<-vS]at m;obtain⟨_,_,a7,bz,_,_,_,rfl,_,_,a⟩:=trodAll_cons a;obtain⟨_,_,a8,bB,_,_,_,rfl,_,_,a⟩:=trodAll_cons a;obtain⟨_,_,bi,bC,_,_,_,rfl,_,_,a⟩:=trodAll_cons a;obtain⟨_,_,bk,bH,_,_,_,rfl,_,_,a⟩:=trodAll_cons a;obtain⟨_,_,bl,bN,_,_,_,rfl,_,_,a⟩:=trodAll_cons a;obtain⟨_,_,bn,bS,_,_,_,rfl,_,_,a⟩:=trodAll_cons a;obtain⟨_,_,bs,bT,_,_,_,rfl,_,_,a⟩:=trodAll_cons a;obtain⟨_,rfl,_⟩:=trodAll_nil a;exact⟨_,rfl,_,_,_,[],o,[],l,trodAll_mk1 (shut_bool Tryz.underlying4 _),m,rfl,n.frame _,λd=>by cases d⟩
def B9:Rows.goalNearRow.holds Tryz.pinned (OpenSpec.ofChange Rows.goalNearSpec):=
 OpenClaim.holds_of_wide 6 Tryz.f6 rfl rfl rfl rfl rfl rfl rfl ⟨rfl,rfl,rfl,rfl,rfl⟩ rfl rfl rfl rfl rfl u9 Tryz.func6 AC
  (of_decide_eq_true dC) (by unfold Func.isWrapper;first|(rw[aq (by decide+kernel)];kernel_rfl)|(rw[ao (by decide+kernel)];exact⟨rfl,rfl⟩))
  (λb c H a _=>AB b c H a)
theorem goalNear_card_holds:Rows.GoalNearCardSaid:=
 Claim7.holds_tied_plain_at .later [] [.data,.data,.data,.data,.sentinel,.sentinel,.data,.pinned] true (true,"96e63c93249ac6efc5ef6cb6ded2ba7abf4f04f423059530b43eb10f2a7c5359") true B9 (λ_ a=>by cases a) GY (λ_ a=>by cases a) goalNear_row_tie rfl ⟨rfl,rfl⟩ C1 rfl
  (λd e f g=>by
    obtain rfl:d=6:=Option.some.inj (u9.symm.trans f)|>.symm;obtain rfl:e=Tryz.f6:=(Option.some.inj (Tryz.func6.symm.trans g)).symm;refine⟨B8,λi c ht=> ?_⟩;have h:c∈Tryz.f6.params.toList:=Array.mem_toList_iff.2 (Array.mem_of_getElem? ht);have b:=List.all_eq_true.1 Yn c h;simp only[bL]at b;exact b)
  C2
end
end Go.Proofs.YtmaeadedikngoaaGreatDoor
