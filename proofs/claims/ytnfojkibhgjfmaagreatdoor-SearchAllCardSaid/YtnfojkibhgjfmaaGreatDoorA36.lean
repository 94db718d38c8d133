import Derived.Lay
import Derived.LaidOnce
import Derived.Test.YtnfojkibhgjfmaaGreatDoorCards
import Derived.Test.YtnfojkibhgjfmaaGreatDoorTie
import Derived.ProofKit
import Derived.SevenTiedAt
import Derived.Test.YtnfojkibhgjfmaaGreatDoorA26
import Derived.Test.YtnfojkibhgjfmaaGreatDoorA29
import Derived.Test.YtnfojkibhgjfmaaGreatDoorA30
set_option linter.all false
set_option maxRecDepth 100000
set_option maxHeartbeats 0
namespace Go.Proofs.YtnfojkibhgjfmaaGreatDoor
noncomputable section
open Go Go.TI Go.RowKit Go.ChangeShapes Go.WideShapes
abbrev v8:=Rows.searchAllRow
abbrev Aq:=Rows.searchAllSpec
def Dz:joinedFacts Tryz.prog 4 Tryz.f4 Aq v8=true:=by
 unfold joinedFacts
 iterate 31 rw [aC]
 repeat' refine And.intro ?_ ?_
 all_goals as_aux_lemma=>kernel_rfl
def JC:v8.wfByText (OpenSpec.ofChange Aq)=true:=dW
def F9:Tryz.prog.mainIs=some (true,"123fe17f4c54feb1ec8f9f095156e82fbebe2c534b061ac86814c5dae87b839a".toList):=dW
def E5:true=Tryz.prog.looks []:=dW
def Ga:false=v8.goesBy Tryz.prog:=dW
def yG:Tryz.prog.funcNamed "interleave/interleavelaw21.SearchAll" =some 4:=dW
def Qp:List (List UInt8):=[[118,97,114],[118,111,108,97,116,105,108,101],[109,117,116,101,120],[114,119,108,111,99,107],[99,111,110,100],[102,117,116,117,114,101],[116,104,114,101,97,100],[105,102],[101,108,115,101],[119,104,105,108,101],[108,111,99,107],[114,101,97,100],[119,114,105,116,101],[116,114,97,110,115,97,99,116,105,111,110],[97,116,111,109,105,99],[119,97,105,116],[110,111,116,105,102,121],[110,111,116,105,102,121,97,108,108],[115,112,97,119,110],[106,111,105,110],[115,101,116],[103,101,116]]
def OO(W:World)(a:laidMet Tryz.prog Rows.searchAllRow.laid W):gls.Xu λg cs=>iu W.heap pM (.kA cs) (.pointer (some ⟨g,0,none⟩)):=(.fw (.fw (.fw .nil (uS (P:=Tryz.prog) (w:=W) (name:= "internal/strconv.uint64pow10") (g:=0) (k:=20) (t:=355) (e:=286) (ki:= .u64) (zs:=kl0) (cs:=gl0) dW dW dW dW dW dW dW dW (Lib.laidMet.reads a (by simp[Rows.searchAllRow,kl0,Rows.laid_internal_strconv_uint64pow10]))) .nil) (CN (P:=Tryz.prog) (w:=W) (name:= "interleave/token.keywords") (g:=1) (k:=22) (t:=360) (e:=9) (ss:=Qp) (cs:=gl1) dW dW dW dW dW dW dW dW (Lib.laidMet.reads a (by simp[Rows.searchAllRow,Qp,Rows.laid_interleave_token_keywords]))) .nil) (uS (P:=Tryz.prog) (w:=W) (name:= "math/bits.deBruijn32tab") (g:=3) (k:=32) (t:=390) (e:=5) (ki:= .u8) (zs:=kl3) (cs:=gl3) dW dW dW dW dW dW dW dW (Lib.laidMet.reads a (by simp[Rows.searchAllRow,kl3,Rows.laid_math_bits_deBruijn32tab]))) (.fw .nil (uS (P:=Tryz.prog) (w:=W) (name:= "math/bits.deBruijn64tab") (g:=4) (k:=64) (t:=391) (e:=5) (ki:= .u8) (zs:=kl4) (cs:=gl4) dW dW dW dW dW dW dW dW (Lib.laidMet.reads a (by simp[Rows.searchAllRow,kl4,Rows.laid_math_bits_deBruijn64tab]))) .nil))
def X5:ownKnob Tryz.prog.godebug=none:=dW
end
noncomputable section
open Go Go.TI Proofs.Tryz
attribute [-simp] List.map_take List.map_drop List.map_append ij fU fH Bool.not_or Bool.not_and
section
attribute [-simp] size_cons
def OT(c:eJ)(b:iw):Bool:=match ui.jV.R (c,b)with
 | .tuple [_,.ej a]=>a
 |_=>false
def fdU{a:eJ}{g:iw}(c:FdP a g):∃f,∀{b:ik},b.p 8=D ui.jV->rl prog cx b 8 [a.t,g.t]=D (.tuple [f,.ej (OT a g)]):=by
 have d:=ui.2 (a,g) c;have e:=λ{b:ik} (ht:b.p 8=D ui.jV)=>(show rl prog cx b 8 [a.t,g.t]=D (ui.jV.R (a,g))from iF ht ui.1 (a,g) c);unfold OT
 change fdQ (a,g) (ui.jV.R (a,g))at d
 generalize ui.jV.R (a,g)=i at*
 rcases d with rfl|⟨h,rfl,_⟩;exact⟨_,e⟩;exact⟨_,e⟩
def YR{e:Type}(c:e->Bool)(a:List e){b:Nat}(f:b<a.length)(g:c a[b]):∃h:((a.take b).filter c).length<(a.filter c).length,(a.filter c)[((a.take b).filter c).length]=a[b]:=by
 have d:a.filter c=(a.take b).filter c++a[b]::(a.drop (b+1)).filter c:=by
  conv=>lhs;rw[<-da b a,aL f,List.filter_append,List.filter_cons_of_pos g]
 exact⟨by rw[d];simp,by simp[d]⟩
def Ua:iE:=⟨eJ,λa=>[a.t],λa=>kj a/\a.ei.length<=8,λa=>sl ((a.gx.pA.filter (OT a)).map iw.t),λc d b=>by simp at b;rw[eJ.inj b]⟩
def age:Ua.Ok prog cx 13:=by
 refine iz [(39,Bo),(8,ui.jV)] (js 2105007 [] func13) (λ_=>1000005) (by simp[Ua]) ?_;rintro(i:eJ) ⟨k,I⟩ e x;replace k:kj i:=k;simp[Ua]at x|-;have⟨O,E⟩:=Lg k;have B:=λ{M:ik} (ht:M.p 39=D Bo)=>adk ht i k;generalize i.gx.pA=a at*
 simp[f13,x,B];refine gW a.length G (λc e d=>∃n,(Gr d n 6 (((a.take c).filter (OT i)).map iw.t)/\iS 1 d/\d.get 0=D (dU 15 0 [i.t]))/\TI.Y e 1=D (dY 0)/\TI.Y e 3=D n/\TI.Y e 9=D (sl (a.map iw.t))/\TI.Y e 10=D (J a.length)/\TI.Y e 11=D (J c)) ?_ ?_ G ⟨dT,⟨Gr.nil _ _,⟨V,V,V⟩,V⟩,V⟩;rintro c e d o y ⟨n,⟨h,m,j⟩,q⟩;have⟨Q,v⟩:=fdU (g:=a[c]) ⟨k,I,E _ (aH o)⟩;have s:iS 0 d:=⟨m.hp,m.low,aB _⟩;have l:=(Nb.refl s).cons (dU 6 1 [a[c].t]);have w:=h.mono λA C=>by have⟨_,_,_,_,b,_⟩:=h.box C;exact l.get A (H.fN b)
 have r:(0=d.size)=False:=qN m.sz;have L:iS 0 (d.cons (dU 6 1 [a[c].t])):=⟨l.ok.hp,l.ok.low,aB _⟩;rw[aT o,List.filter_append];cases z:OT i a[c]with
 |false=>
  simp[q,o,j,v,z,y,s.low,r];exact⟨w,l.ok.hp,l.ok.low,by simp[size_cons]⟩
 |true=>
  have F:=List.length_filter_le (OT i) (a.take c);have⟨P,N,u,b⟩:=w.mR (cx:=cx) (f:=iw.t) L Ky rfl KB rfl V (λ_=>rfl) a[c] (by simp at F|-;omega);rw[size_cons]at u;simp[q,o,j,v,z,u,y,s.low,r];exact⟨b.1,⟨b.2.2.2.hp,b.2.2.2.low,by have:=b.2.2.2.sz;rw[size_cons]at this;omega⟩,(b.2.1 0 (by simp[size_cons]) λK=>by have⟨_,_,_,_,b,_⟩:=h.box K;rw[j]at b;simp at b).trans (by simp[j,r])⟩
 rintro e d ⟨n,⟨h,m,j⟩,q⟩;rw[aM]at h;simp[q,m.hp];rw[Kr n h.iW,h.qY V]
def T9:iE:=⟨oe,λa=>[a.t],λa=>H3 a,λ_=> .ej true,λ_ _ _=>rfl⟩
def ab0:T9.Ok prog cx 4:=by
 refine iz [(5,JY.jV),(13,Ua),(14,uG),(8,ui.jV),(15,Gh),(7,JO)] (js 281479272203007 [] func4) (λa=>1000005) (by simp[T9]) ?_;rintro(L:oe) (H:H3 L) f w;simp[T9]at w|-;have⟨c,n,P,C⟩:=PF (N:=6) H 6;have z:c.ei.length<=8:=G;have u:=λ{h:ik} (ht:h.p 13=D Ua)=>(show rl prog cx h 13 [c.t]=D (sl ((c.gx.pA.filter (OT c)).map iw.t))from iF ht age c ⟨n,z⟩);have B:=λ{h:ik} (ht:h.p 14=D uG)=>Zp ht c n;have⟨O,E⟩:=Lg n;generalize c.gx.pA=d at*
 have⟨l,m⟩:∃l,l=d.filter (OT c):=⟨_,rfl⟩;have M:l.length<=d.length:=m▸List.length_filter_le _ _;rw[<-m]at u;simp[f4,w,C,u,B];refine gW d.length G (λe f q=>(iS 2 q/\q.get 1=D (dU 15 1 [c.t]))/\TI.Y f 3=D (dY 1)/\TI.Y f 4=D (sl (l.map iw.t))/\TI.Y f 5=D (sl (d.map iw.t))/\TI.Y f 6=D (J ((d.take e).filter (OT c)).length)/\TI.Y f 7=D (J e)) ?_ ?_ G ⟨⟨⟨V,by simp[size_cons],by simp[size_cons]⟩,by simp[size_cons]⟩,V⟩;rintro e f q i x ⟨⟨o,r⟩,j⟩;have y:=E _ (aH i);have⟨Q,v⟩:=fdU (g:=d[e]) ⟨n,z,y⟩;have F:((d.take (e+1)).filter (OT c)).length=((d.take e).filter (OT c)).length+([d[e]].filter (OT c)).length:=by rw[aT i,List.filter_append,aY]
 have k:=YR (OT c) d i;rw[<-m]at k;simp[F];generalize((d.take e).filter (OT c)).length=I at*
 cases s:OT c d[e]with
 |false=>simp[j,i,r,v,s,x,o]
 |true=>
  have⟨k,K⟩:=k s;have A:∀{h:ik},h.p 15=D Gh->rl prog cx h 15 [d[e].t,d[e].t]=D (.ej true):=λht=>iF ht Yd d[e] y;simp[j,i,r,v,s,x,o,k,Nat.not_le.2 k,K,A,jf (a:=I) (b:=1) G G]
 rintro f q ⟨⟨o,r⟩,j⟩;rw[aM,<-m]at j;simp[j,KN,o.hp]
end
end
noncomputable section
open Go Go.TI Go.RowKit Go.ChangeShapes Go.WideShapes
def Em{b:Int}(a:ok5 b):byV b:=by unfold ok5 IntKind.min IntKind.max IntKind.signed IntKind.bits at a;unfold byV;simp at a;omega
def BB{b:List Int}(a:Su b):okB b:=⟨by have:=a.1;omega,λd c=>Em (a.2 d c)⟩
def K5{b:oe}(a:acd b):H3 b:=⟨BB a.1,BB a.2.1,BB a.2.2.1,Em a.2.2.2.1,Em a.2.2.2.2⟩
def Rw:Tryz.f4.params.toList.all (λa=> !Tryz.prog.wantsStandIn a)=true:=dW
def sU:Tryz.f4.params.toList=[24]:=dW
def Mg:laidOutB Tryz.prog=true:=dW
def Rv:(([24]:List ab).all λa=>Tryz.prog.readableRec a&&decide (a<Tryz.prog.types.size))=true:=dW
def Dy(os:Os)(B:os.Started)(H:Type)(enc:ab×am->H):
 ReturnsInHanded {} Tryz.checked os 4 .any (λa g=>(Aq.pre enc Tryz.prog Tryz.f4 [] false a g/\laidMetH Tryz.prog v8.laid a)/\sizedMet enc Tryz.prog Tryz.f4 (OpenSpec.ofChange Aq) false a g)
  (Aq.post enc Tryz.prog Tryz.f4 false true false false):=by
 refine returnsInHanded_of_change_and (C:=Tryz.checked) (X:=λa _=>laidMetH Tryz.prog v8.laid a) (λ_ _ _ s d=>d.of_heap s) X5 B dW Tryz.func4
  (ChangeSpec.witness_shaped (enc:=enc) (C:=Tryz.checked) (os:=os) (X:=λa _=>laidMetH Tryz.prog v8.laid a) false (World.laidAll Tryz.prog os v8.laid)
    #[.agg #[.slice none 0 0,.slice none 0 0,.slice none 0 0,.int .u8 0,.int .u8 0]] 8 (World.laidAll_os _ _ _)
    (World.shaped_of_ZipB dW dW) dW dW dW
    (by rw[MakeChecks.laidMetH_plain _ _ _ dW];exact laidMet_laidAll _ dW dW)) ?_
 intro W L g P T M v i _ w h _;have j:=i;obtain⟨m,U,p,q,rfl,_,_⟩:=i;obtain⟨rfl,rfl⟩:=trodVars_none q;rw[MakeChecks.laidMetH_plain _ _ _ dW]at h;have b:=p;rw[sU]at b;have⟨Y,e,z⟩:=Js (.cons (Xf.struct iX Pa rfl afF λ_=>rfl) (.nil)) b (λx E F n o=>v x E F (by rw[<-dL,sU];exact n) (by rw[<-dL];exact o)) (λf e=>by
  have:=List.all_eq_true.1 w f (by rw[bJ,sU];exact e);simpa using this)
 obtain⟨_,_,rfl,⟨I,rfl,y⟩,A⟩:=z.inv;obtain rfl:=A.GV;have u:=ab0 I (K5 y);have t:∀f∈m,f.block<W.heap.size:=λf e=>j.lt f (by simpa using e);refine(HL Tryz.func4 dW (c:=TI.WL ⟨Tryz.f4,0,false,none⟩) dW u W (λS N d=>(OO W h).find d) e).mono λR K ⟨r,l⟩=>?_;subst r;have k:=Jr Mg l Rv b t;rw[<-sU]at k;obtain⟨_,_,O,Q,_,_,_,rfl,_,_,b⟩:=trodAll_cons b;obtain⟨_,rfl,_⟩:=trodAll_nil b;exact⟨_,rfl,_,_,_,[],m,[],j,trodAll_mk1 (shut_bool Tryz.underlying4 _),k,rfl,l.frame _,λd=>by cases d⟩
def E6:v8.holds Tryz.pinned (OpenSpec.ofChange Aq):=
 OpenClaim.holds_of_wide 4 Tryz.f4 rfl rfl rfl rfl rfl rfl rfl ⟨rfl,rfl,rfl,rfl,rfl⟩ rfl rfl rfl rfl rfl yG Tryz.func4 Dz
  (of_decide_eq_true dW) (by unfold Func.isWrapper;first|(rw[ax (by decide+kernel)];kernel_rfl)|(rw[aw (by decide+kernel)];exact⟨rfl,rfl⟩))
  (λb c H a _=>Dy b c H a)
theorem searchAll_card_holds:Rows.SearchAllCardSaid:=
 Claim7.holds_tied_plain_at .later [] [.data,.data,.data,.data,.sentinel,.sentinel,.data,.pinned] true (true,"123fe17f4c54feb1ec8f9f095156e82fbebe2c534b061ac86814c5dae87b839a") true E6 (λ_ a=>by cases a) JC (λ_ a=>by cases a) searchAll_row_tie rfl ⟨rfl,rfl⟩ F9 rfl
  (λd e f g=>by
    obtain rfl:d=4:=dp (yG.symm.trans f)|>.symm;obtain rfl:e=Tryz.f4:=(dp (Tryz.func4.symm.trans g)).symm;refine⟨E5,λi c ht=>?_⟩;have h:c∈Tryz.f4.params.toList:=Array.mem_toList_iff.2 (Array.mem_of_getElem? ht);have b:=List.all_eq_true.1 Rw c h;simp only[cK]at b;exact b)
  Ga
