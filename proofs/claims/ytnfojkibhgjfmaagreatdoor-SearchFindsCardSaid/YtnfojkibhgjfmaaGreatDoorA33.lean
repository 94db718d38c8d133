import Derived.Lay
import Derived.LaidOnce
import Derived.Test.YtnfojkibhgjfmaaGreatDoorCards
import Derived.Test.YtnfojkibhgjfmaaGreatDoorTie
import Derived.ProofKit
import Derived.SevenTiedAt
import Derived.Test.YtnfojkibhgjfmaaGreatDoorA26
import Derived.Test.YtnfojkibhgjfmaaGreatDoorA29
import Derived.Test.YtnfojkibhgjfmaaGreatDoorA30
set_option linter.all false
set_option maxRecDepth 100000
set_option maxHeartbeats 0
namespace Go.Proofs.YtnfojkibhgjfmaaGreatDoor
noncomputable section
open Go Go.TI Go.RowKit Go.ChangeShapes Go.WideShapes
abbrev tz:=Rows.searchFindsRow
abbrev wZ:=Rows.searchFindsSpec
def Bl:joinedFacts Tryz.prog 3 Tryz.f3 wZ tz=true:=by
 unfold joinedFacts
 iterate 31 rw [aC]
 repeat' refine And.intro ?_ ?_
 all_goals as_aux_lemma=>kernel_rfl
def F8:tz.wfByText (OpenSpec.ofChange wZ)=true:=dW
def Dw:Tryz.prog.mainIs=some (true,"123fe17f4c54feb1ec8f9f095156e82fbebe2c534b061ac86814c5dae87b839a".toList):=dW
def B8:true=Tryz.prog.looks []:=dW
def Dx:false=tz.goesBy Tryz.prog:=dW
def v7:Tryz.prog.funcNamed "interleave/interleavelaw21.SearchFinds" =some 3:=dW
def Mh:List (List UInt8):=[[118,97,114],[118,111,108,97,116,105,108,101],[109,117,116,101,120],[114,119,108,111,99,107],[99,111,110,100],[102,117,116,117,114,101],[116,104,114,101,97,100],[105,102],[101,108,115,101],[119,104,105,108,101],[108,111,99,107],[114,101,97,100],[119,114,105,116,101],[116,114,97,110,115,97,99,116,105,111,110],[97,116,111,109,105,99],[119,97,105,116],[110,111,116,105,102,121],[110,111,116,105,102,121,97,108,108],[115,112,97,119,110],[106,111,105,110],[115,101,116],[103,101,116]]
def Mz(W:World)(a:laidMet Tryz.prog Rows.searchFindsRow.laid W):gls.Xu λg cs=>iu W.heap pM (.kA cs) (.pointer (some ⟨g,0,none⟩)):=(.fw (.fw (.fw .nil (uS (P:=Tryz.prog) (w:=W) (name:= "internal/strconv.uint64pow10") (g:=0) (k:=20) (t:=355) (e:=286) (ki:= .u64) (zs:=kl0) (cs:=gl0) dW dW dW dW dW dW dW dW (Lib.laidMet.reads a (by simp[Rows.searchFindsRow,kl0,Rows.laid_internal_strconv_uint64pow10]))) .nil) (CN (P:=Tryz.prog) (w:=W) (name:= "interleave/token.keywords") (g:=1) (k:=22) (t:=360) (e:=9) (ss:=Mh) (cs:=gl1) dW dW dW dW dW dW dW dW (Lib.laidMet.reads a (by simp[Rows.searchFindsRow,Mh,Rows.laid_interleave_token_keywords]))) .nil) (uS (P:=Tryz.prog) (w:=W) (name:= "math/bits.deBruijn32tab") (g:=3) (k:=32) (t:=390) (e:=5) (ki:= .u8) (zs:=kl3) (cs:=gl3) dW dW dW dW dW dW dW dW (Lib.laidMet.reads a (by simp[Rows.searchFindsRow,kl3,Rows.laid_math_bits_deBruijn32tab]))) (.fw .nil (uS (P:=Tryz.prog) (w:=W) (name:= "math/bits.deBruijn64tab") (g:=4) (k:=64) (t:=391) (e:=5) (ki:= .u8) (zs:=kl4) (cs:=gl4) dW dW dW dW dW dW dW dW (Lib.laidMet.reads a (by simp[Rows.searchFindsRow,kl4,Rows.laid_math_bits_deBruijn64tab]))) .nil))
def UC:ownKnob Tryz.prog.godebug=none:=dW
end
noncomputable section
open Go Go.TI Proofs.Tryz
attribute [-simp] List.map_take List.map_drop List.map_append ij fU fH Bool.not_or Bool.not_and
section
attribute [-simp] size_cons
def JV(a:eJ×Int):iw×Bool:=match a.1.gx.oH[(a.2% (a.1.gx.oH.length:Int)).toNat]? with
 |none=>(⟨0,0,0,0,0,[]⟩,false)
 |some b=>(b,true)
def Lq:iE:=⟨eJ×Int,λa=>[a.1.t,.int .u16 a.2],λa=>kj a.1/\0<=a.2/\a.2<65536,λa=> .tuple [(JV a).1.t,.ej (JV a).2],λa c b=>by simp at b;rw[show a=c from aG (eJ.inj b.1) b.2]⟩
def abV:Lq.Ok prog cx 6:=by
 refine iz [(14,uG)] (js 2167 [] func6) (λ_=>1) (by simp[Lq]) ?_;rintro⟨d,b⟩ ⟨f,g,k⟩ r i
 dsimp at f g k
 simp[Lq]at i|-;have l:∀{h:ik},h.p 14=D uG->rl prog cx h 14 [d.t]=D (sl (d.gx.oH.map iw.t)):=λht=>iF ht LJ d f;unfold JV;simp only;generalize d.gx.oH=a at*
 simp[*,f6];refine fG (λc=>?_) (λc=>?_);simp at c;subst c;simp[iw.t,iw.cs];have n:0<a.length:=List.length_pos_iff.2 (iD c);have j:=Int.emod_nonneg b (show(a.length:Int)≠0 by omega);have q:=Int.emod_lt_of_pos b (show(0:Int)<a.length by omega);have⟨e,o⟩:∃e,a[(b% (a.length:Int)).toNat]? =D e:=⟨_,aF G⟩;have m:b.tmod (a.length:Int)=b% (a.length:Int):=Int.tmod_eq_emod_of_nonneg g;simp[*,show-9223372036854775808<=b by omega,show b<9223372036854775808 by omega,Gf (show¬(a.length:Int)=0 by omega),fO j]
def ahs{c:ik}(ht:c.p 6=D Lq)(b:eJ)(a:Int)(d:kj b)(e:0<=a)(f:a<65536):rl prog cx c 6 [b.t,.int .u16 a]=D (.tuple [(JV (b,a)).1.t,.ej (JV (b,a)).2]):=iF ht abV (b,a) ⟨d,e,f⟩
def N7{w:eJ}{k:Int}(a:(JV (w,k)).2):w.gx.vR (JV (w,k)).1=true:=by
 unfold JV at*
 split at a;simp at a;rename_i c b;exact GX.G7 (aD b)
def DB{b:eJ}{c:fK}{a:Int}(d:jx a b.ei.length):xW b c a=rj b c a:=by unfold xW;rw[d];rfl
def Lo{b:eJ}{c:fK}{d:iw}(e:b.gx.vR d):pw b c d=At b c d:=by
 have h:∀a:Int,decide (a∈c.order)=decide (0<=place c a):=λa=>by unfold place;simp[Bw]
 unfold pw At;rcases ZR e with⟨k,j⟩|⟨k,i,g,m,n⟩
 rw[aw G,ax k,aw G,ax k];have:∀a∈d.jo,Jh b c a=wQ b c a:=λa l=>by
  unfold Jh wQ vj;rw[show jx a b.ei.length=true from j a l];cases decide (jG b c (mP b.ei a).eG=a)<;>simp
 show d.jo.all (Jh b c)=d.jo.all (wQ b c);rw[bI,cF,cF];exact⟨λe a f=>this a f▸e a f,λe a f=>(this a f).symm▸e a f⟩;rcases k with k|k|k;rw[ax k,ax k,DB i,DB g];rw[aw G,aw G,ax k,aw G,aw G,ax k,h];rw[aw G,aw G,aw G,ax k,aw G,aw G,aw G,DB g,h]
def yC.at{a:eJ}{h:iw}{b:List io}(e:kj a)(f:yC a h b):∀i,i<=b.length->yS (1000+i) a (y9 a (b.take i))/\OdO a (y9 a (b.take i)) i
 |0,_=>⟨yS.start e,⟨by simp[y9,ls],by simp[y9,ls],rfl⟩⟩
 |i+1,d=>by
  have⟨g,j⟩:=yC.at e f i G;have c:=(f i b[i] (aF d)).1;rw[aT d,Dt];exact⟨(g.step _ c).up G,j.step c⟩
def K3{w:eJ}{c:fK}(a:uq w c)(t:Int):(oh w c t).length<=1000:=by unfold oh;split;rename_i b;have:=a.l (pZ (qP (w:=w) (c:=c) (t:=t) G));have:=B4 (mP w.ei (jG w c t)).obj c.gH.d8 0;omega;simp
def T8:iE:=⟨oe×Int,λa=>[a.1.t,.int .u16 a.2],λa=>H3 a.1/\0<=a.2/\a.2<65536,λ_=> .ej true,λ_ _ _=>rfl⟩
def abZ:T8.Ok prog cx 3:=by
 refine iz [(5,JY.jV),(6,Lq),(8,ui.jV),(9,zk),(10,DD),(11,Ax),(12,xh),(7,JO)] (js 316912650059363334155304828919 [(18,[(6,10)])] func3) (λa=>2000) (by simp[T8]) ?_;rintro⟨v,k⟩ ⟨an,ap,av⟩ d U
 dsimp at an ap av
 simp[T8]at U|-;have⟨w,r,bN,bp⟩:=PF (N:=8) an 8;have bS:=N7 (w:=w) (k:=k);simp[f3,U,bp,ahs,r,ap,av];generalize JV (w,k)=bW at*
 obtain⟨y,aX⟩:=bW;cases aX with
 |false=>simp[KN]
 |true=>
 have E:=bS rfl
 dsimp at E
 have bZ:=TC E;have⟨_,hr,Q⟩:=ui.use (w,y) ⟨r,bN,dQ⟩;have R:=λ{l:ik} (ht:l.p 12=D xh) {g:fK} (bA:uq w g)=>(show rl prog cx l 12 [w.t,g.t,y.t]=D (.ej (A6 w g y))from by rw[Wy ht w g y bA G];unfold A6;rw[E,Lo E,Bool.and_true,bj]);rcases hr with rfl|⟨c,rfl,L,bC⟩
 simp[Q,KN];have b6:=(L.at r c.length (az _)).2.le;have K:∀e,e<=c.length->uq w (y9 w (c.take e)):=λe bH=>⟨r,(L.at r e bH).1.up G⟩;have b7:=K 0 G;have ae:=K c.length G;rw[aM]at ae;have C:chT c=sl (c.map io.t)\/chT c= .jb/\c=[]:=by unfold chT;split<;>simp_all
 simp[Q,Wl,r];generalize chT c=O at*
 refine gW c.length G (λe d m=>(iS 4 m/\m.get 1=D (dU 15 1 [w.t])/\m.get 2=D (dU 6 1 [y.t])/\∃M,m.get 3=D (dU 9 M [(y9 w (c.take e)).t]))/\TI.Y d 5=D (dY 1)/\TI.Y d 6=D (dY 2)/\TI.Y d 8=D O/\TI.Y d 10=D (dY 3)/\TI.Y d 11=D (J e)) ?_ ?_ G ?_;rintro e d m o bs ⟨⟨A,s,B,M,u⟩,i⟩;obtain rfl:O=sl (c.map io.t):=by rcases C with C|⟨_,rfl⟩;exact C;simp at o
 have F:=K e G;have⟨a7,a8,bi⟩:=L e c[e] (aF o);have al:=Dt w (c.take e) c[e];rw[<-aT o]at al;generalize y9 w (c.take e)=g at*
 generalize I:c[e]=f at*
 have bn:=λ{l:ik} (ht:l.p 10=D DD)=>adg ht w g f.eG F;have bX:=K3 F f.eG;generalize oh w g f.eG=W at*
 have S:=λ{l:ik} (ht:l.p 11=D Ax)=>(show rl prog cx l 11 [w.t,g.t,f.t]=D (.tuple [(kf w g f).1.t,.ej true])from(iF ht UL (w,g,f) F).trans (by show some (T.tuple [(kf w g f).1.t,.ej (kf w g f).2])=_;rw[show(kf w g f).2=true from by unfold kf;rw[ax a7]]));rw[<-al]at S;generalize y9 w (c.take (e+1))=P at*
 simp[i,o,I,s,u,bn];refine gW W.length G (λj d n=>n=m/\TI.Y d 13=D (.ej (decide (f.qW∈W.take j)))/\TI.Y d 12=D (sl (iy W))/\TI.Y d 14=D (J j)/\TI.Y d 5=D (dY 1)/\TI.Y d 6=D (dY 2)/\TI.Y d 8=D (sl (c.map io.t))/\TI.Y d 10=D (dY 3)/\TI.Y d 11=D (J e)) ?_ ?_ G (by simp[i]);rintro j d n X bu ⟨rfl,z,i⟩;have Z:decide (f.qW∈W.take (j+1))=(decide (f.qW∈W.take j)||decide (W[j]=f.qW)):=by rw[aT X,bI];simp only[aO,cj,List.mem_append,List.mem_singleton,eq_comm (a:=W[j])]
 cases q:decide (f.qW∈W.take j)<;>rw[q]at z Z<;>simp[z,i,X,bu,o,I,Z];rintro d n ⟨rfl,z,i⟩;rw[aM,bh a8]at z;have b8:=A.sz;have aA:(1=n.size)=False:=dP;have aE:(2=n.size)=False:=dP;have bT:(3=n.size)=False:=dP;have aN:=A.cons (dU 9 1 [P.t]);have H:=λx=>nT (b:=3) (h:=n.cons (dU 9 1 [P.t])) aN.hp (by rw[size_cons];omega) x;simp[z,i,o,I,s,B,u,S,R,F,bi,bs,A.low,aA,aE,bT];exact⟨aN.put _ _,by simp[H,aA,s],by simp[H,aE,B],_,(H _ 3).trans (ax rfl)⟩;rintro d m ⟨⟨A,s,B,M,u⟩,i⟩;rw[aM]at u;rcases C with rfl|⟨rfl,rfl⟩<;>simp[i,s,B,u,R,ae,bC,KN,A.hp];exact⟨⟨⟨V,by simp[size_cons],by simp[size_cons]⟩,by simp[size_cons],by simp[size_cons],1,by simp[size_cons,y9]⟩,V⟩
end
end
noncomputable section
open Go Go.TI Go.RowKit Go.ChangeShapes Go.WideShapes
def BS{b:Int}(a:ok5 b):byV b:=by unfold ok5 IntKind.min IntKind.max IntKind.signed IntKind.bits at a;unfold byV;simp at a;omega
def zK{b:List Int}(a:Su b):okB b:=⟨by have:=a.1;omega,λd c=>BS (a.2 d c)⟩
def JA{b:oe}(a:acd b):H3 b:=⟨zK a.1,zK a.2.1,zK a.2.2.1,BS a.2.2.2.1,BS a.2.2.2.2⟩
def Eu{a:Int}(b:acb a):0<=a/\a<65536:=by unfold acb IntKind.min IntKind.max IntKind.signed IntKind.bits at b;simp at b;omega
def NJ:Tryz.f3.params.toList.all (λa=> !Tryz.prog.wantsStandIn a)=true:=dW
def rE:Tryz.f3.params.toList=[24,25]:=dW
def Ka:laidOutB Tryz.prog=true:=dW
def NH:(([24,25]:List ab).all λa=>Tryz.prog.readableRec a&&decide (a<Tryz.prog.types.size))=true:=dW
def Bk(os:Os)(L:os.Started)(H:Type)(enc:ab×am->H):
 ReturnsInHanded {} Tryz.checked os 3 .any (λb i=>(wZ.pre enc Tryz.prog Tryz.f3 [] false b i/\laidMetH Tryz.prog tz.laid b)/\sizedMet enc Tryz.prog Tryz.f3 (OpenSpec.ofChange wZ) false b i)
  (wZ.post enc Tryz.prog Tryz.f3 false true false false):=by
 refine returnsInHanded_of_change_and (C:=Tryz.checked) (X:=λb _=>laidMetH Tryz.prog tz.laid b) (λ_ _ _ w d=>d.of_heap w) UC L dW Tryz.func3
  (ChangeSpec.witness_shaped (enc:=enc) (C:=Tryz.checked) (os:=os) (X:=λb _=>laidMetH Tryz.prog tz.laid b) false (World.laidAll Tryz.prog os tz.laid)
    #[.agg #[.slice none 0 0,.slice none 0 0,.slice none 0 0,.int .u8 0,.int .u8 0],.int .u16 0] 8 (World.laidAll_os _ _ _)
    (World.shaped_of_ZipB dW dW) dW dW dW
    (by rw[MakeChecks.laidMetH_plain _ _ _ dW];exact laidMet_laidAll _ dW dW)) ?_
 intro W R i Z an S z k _ A j _;have l:=k;obtain⟨p,q,t,u,rfl,_,_⟩:=k;obtain⟨rfl,rfl⟩:=trodVars_none u;rw[MakeChecks.laidMetH_plain _ _ _ dW]at j;have a:=t;rw[rE]at a;have⟨ap,f,F⟩:=Js (.cons (Xf.struct iX Pa rfl afF λ_=>rfl) (.cons (Xf.one iX V5 V ajG) (.nil))) a (λB M N r s=>z B M N (by rw[<-dL,rE];exact r) (by rw[<-dL];exact s)) (λh f=>by
  have:=List.all_eq_true.1 A h (by rw[bJ,rE];exact f);simpa using this)
 obtain⟨_,_,rfl,⟨O,rfl,E⟩,I⟩:=F.inv;obtain⟨_,_,rfl,⟨P,rfl,o⟩,K⟩:=I.inv;obtain rfl:=K.GV;have y:=abZ (O,P) ⟨JA E,(Eu o).1,(Eu o).2⟩;have x:∀h∈p,h.block<W.heap.size:=λh f=>l.lt h (by simpa using f);refine(HL Tryz.func3 dW (c:=TI.WL ⟨Tryz.f3,0,false,none⟩) dW y W (λg T d=>(Mz W j).find d) f).mono λe Q ⟨v,n⟩=>?_;subst v;have m:=Jr Ka n NH a x;rw[<-rE]at m;obtain⟨_,_,U,ae,_,_,_,rfl,_,_,a⟩:=trodAll_cons a;obtain⟨_,_,Y,al,_,_,_,rfl,_,_,a⟩:=trodAll_cons a;obtain⟨_,rfl,_⟩:=trodAll_nil a;exact⟨_,rfl,_,_,_,[],p,[],l,trodAll_mk1 (shut_bool Tryz.underlying4 _),m,rfl,n.frame _,λd=>by cases d⟩
def B9:tz.holds Tryz.pinned (OpenSpec.ofChange wZ):=
 OpenClaim.holds_of_wide 3 Tryz.f3 rfl rfl rfl rfl rfl rfl rfl ⟨rfl,rfl,rfl,rfl,rfl⟩ rfl rfl rfl rfl rfl v7 Tryz.func3 Bl
  (of_decide_eq_true dW) (by unfold Func.isWrapper;first|(rw[ax (by decide+kernel)];kernel_rfl)|(rw[aw (by decide+kernel)];exact⟨rfl,rfl⟩))
  (λb c H a _=>Bk b c H a)
theorem searchFinds_card_holds:Rows.SearchFindsCardSaid:=
 Claim7.holds_tied_plain_at .later [] [.data,.data,.data,.data,.sentinel,.sentinel,.data,.pinned] true (true,"123fe17f4c54feb1ec8f9f095156e82fbebe2c534b061ac86814c5dae87b839a") true B9 (λ_ a=>by cases a) F8 (λ_ a=>by cases a) searchFinds_row_tie rfl ⟨rfl,rfl⟩ Dw rfl
  (λd e f g=>by
    obtain rfl:d=3:=dp (v7.symm.trans f)|>.symm;obtain rfl:e=Tryz.f3:=(dp (Tryz.func3.symm.trans g)).symm;refine⟨B8,λi c ht=>?_⟩;have h:c∈Tryz.f3.params.toList:=Array.mem_toList_iff.2 (Array.mem_of_getElem? ht);have b:=List.all_eq_true.1 NJ c h;simp only[cK]at b;exact b)
  Dx
