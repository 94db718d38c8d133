/- Texts X11 to W05. -/
import Derived.Test.YtmaeadedikngoaaGreatDoorA22
import Derived.Test.YtmaeadedikngoaaGreatDoorA24
set_option linter.all false
set_option maxRecDepth 100000
set_option maxHeartbeats 8000000
namespace Go.Proofs.YtmaeadedikngoaaGreatDoor
noncomputable section
open Go Go.TI
attribute [-simp] List.map_take List.map_drop List.map_append fH fh ej Bool.not_or Bool.not_and
attribute [simp] fG fj
attribute [-simp] size_cons
structure IBg where
 (L:List Int) (b:Nat)
def Uo(a:IBg)(d:List T)(c:H):Prop:=d=[.ptr a.b 0 0 0,jq.t]/\vm 0 a.L a.b c/\ij 0 c/\okB a.L
structure GD(s:eG):Prop where
 n:s.fO.ew.length=3/\s.fO.done.length=1/\s.fO.dM.length=4/\s.cells.length=5/\s.ei.length=1/\s.count.length=4
 c:∀c∈s.count,0<=c/\c<=4
 r:∀l∈s.fO.ew,l.eY.length<=1/\∀x∈l.eY,0<=x/\x<4
def Jh(a:IBg)(g:List T)(e:H)(f:T)(c:H):Prop:=∃d:eG,f=d.t/\GD d/\vm 0 a.L a.b c/\Sm a.b e c
def QO{e:Type}{f:e->T}{R:T->T->Prop}{P:e->Prop}:∀{c:List T},(∀b∈c,∃a,R b (f a)/\P a)->∃d:List e,iG R c (d.map f)/\∀a∈d,P a:=by
 intro c;induction c with
 |nil=>intro _;exact⟨[],.nil,dC⟩
 |cons b c k=>
  intro g;obtain⟨a,hr,j⟩:=g b dC;obtain⟨d,hl,h⟩:=k λb i=>g b (by simp[i]);exact⟨a::d,.cons hr hl,by simpa[j]using h⟩
def zh.fin{w:List Int}{p:Nat}{g n:H}{bp:Nat}{d:AV}(b:zh w p g bp d n)(a8:ij 0 g)(G:p<g.size)(k:iY)(ae:List T):yf g (.agg [d.c 0,dG d.tx,d.c 2,d.c 3,d.c 4,d.c 5,d.c 6]) (d8 n (g.size+1) k) (Jh ⟨w,p⟩ ae g):=by
 have D:=λe=>dQ b.rb k e;have l:∀(f u:Nat),d.F[f]? =some (d.c f,some (u,d.E f))->Gr (d8 n (g.size+1) k) (d.c f) u (d.E f)/\∀e,dU (d.c f)=some e->g.size<=e:=λf u I=>by
  have C:=λe (o:dU (d.c f)=some e)=>b.fp e (b.s.Bo (ax I) o);exact⟨(b.s.gr f I).mono λe o=>by rw[D,ao (by have:=C e o;omega)],λe o=>by have:=C e o;omega⟩
 obtain⟨Y,a0,p0⟩:=QO (f:=eg.t) (R:=FT (d8 n (g.size+1) k) (λe=>g.size<=e) 3) (P:=λm=>m.eY.length<=1/\∀a∈m.eY,0<=a/\a<4) λi j=>by
  obtain⟨Q,bC,rfl,aX⟩:=b.pr 0 i j;rcases aX with rfl|⟨a,v,rfl,r,bs,bu,bz,bB⟩
  ·exact⟨⟨Q,[]⟩,.inr (.inr ⟨_,_,rfl,.cons (f9 ..) (.cons (jh ..) .nil),rfl⟩),dC⟩
  ·have a6:a≠g.size+1:=λh=>by rw[h,b.rb]at r;simp[nC]at r
   have aN:Gr (d8 n (g.size+1) k) (.arr a 0 0 1 false) 1 ([v].map (T.int .i64)):= .inr ⟨a,0,0,true,[dG v],rfl,by rw[D,ao a6];exact r,rfl⟩;exact⟨⟨Q,[v]⟩,.inr (.inr ⟨_,_,rfl,.cons (f9 ..) (.cons (aN.ft (d:=1) (λe h=>by simp at h;omega) (.cons (f9 ..) .nil)) .nil),rfl⟩),dD⟩
 obtain⟨U,x,_⟩:=uK (f:=T.bool) (P:=λ_=>True) λi j=>by
  obtain⟨a,h⟩:=b.pr 2 i j;exact⟨a,h,trivial⟩
 obtain⟨Z,y,_⟩:=uK (f:=dP.t) (P:=λ_=>True) λi j=>by
  obtain⟨a,h⟩:=b.pr 3 i j;exact⟨a,h,trivial⟩
 obtain⟨S,z,_⟩:=uK (f:=T.int .i64) (P:=λ_=>True) λi j=>by
  obtain⟨a,h,_⟩:=b.pr 4 i j;exact⟨a,h,trivial⟩
 obtain⟨W,A,_⟩:=uK (f:=T.int .i64) (P:=λ_=>True) λi j=>by
  obtain⟨a,h,_⟩:=b.pr 5 i j;exact⟨a,h,trivial⟩
 obtain⟨X,B,p6⟩:=uK (f:=T.int .i64) (P:=λO=>0<=O/\O<=4) λi j=>by
  obtain⟨a,h,bi⟩:=b.pr 6 i j;exact⟨a,h,bi rfl⟩
 have l0:=b.ln 0;have l2:=b.ln 2;have l3:=b.ln 3;have l4:=b.ln 4;have l5:=b.ln 5;have l6:=b.ln 6;have lk:=a0.length;rw[x]at l2;rw[y]at l3;rw[z]at l4;rw[A]at l5;rw[B]at l6;simp[Yr]at l0 l2 l3 l4 l5 l6 lk;obtain⟨a7,al⟩:=l 0 2 rfl;obtain⟨J,an⟩:=l 2 1 rfl;obtain⟨K,ap⟩:=l 3 3 rfl;obtain⟨L,av⟩:=l 4 1 rfl;obtain⟨M,aA⟩:=l 5 1 rfl;obtain⟨N,aE⟩:=l 6 1 rfl;rw[x]at J;rw[y]at K;rw[z]at L;rw[A]at M;rw[B]at N;have q:∀m:List Int,iG (FT (d8 n (g.size+1) k) (λe=>g.size<=e) 3) (m.map (T.int .i64)) (m.map (T.int .i64)):=λm=>wP λa=>f9 ..;exact(b.tw.put b.rb dC (by simpa using G) k).cut a8 G (FT.top (V:=λe=>g.size<=e) (d:=4) dB (λ_ h=>h) (.cons (a7.ft al a0) (.cons (f9 ..) (.cons (J.ft an (wP λa=>LI ..)) (.cons (K.ft ap (wP λa=> .inr (.inr ⟨a.cs,a.cs,rfl,.cons (f9 ..) (.cons (f9 ..) (.cons (LI ..) .nil)),rfl⟩))) (.cons (L.ft av (q _)) (.cons (M.ft aA (q _)) (.cons (N.ft aE (q _)) .nil)))))))) λbk bn=>
  ⟨⟨⟨Y,d.tx,U,Z⟩,S,W,X⟩,rfl,⟨⟨dE,l2,l3,l4,l5,l6⟩,p6,p0⟩,bn,bk⟩
def adO:(jF IBg Uo Jh).Ok Tryz.prog cx 38:=by
 refine qJ (tb:=⟨pt [],ht [(63,kE),(41,jF ee Jk Ja),(64,jF Tx pY om)]⟩) fc fa (je 39027670543808336620727472465805308762228731 [(10,[(1,4)]),(11,[(2,5)]),(27,[(1,3)]),(31,[(1,4)])] Tryz.func38) (λ_ _=>10) (λy a A eB=>by obtain⟨rfl,_⟩:=eB;simp[Tryz.f38]) ?_;rintro⟨V,r⟩ _ A ⟨rfl,eO,fi,bi⟩ h e9;simp only at eO bi;simp at e9;obtain⟨i,er⟩:=e9;have D:=eO.tp.lt;have hH:(r=A.size)=False:=dD;have hI:(r=A.size+1)=False:=dD;have bp:=((sY.refl fi.hr (eO.eq (gF A r))).cons (dI 6 0 [jq.t])).cons nC;simp[Tryz.f38,er];generalize c4:((TI.hr A).cons _).cons _=X;replace bp:sY 0 V r (TI.hr A) X:=by rw[<-c4];exact bp
 have hO:X.size=A.size+2:=by rw[<-c4];simp[size_cons]
 have fA:X.get (A.size+1)=some nC:=by rw[<-c4];simp[nC,size_cons]
 clear c4;refine iu aad dC jq ⟨rfl,bp.w.ok,dF,dF,dF,dF⟩ ?_;rintro _ ap ⟨eR,eS,eU,eV,eW,eX,rfl,k,hK,bS,eh,c9,b8⟩;have hN:=c9.sz;have eE:=c9.low;simp[eE,(bS.gr 6 rfl).len (cx:=cx)];have ha:∀C,Fp ap k C->C≠r:=λC U O=>by have:=eh C U;omega
 generalize bN:ap.cons _=cb;have eF:ij 0 cb:=by rw[<-bN];exact ij.cons ⟨c9.hp,eE,aw _⟩ _
 have aA:∀C,cb.get C=if C=ap.size then some (dI 7 1 [.agg [eR,dG (-1),eS,eU,eV,eW,eX]])else ap.get C:=λC=>by rw[<-bN,dW]
 have fB:cb.size=ap.size+1:=by rw[<-bN,size_cons]
 clear bN;have eM:=λC (U:Fp ap k C)=>bS.fp C U;obtain⟨ds,dk⟩:∃ds,zh V r A ap.size ds cb:=by
  refine⟨⟨1,-1,λp=>if p=0 then eR else if p=2 then eS else if p=3 then eU else if p=4 then eV else if p=5 then eW else eX,λp=>if p=0 then(List.replicate 3 ()).map yn else if p=2 then [false].map T.bool else if p=3 then(zl 4).map dP.t else if p=4 then [0,1,0,0,0].map (T.int .i64)else if p=6 then(List.replicate 4 0).map (T.int .i64)else(List.replicate 1 0).map (T.int .i64)⟩,?_,⟨⟨eF,dD,λC U c6=> ?_,?_⟩,?_⟩,?_,?_,λp=> ?_,λp e J=> ?_⟩
  ·exact bS.copy eF (by rw[aA,aq rfl];rfl) λC U=>by rw[aA,ao (by have:=eM C U;omega)]
  ·have U:C<A.size:=by simpa using U
   exact(aA C).trans ((ao dB).trans ((b8 C dB).trans (bp.w.get C (by simpa using U) c6)))
  ·exact bp.w.tp.eq ((aA r).trans ((ao dB).trans (b8 r dB)))
  ·exact bp.g.eq ((aA r).trans ((ao dB).trans (b8 r dB)))
  ·intro C U;rcases(bS.copy eF (by rw[aA,aq rfl];rfl) λC U=>by rw[aA,ao (by have:=eM C U;omega)]:nS cb ap.size 7 1 _)with⟨_,gw,_,_⟩;rcases U with rfl|⟨x,eD,v,gX,O⟩
   ·omega
   ·rw[gw]at eD;simp only[ar]at eD;subst eD;have:=eh C (.inr ⟨_,bS.get,v,gX,O⟩);omega
  ·exact(aA _).trans ((ao dB).trans ((b8 _ dB).trans fA))
  ·unfold Yr;by_cases b9:p=0
   ·subst b9;rfl
   by_cases a6:p=2
   ·subst a6;rfl
   by_cases ca:p=3
   ·subst ca;rfl
   by_cases fl:p=4
   ·subst fl;rfl
   by_cases fo:p=6
   ·subst fo;rfl
   simp[b9,a6,ca,fl,fo]
  ·unfold Te;by_cases b9:p=0
   ·subst b9;simp at J;subst J;exact⟨_,_,rfl,.inl rfl⟩
   by_cases a6:p=2
   ·subst a6;simp at J;subst J;exact⟨_,rfl⟩
   by_cases ca:p=3
   ·subst ca;simp only[ao (show¬(3:Nat)=0 by decide),ao (show¬(3:Nat)=2 by decide),aq]at J|-;obtain⟨t,_,rfl⟩:=List.mem_map.1 J;exact⟨t,rfl⟩
   simp only[ao b9,ao a6,ao ca]at J|-;have:∃l:List Int,e∈l.map (T.int .i64)/\(p=6->l=List.replicate 4 0):=by
    split at J
    ·exact⟨_,J,λO=>by omega⟩
    split at J
    ·exact⟨_,J,λ_=>rfl⟩
    ·exact⟨_,J,λO=>by omega⟩
   obtain⟨l,hl,c1⟩:=this;obtain⟨Q,c6,rfl⟩:=List.mem_map.1 hl;refine⟨Q,rfl,λO=> ?_⟩;rw[c1 O]at c6;simp at c6;omega
 clear bS eh c9 b8 eE ha aA fB eM bp fA;have fB:A.size+2<=ap.size:=dB;generalize ap.size=G at*
 refine fI 4 dB (λy h B=>(∃d,zh V r A G d B)/\dJ h 0 (.ptr r 0 0 0)/\dJ h 4 (.ptr (A.size+1) 0 0 0)/\dJ h 5 (.ptr G 0 0 0)/\dJ h 15 (dG 4)/\dJ h 16 (dG y)) ?_ ?_ dB ⟨⟨ds,dk⟩,by simp[i,show(jq.dM.length:Int)=4 from rfl]⟩
 ·clear dk i er;rintro y h B bu aX ⟨⟨d,b⟩,i,q,n,Z,ae⟩;have gM:(y:Int)<4:=dB;obtain⟨p,bT,I,fe,a7,R⟩:=(b.cons (dI 1 0 [dG 2,dG 2,dG 2,dG 2,dG 0,dG 1,dG 3,dG 4,dG 5])).tw.next (tb:=⟨pt [],ht [(63,kE),(41,jF ee Jk Ja),(64,jF Tx pY om)]⟩) dC bi 9 dB dB;have hP:=b.Nm;have cp:=(b.cons _).tape R (a7.g.le (aw _)) D;have e5:=(R.get B.size dB).trans (by rw[dW,aq rfl]);obtain⟨fs,e4⟩:∃fs:Int,∀fe,([dG 2,dG 2,dG 2,dG 2,dG 0,dG 1,dG 3,dG 4,dG 5]:List T)[p]'fe= dG fs:=by
   rcases(by omega:p=0\/p=1\/p=2\/p=3\/p=4\/p=5\/p=6\/p=7\/p=8)with rfl|rfl|rfl|rfl|rfl|rfl|rfl|rfl|rfl<;>exact⟨_,λ_=>rfl⟩
  have gS:p<9:=dB;simp[i,Z,ae,gM,I,e5,e4,gS];refine lq (λh hq=>bT=hq/\(∃eN,dJ h 7 (dG eN))/\dJ h 0 (.ptr r 0 0 0)/\dJ h 4 (.ptr (A.size+1) 0 0 0)/\dJ h 5 (.ptr G 0 0 0)/\dJ h 6 (dG y)/\dJ h 15 (dG 4)/\dJ h 16 (dG y)) (λN=>by simp[i,q,n,Z,ae]) (λN=>by simp[i,q,n,Z,ae]) ?_;clear I e5 e4 a7 R i q n Z ae;rintro h _ ⟨rfl,⟨eN,gy⟩,i,q,n,c1,Z,ae⟩;have k:=cp.s.get;simp[AV.F]at k;obtain⟨bB,cy,dd,cL,de,_,av,al,M,an,t,rfl⟩:=cp.ld 3 rfl (te:=Av) rfl (j:=y) bu;have bn:=cp.st D 3 rfl av M y (dP.t ⟨eN,0,false⟩) rfl ⟨_,rfl⟩;simp[n,c1,gy,k,al,M,an];clear cp k al M an av;generalize d.NP 3 _=dv at bn;generalize d8 bT _ _=di at*
  refine em (λN=> ?_) (λN=> ?_)
  ·obtain⟨bk,S,I,eA,bs,bz⟩:=bn.tw.next (tb:=⟨pt [],ht [(63,kE),(41,jF ee Jk Ja),(64,jF Tx pY om)]⟩) dC bi 3 dB dB;have W:=bn.tape bz (bs.g.le (aw _)) D;have Y:=bn.s.get;have a8:=W.s.get;simp[AV.F]at Y a8;obtain⟨bB,cy,dd,cL,de,_,av,al,M,an,Q,rfl,_⟩:=W.ld 6 rfl (te:=Ed) rfl (j:=y) bu;have fS:binop .add (dG 1) (dG (bk:Int))=some (dG (1+bk)):=za rfl dB dB;have sv:ff di S G=true:=fk (a8.trans Y.symm);have L:=W.st D 6 rfl av M y (dG (1+bk)) rfl ⟨_,rfl,λ_=>by omega⟩;generalize gz:d8 S bB _=hs at L;generalize dv.NP 6 _=hA at L;obtain⟨gZ,hv,gi,hD,fL,hf⟩:=L.tw.next (tb:=⟨pt [],ht [(63,kE),(41,jF ee Jk Ja),(64,jF Tx pY om)]⟩) dC bi 4 dB dB;have dm:=L.tape hf (fL.g.le (aw _)) D;have eo:=L.s.get;have e6:=dm.s.get;simp[AV.F]at eo e6;obtain⟨hy,hB,hL,hC,hM,_,gB,gg,e7,gj,t,rfl⟩:=dm.ld 3 rfl (te:=Av) rfl (j:=y) bu;have hg:ff hs hv G=true:=fk (e6.trans eo.symm);have fE:=dm.st D 3 rfl gB e7 y (dP.t ⟨t.iN,t.cond,decide ((gZ:Int)=3)⟩) rfl ⟨_,rfl⟩;simp[i,q,n,c1,Z,ae,Y,I,fS,al,M,an,sv,gz,eo,gi,gg,e7,gj,hg,aX];exact⟨_,fE⟩
  ·simp[i,q,n,Z,ae,aX];exact⟨dv,bn⟩
 clear dk i er;rintro h B ⟨⟨d,b⟩,i,q,n,Z,ae⟩;have k:=b.s.get;simp[AV.F]at k;have l0:=b.ln 0;simp[n,Z,ae,k,(b.s.gr 0 rfl).len (cx:=cx),l0,Yr];refine fI 3 dB (λy h B=>(∃d,zh V r A G d B)/\dJ h 0 (.ptr r 0 0 0)/\dJ h 4 (.ptr (A.size+1) 0 0 0)/\dJ h 5 (.ptr G 0 0 0)/\dJ h 63 (dG 3)/\dJ h 64 (dG y)) ?_ ?_ dB ⟨⟨d,b⟩,by simp[i,q,n]⟩
 ·clear b k l0 i q n Z ae;rintro y h B bu aX ⟨⟨d,b⟩,i,q,n,aE,aN⟩;have gI:(y:Int)<3:=dB;have k:=b.s.get;simp[AV.F]at k;simp[i,n,aE,aN,gI,k];obtain⟨K,bH,e8⟩:=uK (f:=T.int .i64) (P:=λQ=>0<=Q/\Q<=4) λe J=>by
   obtain⟨Q,eH,a6⟩:=b.pr 6 e J;exact⟨Q,eH,a6 rfl⟩
  have b7:K.length=4:=by rw[<-aG (f:=T.int .i64),<-bH];exact b.ln 6
  have bC:=b.s.gr 6 rfl;rw[bH]at bC;have c7:dU (d.c 6)≠some r:=λO=>by have:=b.fp r (b.s.Bo (f:=(d.c 6,some (1,d.E 6))) (by simp[AV.F]) O);omega
  refine iu KW dC ⟨V,r,0,d.c 0,dG d.tx,d.c 2,d.c 3,d.c 4,d.c 5,d.c 6,K⟩ ⟨rfl,b.tw.g,b.tw.w.ok,bi,dE,bC,c7,dC⟩ ?_;rintro _ bT ⟨u,rfl,fv,eP,t1,R⟩;replace b:=b.tape R t1 D;simp only[b7]at eP;clear bC c7 bH b7 e8 k t1 R;simp;refine em (λN=> ?_) (λN=> ?_)
  ·simp[i,q,n,aE,aN,aX];exact⟨d,b⟩
  obtain⟨m,rfl⟩:∃m:Nat,u=m:=⟨u.toNat,by simp at N;omega⟩;have gV:m<4:=dB;clear N fv eP;by_cases gE:y=2
  ·subst gE;have e0:binop .add (dG 2) (dG 1)=some (dG 3):=by simpa using aX
   obtain⟨bk,S,I,eA,bs,bz⟩:=b.tw.next (tb:=⟨pt [],ht [(63,kE),(41,jF ee Jk Ja),(64,jF Tx pY om)]⟩) dC bi 2 dB dB;replace b:=b.tape bz (bs.g.le (aw _)) D;simp[i,I];have dn:=b.cons (dI 1 0 [dG m]);obtain⟨bB,cy,dd,cL,de,_,av,al,M,an,o,eL,rfl,eC⟩:=b.ld 0 rfl (te:=GJ) rfl (j:=2) dF;obtain⟨fY,gk,hh,gn,hn,_,fb,ea,cX,ec,hc,hJ,rfl,hF⟩:=dn.ld 0 rfl (te:=GJ) rfl (j:=2) dF;have k:=b.s.get;have gv:=dn.s.get;simp[AV.F]at k gv;refine em (λN=> ?_) (λN=> ?_)
   ·have hb:¬Fp (S.cons (dI 1 0 [dG m])) G S.size:=λO=>by
     have e:(S.cons (dI 1 0 [dG m])).get G=S.get G:=by rw[dW,ao (by have:=b.s.lt;omega)]
     rw[iV e]at O;have:=b.s.fp _ O;omega
    have L:=dn.st D 0 rfl fb cX 2 (.agg [dG hc,.arr S.size 0 0 1 false]) rfl ⟨_,_,rfl,.inr ⟨S.size,m,rfl,by rw[dW,aq rfl],dB,dB,hb,by have:=b.Nm;omega⟩⟩;have hG:(G=S.size)=False:=by have:=b.s.lt;simp;omega
    simp[i,q,n,aE,aN,k,ea,cX,ec,e0];exact⟨_,L⟩
   ·have L:=b.st D 0 rfl av M 2 (.agg [dG m,eL]) rfl ⟨_,_,rfl,eC⟩;simp[i,q,n,aE,aN,k,al,M,an,e0];exact⟨_,L⟩
  ·obtain⟨bB,cy,dd,cL,de,_,av,al,M,an,o,eL,rfl,eC⟩:=b.ld 0 rfl (te:=GJ) rfl (j:=y) bu;obtain⟨fY,gk,hh,gn,hn,_,fb,ea,cX,ec,t,rfl⟩:=b.ld 3 rfl (te:=Av) rfl (j:=m) gV;have k:=b.s.get;simp[AV.F]at k;have L:=b.st D 0 rfl av M y (.agg [dG m,eL]) rfl ⟨_,_,rfl,eC⟩;simp[n,show¬(y:Int)=2 by omega,k,ea,cX,ec];refine em (λN=> ?_) (λN=> ?_)
   ·simp[i,q,n,aE,aN,aX];exact⟨d,b⟩
   ·simp[i,q,n,aE,aN,k,al,M,an,aX];exact⟨_,L⟩
 clear b k l0 i q n Z ae;rintro h B ⟨⟨d,b⟩,i,q,n,aE,aN⟩;have ce:=λ{B:H} {d:AV} (b:zh V r A G d B)=>b.tw.next (tb:=⟨pt [],ht [(63,kE),(41,jF ee Jk Ja),(64,jF Tx pY om)]⟩) dC bi;have fC:∀{B:H} {d:AV},zh V r A G d B->∃K:List Int,pY ⟨V,r,0,d.c 0,dG d.tx,d.c 2,d.c 3,d.c 4,d.c 5,d.c 6,K⟩ [.ptr r 0 0 0,.agg [d.c 0,dG d.tx,d.c 2,d.c 3,d.c 4,d.c 5,d.c 6]] B/\K.length=4:=λ{B d} b=>by
  obtain⟨K,bH,e8⟩:=uK (f:=T.int .i64) (P:=λQ=>0<=Q/\Q<=4) λe J=>by
   obtain⟨Q,eH,a6⟩:=b.pr 6 e J;exact⟨Q,eH,a6 rfl⟩
  have b7:K.length=4:=by rw[<-aG (f:=T.int .i64),<-bH];exact b.ln 6
  have bC:=b.s.gr 6 rfl;rw[bH]at bC;have c7:dU (d.c 6)≠some r:=λO=>by have:=b.fp r (b.s.Bo (f:=(d.c 6,some (1,d.E 6))) (by simp[AV.F]) O);omega
  exact⟨K,⟨rfl,b.tw.g,b.tw.w.ok,bi,dE,bC,c7,dC⟩,b7⟩
 obtain⟨gY,bT,I,gQ,a7,R⟩:=ce b 3 dB dB;replace b:=b.tape R (a7.g.le (aw _)) D;simp[i,aE,aN,I];clear I a7 R;refine lq (λh B=>(∃d,zh V r A G d B)/\dJ h 0 (.ptr r 0 0 0)/\dJ h 4 (.ptr (A.size+1) 0 0 0)/\dJ h 5 (.ptr G 0 0 0)) (λN=> ?_) (λN=> ?_) ?_
 ·have k:=b.s.get;simp[AV.F]at k;obtain⟨K,eB,b7⟩:=fC b;simp[i,n,k];refine iu KW dC _ eB ?_;rintro _ di ⟨u,rfl,fv,eP,t1,R⟩;replace b:=b.tape R t1 D;have k:=b.s.get;simp[AV.F]at k;have bn:=b.tx D u;simp[i,q,n,k];exact⟨_,bn⟩
 ·simp[i,q,n];exact⟨d,b⟩
 clear b i q n aE aN;rintro h B ⟨⟨d,b⟩,i,q,n⟩;obtain⟨gY,bT,I,gQ,a7,R⟩:=ce b 3 dB dB;replace b:=b.tape R (a7.g.le (aw _)) D;simp[i,I];clear I a7 R;refine lq (λh B=>(∃d,zh V r A G d B)/\dJ h 0 (.ptr r 0 0 0)/\dJ h 4 (.ptr (A.size+1) 0 0 0)/\dJ h 5 (.ptr G 0 0 0)) (λN=> ?_) (λN=> ?_) ?_
 ·have k:=b.s.get;simp[AV.F]at k;obtain⟨bB,cy,dd,cL,de,_,av,al,M,an,o,rfl⟩:=b.ld 2 rfl (te:=YW) rfl (j:=0) dF;replace b:=b.st D 2 rfl av M 0 (.bool true) rfl ⟨_,rfl⟩;generalize bN:d8 bT bB _=di at b;generalize d.NP 2 _=dv at b;obtain⟨bk,S,I,eA,bs,bz⟩:=ce b 3 dB dB;have W:=b.tape bz (bs.g.le (aw _)) D;have Y:=b.s.get;have a8:=W.s.get;simp[AV.F]at Y a8;obtain⟨gd,gm,hj,gp,ho,_,ey,eb,b6,ef,Q,rfl,_⟩:=W.ld 5 rfl (te:=GE) rfl (j:=0) dF;have sv:ff di S G=true:=fk (a8.trans Y.symm);have L:=W.st D 5 rfl ey b6 0 (dG bk) rfl ⟨_,rfl,λO=>by omega⟩;simp[i,q,n,k,al,M,an,bN,Y,I,eb,b6,ef,sv];exact⟨_,L⟩
 ·simp[i,q,n];exact⟨d,b⟩
 clear b i q n;rintro h B ⟨⟨d,b⟩,i,q,n⟩;have k:=b.s.get;simp[AV.F]at k;have l4:=b.ln 4;simp[n,k,(b.s.gr 4 rfl).len (cx:=cx),l4,Yr];refine fI 5 dB (λy h B=>(∃d,zh V r A G d B)/\dJ h 0 (.ptr r 0 0 0)/\dJ h 4 (.ptr (A.size+1) 0 0 0)/\dJ h 5 (.ptr G 0 0 0)/\dJ h 142 (dG 5)/\dJ h 143 (dG y)) ?_ ?_ dB ⟨⟨d,b⟩,by simp[i,q,n]⟩
 ·clear b k l4 i q n;rintro y h B bu aX ⟨⟨d,b⟩,i,q,n,et,eu⟩;have gP:(y:Int)<5:=dB;obtain⟨bk,S,I,eA,bs,bz⟩:=ce b 3 dB dB;have W:=b.tape bz (bs.g.le (aw _)) D;have Y:=b.s.get;have a8:=W.s.get;simp[AV.F]at Y a8;obtain⟨gd,gm,hj,gp,ho,_,ey,eb,b6,ef,Q,rfl,_⟩:=W.ld 4 rfl (te:=GE) rfl (j:=y) bu;have sv:ff B S G=true:=fk (a8.trans Y.symm);have L:=W.st D 4 rfl ey b6 y (dG bk) rfl ⟨_,rfl,λO=>by omega⟩;simp[i,q,n,et,eu,gP,Y,I,eb,b6,ef,sv,aX];exact⟨_,L⟩
 clear b k l4 i q n;rintro h B ⟨⟨d,b⟩,i,q,n,et,eu⟩;have k:=b.s.get;have eI:=b.rb;unfold nC at eI;simp[AV.F]at k;have hd:=λz=>(dQ eI z (A.size+1)).trans (aq rfl);simp[q,n,et,eu,k,eI,hd];exact b.fin fi D _ _
end
noncomputable section
open Go Go.TI
attribute [-simp] List.map_take List.map_drop List.map_append fH fh ej Bool.not_or Bool.not_and
attribute [simp] fG fj
def US(a:Nat)(d:H)(e:T)(g:List (List Int)):Prop:=∃c,Gr d e 1 c/\dU e≠some a/\iG (λb f=>Gr d b 1 (f.map (T.int .i64))/\dU b≠some a) c g
structure IEv where
 (L:List Int) (b p:Nat) (s:eG) (w:ee) (rv:T) (rs:List (List Int))
def Ob(a:IEv)(d:List T)(c:H):Prop:=d=[.ptr a.b 0 0 0,a.s.t,a.w.t,a.rv]/\vm a.p a.L a.b c/\ij 0 c/\okB a.L/\US a.b c a.rv a.rs/\a.rs.length=4/\(∀e∈a.rs,e.length<=1000)/\a.s.cells.length=5/\1<=a.s.ei.length/\a.s.fO.dM.length<=98/\a.w.cells.length=5
def Fh(a:IEv)(g:List T)(e:H)(f:T)(d:H):Prop:=∃c:eK,f=c.t/\c.mG.length<=1000/\c.vh.length<=1000/\vm (a.p+1) a.L a.b d/\Sm a.b e d
def WW{a:fN}(ht:a.p 99=some tg):rl Tryz.prog cx a 99 []=some (sl (vV.map (T.int .i64))):=iv ht RX () trivial
def MI{i:Nat}(c:i<43):∃a:Int,vV[i]? =some a/\1<=a/\a<=23:=by
 have b:∀a∈vV,1<=a/\a<=23:=dF;exact⟨vV[i]'c,aB _,b _ (aC _)⟩
abbrev MV(f c d g e:Int)(a b:T):T:= .agg [dG f,dG c,dG d,dG g,dG e,a,b]
structure Q9(p:Nat)(L:List Int)(b:Nat)(h:H)(s:eG)(w:ee)(h':H)(x:T):Prop where
 tw:sY p L b (TI.hr h) h'
 g0:h'.get h.size=some (dI 7 0 [s.t])
 g1:h'.get (h.size+1)=some (dI 6 0 [w.t])
 g2:h'.get (h.size+2)=some (dI 7 0 [MV 0 0 0 0 0 dH dH])
 g3:∃ver,h'.get (h.size+3)=some (dI 7 ver [x])
def Q9.call{m h:Nat}{d:List Int}{a:Nat}{e:H}{i:eG}{j:ee}{g f:H}{k:T}(b:Q9 m d a e i j g k)(c:Sm a g f)(n:vm h d a f)(p:a<e.size):Q9 h d a e i j f k:=by
 obtain⟨o,l⟩:=b.g3;exact⟨b.tw.call c n,(c.get _ dB).trans b.g0,(c.get _ dB).trans b.g1,(c.get _ dB).trans b.g2,o,(c.get _ dB).trans l⟩
def Q9.put{k:Nat}{h:List Int}{e:Nat}{d:H}{l:eG}{m:ee}{j:H}{x:T}(a:Q9 k h e d l m j x)(o:e<d.size)(f:Nat)(g:T):Q9 k h e d l m (d8 j (d.size+3) (dI 7 f [g])) g:=by
 obtain⟨p,i⟩:=a.g3;have b:=λc=>dQ i (dI 7 f [g]) c;exact⟨a.tw.put i dC (by simpa using o) _,by rw[b,ao dB];exact a.g0,by rw[b,ao dB];exact a.g1,by rw[b,ao dB];exact a.g2,f,by rw[b,aq rfl]⟩
def Q9.rd{g:Nat}{d:List Int}{e:Nat}{a:H}{h:eG}{i:ee}{c:H}{j:T}(f:Q9 g d e a h i c j)(b:iY):(d8 c (a.size+2) b).get (a.size+2)=some b:=(dQ f.g2 b (a.size+2)).trans (aq rfl)
def Ds(a:T):Prop:=a.im=true/\a.cells=[a]/\∃b:List Int,b.length<=1000/\∀d c,FT d c 1 a (sl (b.map (T.int .i64)))
def Ds.nil:Ds dH:=⟨rfl,rfl,[],dC,λb a=>jh ..⟩
def Ds.sl{a:List Int}(b:a.length<=1000):Ds (TI.sl (a.map (T.int .i64))):=⟨dC,dC,a,b,λb d=>o7 _ _ _ λe c=>by obtain⟨f,_,rfl⟩:=List.mem_map.1 c;simp⟩
def adN:(jF IEv Ob Fh).Ok Tryz.prog cx 65:=by
 refine qJ (tb:=⟨pt [(99,tg)],ht [(63,kE),(100,jF ID zI sN),(101,jF IB zH sM),(102,jF AU uD t8)]⟩) fc fa (je 618988909108621684749897583 [(3,[(6,11),(7,11),(5,14),(11,14)])] Tryz.func65) (λ_ _=>5) (λi a b aN=>by obtain⟨rfl,_⟩:=aN;simp[Tryz.f65]) ?_;rintro⟨B,h,v,M,E,ap,eo⟩ _ b ⟨rfl,bH,ef,U,dk,eS,bi,eU,dm,dn,eX⟩ K c9;simp only at bH U dk eS bi eU dm dn eX;simp at c9;obtain⟨C,c6,c7,N⟩:=c9;have p:=bH.tp.lt;have fS:(h=b.size)=False:=dD;have fY:(h=b.size+1)=False:=dD;have gd:(h=b.size+2)=False:=dD;have eu:=(((sY.refl ef.hr (bH.eq (gF b h))).cons (dI 7 0 [M.t])).cons (dI 6 0 [E.t])).cons (dI 7 0 [.agg [dG 0,dG 0,dG 0,dG 0,dG 0,dH,dH]]);obtain⟨c,eB,cb,fL,ey,y⟩:=eu.next (tb:=⟨pt [(99,tg)],ht [(63,kE),(100,jF ID zI sN),(101,jF IB zH sM),(102,jF AU uD t8)]⟩) dC U 4 dB dB;have b7:=λ{a7:H} {v:Nat} (E:sY v B h (TI.hr b) a7)=>E.next (tb:=⟨pt [(99,tg)],ht [(63,kE),(100,jF ID zI sN),(101,jF IB zH sM),(102,jF AU uD t8)]⟩) dC U;obtain⟨k,eC,ce,fE,eA,X⟩:=b7 ey vV.length dF dF;obtain⟨j,cy,e0,e4⟩:=MI (i:=k) (by have:vV.length=43:=rfl;omega);obtain⟨W,av,cp,de,bT,bz⟩:=b7 eA 6 dB dB;obtain⟨bC,eW⟩:∃x:Int,(c:Int)*6=x:=⟨_,rfl⟩;obtain⟨bB,eV⟩:∃x:Int,bC+W=x:=⟨_,rfl⟩;have ec:binop .mul (dG (c:Int)) (dG 6)=some (dG bC):=by rw[aaz,<-jI,jL dB dB,eW]
 have b9:binop .add (dG bC) (dG (W:Int))=some (dG bB):=za eV dB dB;have fC:eB.size=b.size+3:=by rw[y.size];rfl
 have b6:av.size=b.size+3:=by rw[bz.size,X.size,fC]
 have er:ff eB eC (b.size+3)=true:=jc (ll _ dB);have et:ff eC av (b.size+3)=true:=jc (ll _ (by rw[X.size];omega));have eb:=bT.w.ok.low;rw[b6]at eb;have G:∀r,r<b.size+3->r≠h->av.get r=((((TI.hr b).cons (dI 7 0 [M.t])).cons (dI 6 0 [E.t])).cons (dI 7 0 [MV 0 0 0 0 0 dH dH])).get r:=λr a8 an=>(bz.get r an).trans ((X.get r an).trans (y.get r an));have D:Q9 (v+1) B h b M E (av.cons (dI 7 1 [MV c j 0 0 bB dH dH])) (MV c j 0 0 bB dH dH):=
  ⟨(bT.le dB).cons _,by rw[dW,ao dB,G _ dB dB];simp,by rw[dW,ao dB,G _ dB dB];simp,by rw[dW,ao dB,G _ dB dB];simp,1,by rw[dW,aq b6.symm]⟩
 simp[Tryz.f65,C,c6,c7,cb,WW,ce,cp,cy,ec,b9,b6,er,et,eb];clear cb ce cp y X bz eu ey eA bT ec b9 G cy er et;generalize av.cons _=gi at*
 refine lq (λK a7=>(∃z,Q9 (v+1) B h b M E a7 (MV c j 0 0 z dH dH))/\dJ K 0 (.ptr h 0 0 0)/\dJ K 3 ap/\dJ K 5 (.ptr b.size 0 0 0)/\dJ K 6 (.ptr (b.size+1) 0 0 0)/\dJ K 8 (.ptr (b.size+2) 0 0 0)/\dJ K 9 (dG c)/\dJ K 11 (.ptr (b.size+3) 0 0 0)) (λeR=> ?_) (λeR=> ?_) ?_
 ·obtain⟨A,m⟩:=D.g3;simp[C,N,m];exact⟨_,D.put p _ _⟩
 ·simp[C,N];exact⟨_,D⟩
 clear D C c6 c7 N;rintro K o ⟨⟨z,D⟩,C,N,eN,eO,aA,aE,s⟩;obtain⟨A,m⟩:=D.g3;simp[C,aE,s,m];refine iu aah dC ⟨B,h,v+1,j,c⟩ ⟨rfl,D.tw.g,D.tw.w.ok,U,dE,dE,e0,e4⟩ ?_;rintro _ fs ⟨q,rfl,gg,bu,t1,y⟩;have l:=D.call y t1 p;clear D m;obtain⟨A,m⟩:=l.g3;simp[C,eN,s,m];replace l:=l.put p (A+1) (MV c j q 0 z dH dH);generalize d8 fs _ _=Y at*
 clear y t1 m;obtain⟨A,m⟩:=l.g3;have c1:=l.g0;simp[s,m,c1];refine iu aac dC ⟨B,h,v+1,M,j,q⟩ ⟨rfl,l.tw.g,l.tw.w.ok,U,λO=>by have:=bu (.inl O);simp only;omega,dm,dn⟩ ?_;rintro _ fv ⟨n,rfl,t1,y⟩;replace l:=l.call y t1 p;clear m c1;obtain⟨A,m⟩:=l.g3;simp[s,m];replace l:=l.put p (A+1) (MV c j q n z dH dH);generalize d8 fv _ _=fA at*
 clear y t1 m;obtain⟨A,m⟩:=l.g3;have eH:=l.g1;obtain⟨L,eM,e7,ca⟩:=dk;have dd:c<L.length:=by rw[ca.length];omega
 obtain⟨bs,di,cL,cX⟩:∃bs∈eo,Gr b L[c] 1 (bs.map (T.int .i64))/\dU L[c]≠some h:=ca.HI (aC dd);have b8:∀o,sY (v+1) B h (TI.hr b) o->∃R S A Z F,∃(u:List Int) (Y:H),kH o nL ap c=some (.val (.ptr R S c 0) o)/\o.get R=some ⟨1,S,A,Z,false,F⟩/\F[c]? =some L[c]/\hl Tryz.prog cx ⟨pt [(99,tg)],ht [(63,kE),(100,jF ID zI sN),(101,jF IB zH sM),(102,jF AU uD t8)]⟩ 102 [.ptr h 0 0 0,L[c]] o=some (sl (u.map (T.int .i64)),Y)/\u.length<=1000/\vm (v+1) B h Y/\Sm h o Y:=λo bN=>by
  have eh:∀(n:T) F,Gr b n 1 F->dU n≠some h->Gr o n 1 F:=λn F g an=>g.mono λr a8=>by
   obtain⟨_,_,_,_,O,_⟩:=g.box a8;exact(bN.w.get r (H.eJ O) λe=>an (by rw[<-e];exact a8)).trans (gF b r)
  obtain⟨R,S,A,Z,F,_,eE,eL,eF⟩:=(eh ap L eM e7).JG (te:=nL) rfl dd;have aN:uD ⟨B,h,v+1,L[c],bs⟩ [.ptr h 0 0 0,L[c]] o:=⟨rfl,eh _ _ cL cX,cX,bN.g,bN.w.ok,U,bi _ di⟩;obtain⟨_,Y,e,O⟩:=EO (tb:=⟨pt [(99,tg)],ht [(63,kE),(100,jF ID zI sN),(101,jF IB zH sM),(102,jF AU uD t8)]⟩) dC VB ⟨_,aN⟩;obtain⟨u,rfl,e8,e9,fb⟩:=O _ aN;exact⟨R,S,A,Z,F,u,Y,eE,eL,eF,e,aS e8 (bi _ di),e9,fb⟩
 have eD:(decide (j=5)=false/\(decide (j=3)||decide (j=4))=true/\∃W:Nat,ka q=some W/\W<E.cells.length)\/(decide (j=5)=false/\(decide (j=3)||decide (j=4))=false)\/(decide (j=5)=true):=by
  by_cases J:j=5
  ·exact .inr (.inr (bI J))
  ·by_cases P:j=3\/j=4
   ·exact .inl ⟨aR J,by simpa using P,q.toNat,eQ (bu P).1,by have:=bu P;omega⟩
   ·exact .inr (.inl ⟨aR J,dD⟩)
 have fin:∀{o:H} {d f:T} (Q:iY),Q9 (v+1) B h b M E o (MV c j q n z d f)->Ds d->Ds f->yf b (MV c j q n z d f) (d8 o (b.size+2) Q) (Fh ⟨B,h,v,M,E,ap,eo⟩ [.ptr h 0 0 0,M.t,E.t,ap] b):=λQ i ⟨_,_,u,l1,l2⟩ ⟨_,_,bp,e5,e6⟩=>
  (i.tw.put i.g2 dC (by simpa using p) Q).cut ef p (FT.top (V:=λh=>b.size<=h) (d:=1) dB (λ_ O=>O) (.cons (f9 ..) (.cons (f9 ..) (.cons (f9 ..) (.cons (f9 ..) (.cons (f9 ..) (.cons (l2 ..) (.cons (e6 ..) .nil)))))))) λfe fi=>⟨⟨c,j,q,n,z,u,bp⟩,rfl,l1,e5,fi,fe⟩
 obtain⟨R,S,fo,Z,F,u,fB,a1,a2,a3,a4,l1,t1,y⟩:=b8 fA l.tw;have bk:=l.call y t1 p;obtain⟨bS,a6⟩:=bk.g3;have ae:=λQ=>(dQ a6 Q (b.size+3)).trans (aq rfl);have aX:=cL.cells;rcases eD with⟨J,P,W,eP,de⟩|⟨J,P⟩|J;simp[eO,s,m,eH,J,P,eP,de];refine em (λal=> ?_) (λal=> ?_);rotate_left
 iterate 2
  ·have I:=bk.put p (bS+1) (MV c j q n z dH (sl (u.map (T.int .i64))));simp[s,m,J,P];refine em (λal=> ?_) (λal=> ?_)
   ·simp[C,N,aA,aE,s,a1,a2,a3,a4,a6,aX,ae,I.g2,I.rd];exact fin _ I Ds.nil (Ds.sl l1)
   ·simp[aA,s,m,l.g2,l.rd];exact fin _ l Ds.nil Ds.nil
 iterate 2
  ·have I:=bk.put p (bS+1) (MV c j q n z (sl (u.map (T.int .i64))) dH);simp[C,N,aE,s,m,J,a1,a2,a3,a4,a6,aX,ae];obtain⟨R,S,fo,Z,F,bp,gk,a1,a2,a3,a4,l2,t2,X⟩:=b8 _ I.tw;have ds:=I.call X t2 p;obtain⟨fl,c4⟩:=ds.g3;have eI:=λQ=>(dQ c4 Q (b.size+3)).trans (aq rfl);have bn:=ds.put p (fl+1) (MV c j q n z (sl (u.map (T.int .i64))) (sl (bp.map (T.int .i64))));replace ae:=ae (dI 7 (bS+1) [MV c j q n z (sl (u.map (T.int .i64))) dH]);generalize d8 fB _ _=gj at*
   refine em (λal=> ?_) (λal=> ?_)
   ·have dv:=bn.g2;have ea:=bn.rd;simp at dv ea;simp[C,N,aA,aE,s,a1,a2,a3,a4,c4,aX,eI,dv,ea];exact fin _ bn (Ds.sl l1) (Ds.sl l2)
   ·simp[aA,s,ae,I.g2,I.rd];exact fin _ I (Ds.sl l1) Ds.nil
def QQ{j k:Type}{f:j->k->Prop}:∀{b:List j} {a:List k},b.length=a.length->(∀(e:Nat) c d,b[e]? =some c->a[e]? =some d->f c d)->iG f b a:=by
 intro b;induction b with
 |nil=>intro a h _;cases a with|nil=>exact .nil|cons i a=>simp at h
 |cons p b n=>
  intro a h g;cases a with
  |nil=>simp at h
  |cons i a=>exact .cons (g 0 p i rfl rfl) (n (by simpa using h) λe c d l m=>g (e+1) c d (by simpa using l) (by simpa using m))
structure E0(lo bv:Nat)(h:H)(rs:List (List Int))(o:T)(xs:List T)(es:List T)(ver:Nat):Prop where
 gb:h.get bv=some ⟨1,0,ver,true,false,es⟩
 No:lo<=bv
 len:es.length=rs.length
 gr:∀(i:Nat) (e:T) (ns:List Int),es[i]? =some e->rs[i]? =some ns->Gr h e 1 (ns.map (T.int .i64))
 sep:∀(i:Nat) (e:T) (c:Nat),es[i]? =some e->dU e=some c->lo<=c/\c≠bv/\dU o≠some c/\∀(j:Nat) (e':T),es[j]? =some e'->dU e'=some c->i=j
 go:Gr h o 7 xs
 ob:∀c,dU o=some c->lo<=c/\c≠bv
variable {lo bv:Nat}{h h':H}{rs:List (List Int)}{o:T}{xs es:List T}{ver:Nat}
def E0.lt(e:E0 lo bv h rs o xs es ver){a:Nat}{b:T}{c:Nat}(d:es[a]? =some b)(f:dU b=some c):c<h.size:=by
 have g:a<rs.length:=by rw[<-e.len];exact(List.getElem?_eq_some_iff.1 d).1
 obtain⟨_,_,_,_,i,_⟩:=(e.gr a b rs[a] d (aB g)).box f;exact H.eJ i
def E0.olt(c:E0 lo bv h rs o xs es ver){a:Nat}(b:dU o=some a):a<h.size:=by
 obtain⟨_,_,_,_,d,_⟩:=c.go.box b;exact H.eJ d
def E0.kS(a:E0 lo bv h rs o xs es ver)(e:∀b,lo<=b->b<h.size->h'.get b=h.get b):E0 lo bv h' rs o xs es ver:=
 ⟨(e _ a.No (H.eJ a.gb)).trans a.gb,a.No,a.len,λg f j d i=>(a.gr g f j d i).mono λb c=>e b (a.sep g f b d c).1 (a.lt d c),a.sep,a.go.mono λb c=>e b (a.ob b c).1 (a.olt c),a.ob⟩
def E0.rda(a:E0 lo bv h rs o xs es ver){b:Nat}(j:b<lo):US b h (.arr bv 0 0 rs.length false) rs:=
 ⟨es,by rw[<-a.len];exact .inr ⟨bv,0,ver,true,es,rfl,a.gb,aL⟩,by have:=a.No;simp;omega,QQ a.len λe c g d f=>⟨a.gr e c g d f,λi=>by have:=(a.sep e c b d i).1;omega⟩⟩
def _root_.Go.TI.Gr.ml{h:H}{a:T}{e:Nat}{es:List T}(c:Gr h a e es)(b:T):TI.ml a 0 [b]=some b:=by
 rcases c with⟨rfl,_⟩|⟨f,i,ver,j,xs,rfl,_⟩<;>exact BQ λg d=>by cases d
def E0.app(a:E0 lo bv h rs o xs es ver){b:Nat}{f:T}{v:List Int}(g:es[b]? =some f)(J:rs[b]? =some v){n:Int}{u:T}{s:H}(x:Xt h f 1 ((v++[n]).map (T.int .i64)) u s)(I:lo<=h.size)(C:Nat):
 E0 lo bv (d8 s bv ⟨1,0,C,true,false,es.set b u⟩) (rs.set b (v++[n])) o xs (es.set b u) C/\s.get bv=some ⟨1,0,ver,true,false,es⟩:=by
 obtain⟨G,w,q,K⟩:=x;have E:=H.eJ a.gb;have t:b<es.length:=(List.getElem?_eq_some_iff.1 g).1;have r:s.get bv=some ⟨1,0,ver,true,false,es⟩:=(w bv E λe=>(a.sep b f bv g e).2.1 rfl).trans a.gb;refine⟨⟨(dQ r _ bv).trans (aq rfl),a.No,by simp[a.len],λl p F c j=> ?_,λl p i c d=> ?_,a.go.mono λi d=> ?_,a.ob⟩,r⟩
 ·by_cases e:b=l
  ·subst e;rw[dy t]at c;rw[dy (by rw[<-a.len];exact t)]at j;cases c;cases j;refine G.mono λi d=> ?_;rw[dQ r,ao];rintro rfl;rcases q _ d with k|k
   ·exact(a.sep b f _ g k).2.1 rfl
   ·omega
  ·rw[cI e]at c;rw[cI e]at j;refine(a.gr l p F c j).mono λi d=> ?_;have m:=a.sep l p i c d;rw[dQ r,ao m.2.1];exact w i (a.lt c d) λk=>e (m.2.2.2 b f g k).symm
 ·by_cases e:b=l
  ·subst e;rw[dy t]at c;cases c;refine⟨?_,?_,?_,λl p c y=> ?_⟩
   ·rcases q _ d with k|k
    ·exact(a.sep b f _ g k).1
    ·omega
   ·rcases q _ d with k|k
    ·exact(a.sep b f _ g k).2.1
    ·omega
   ·rcases q _ d with k|k
    ·exact(a.sep b f _ g k).2.2.1
    ·intro z;have:=a.olt z;omega
   ·by_cases e:b=l
    ·exact e
    ·rw[cI e]at c;rcases q _ d with k|k
     ·exact(a.sep b f _ g k).2.2.2 l p c y
     ·have:=a.lt c y;omega
  ·rw[cI e]at c;have m:=a.sep l p i c d;refine⟨m.1,m.2.1,m.2.2.1,λk D j A=> ?_⟩;by_cases B:b=k
   ·subst B;rw[dy t]at j;cases j;rcases q _ A with z|z
    ·exact m.2.2.2 b f g z
    ·have:=a.lt c d;omega
   ·rw[cI B]at j;exact m.2.2.2 k D j A
 ·rw[dQ r,ao (a.ob i d).2];exact w i (a.olt d) λk=>(a.sep b f i g k).2.2.1 d
def E0.out(a:E0 lo bv h rs o xs es ver){j:T}{n:List T}{f:H}(t:Xt h o 7 n j f)(v:lo<=h.size):E0 lo bv f rs j n es ver:=by
 obtain⟨u,k,l,w⟩:=t;have p:=H.eJ a.gb;refine⟨(k bv p λs=>(a.ob bv s).2 rfl).trans a.gb,a.No,a.len,λg e r d f=>(a.gr g e r d f).mono λc b=>k c (a.lt d b) (a.sep g e c d b).2.2.1,λg e c d b=> ?_,u,λc b=> ?_⟩
 ·have i:=a.sep g e c d b;refine⟨i.1,i.2.1,λq=> ?_,i.2.2.2⟩;rcases l _ q with z|z
  ·exact i.2.2.1 z
  ·have:=a.lt d b;omega
 ·rcases l _ b with z|z
  ·exact a.ob c z
  ·exact⟨dB,dB⟩
end
noncomputable section
open Go Go.TI
attribute [-simp] List.map_take List.map_drop List.map_append fH fh ej Bool.not_or Bool.not_and
attribute [simp] fG fj
attribute [-simp] size_cons
structure IPl where
 (L:List Int) (b:Nat) (s:eG) (w:ee) (n:Nat) (early:Bool)
def Uf(a:IPl)(d:List T)(c:H):Prop:=d=[.ptr a.b 0 0 0,a.s.t,a.w.t,dG a.n,.bool a.early]/\vm 0 a.L a.b c/\ij 0 c/\okB a.L/\a.L.length<=400/\a.n<=16/\a.w.dM.length=4/\a.w.cells.length=5/\a.w.gW.length<=1000/\nG a.w a.s=true/\sg 1000 a.s/\1<=a.s.ei.length
def Oi(a:IPl)(g:List T)(e:H)(f:T)(d:H):Prop:=∃c:List eK,f=sl (c.map eK.t)/\c.length<=a.n/\JU c/\runs a.w a.s c=true/\vm 0 a.L a.b d/\Sm a.b e d
def aev(a:eK)(d:H)(c:Nat->Prop):FT d c 2 a.t a.t:=by
 have e:∀b:List Int,FT d c 1 (sl (b.map (T.int .i64))) (sl (b.map (T.int .i64))):=λb=>o7 _ _ _ λg f=>by obtain⟨h,_,rfl⟩:=List.mem_map.1 f;simp
 exact .inr (.inr ⟨a.cs,a.cs,rfl,.cons (f9 ..) (.cons (f9 ..) (.cons (f9 ..) (.cons (f9 ..) (.cons (f9 ..) (.cons (e _) (.cons (e _) .nil)))))),rfl⟩)
def Rw{a:H}(g:ij 0 a)(b c d:iY):(∀e,e<a.size->(d8 ((a.cons b).cons c) (a.size+1) d).get e=a.get e)/\(d8 ((a.cons b).cons c) (a.size+1) d).get a.size=some b/\(d8 ((a.cons b).cons c) (a.size+1) d).get (a.size+1)=some d/\(d8 ((a.cons b).cons c) (a.size+1) d).size=a.size+2:=by
 have f:=m6 ((g.cons b).cons c).hp (show a.size+1<_ by simp[size_cons]);refine⟨λe h=> ?_,?_,?_,by simp[size_cons]⟩
 ·rw[f,ao dB,dW,ao (by rw[size_cons];omega),dW,ao dB]
 ·rw[f,ao dB,dW,ao (by rw[size_cons];omega),dW,aq rfl]
 ·rw[f,aq rfl]
def sY.two{h:Nat}{f:List Int}{b:Nat}{e a:H}(i:sY h f b e a)(k:b<e.size)(g d j:iY):sY h f b e (d8 ((a.cons g).cons d) (a.size+1) j):=
 ((i.cons g).cons d).put (c:=a.size+1) (x:=d) (by rw[dW,aq (by rw[size_cons])]) (by have:=i.w.size;omega) k j
def PlC(a:eG):Prop:=a.cells.length=5/\1<=a.ei.length/\a.fO.dM.length<=98/\a.count.length=4
def Yv(h:Nat)(d:List Int)(e:Nat)(a:H)(n:ee)(k:eG)(i:Nat)(g:T)(o:List T)(b:H):Prop:=∃c f m l,sY h d e (TI.hr a) b/\b.get a.size=some (dI 7 l [k.t])/\b.get (a.size+1)=some (dI 6 0 [n.t])/\E0 (a.size+2) (a.size+2) b c g o f m/\a.size+3<=b.size/\c.length=4/\∀j∈c,j.length<=i
def adL:(jF IPl Uf Oi).Ok Tryz.prog cx 39:=by
 refine qJ (tb:=⟨pt [(66,mI)],ht [(63,kE),(65,jF IEv Ob Fh)]⟩) fc fa (je 155347004713968546154151135 [(14,[(2,15)])] Tryz.func39) (λ_ _=>1000) (λi a e e9=>by obtain⟨rfl,_⟩:=e9;simp[Tryz.f39]) ?_;rintro⟨V,b,q,h,n,early⟩ _ e ⟨rfl,eo,eM,di,e4,e8,ea,eE,fi,b9,eD,e6⟩ r bB;simp only at eo di e4 e8 ea eE fi b9 eD e6;simp at bB;obtain⟨B,al,bi,C,W⟩:=bB;have an:=eo.tp.lt;have gi:(b=e.size)=False:=dD;have gj:(b=e.size+1)=False:=dD;simp[Tryz.f39,al,bi,ea];have cy:q.count.length=4:=by
  unfold nG at b9;simp only[ay,aJ]at b9;rw[b9.2,ea]
 generalize bz:(((TI.hr e).cons _).cons _).cons _=bu;have gp:bu.size=e.size+3:=by rw[<-bz];rfl
 have ey:sY 0 V b (TI.hr e) bu:=by rw[<-bz];exact(((sY.refl eM.hr (eo.eq (gF e b))).cons _).cons _).cons _
 have T:bu.get e.size=some (dI 7 0 [q.t]):=by rw[<-bz];simp
 have ae:bu.get (e.size+1)=some (dI 6 0 [h.t]):=by rw[<-bz];simp
 have eu:E0 (e.size+2) (e.size+2) bu [[],[],[],[]] dH [] [dH,dH,dH,dH] 0:=by
  rw[<-bz];refine⟨dC,au _,rfl,λi u gk al bi=> ?_,λi u c al bi=> ?_,Gr.nil _ _,dC⟩
  ·rcases i with _|_|_|_|i<;>simp at al bi<;>subst al bi<;>exact Gr.nil _ _
  ·rcases i with _|_|_|_|i<;>simp at al<;>subst al<;>simp at bi
 clear bz;have ce:Yv 0 V b e h q 0 dH [] bu:=⟨_,_,_,_,ey,T,ae,eu,dB,rfl,dC⟩;refine fI 4 dB (λj r y=>Yv 0 V b e h q j dH [] y/\dJ r 0 (.ptr b 0 0 0)/\dJ r 3 (dG n)/\dJ r 4 (.bool early)/\dJ r 6 (.ptr e.size 0 0 0)/\dJ r 7 (.ptr (e.size+1) 0 0 0)/\dJ r 11 dH/\dJ r 12 (.arr (e.size+2) 0 0 4 false)/\dJ r 22 (dG 4)/\dJ r 23 (dG j)) ?_ ?_ dB ⟨ce,by simp[B,C,W]⟩
 ·rintro j r y e7 cp ⟨⟨v,s,D,S,Y,T,ae,X,aE,P,H⟩,B,C,W,E,G,F,J,bk,bn⟩;have cL:j<q.count.length:=dB;have dm:(j:Int)<4:=dB;have fE:(b=e.size+2)=False:=dD;have et:Yv 0 V b e h q (j+1) dH [] y:=⟨v,s,D,S,Y,T,ae,X,aE,P,λM hr=>Nat.le_succ_of_le (H M hr)⟩;cases early with
  |false=>
   simp[B,C,W,E,G,F,J,bk,bn,dm,cp,et]
  |true=>
  by_cases eA:1<q.count[j]
  ·obtain⟨m,eN,dd,fY,aN,cX⟩:=Y.next (tb:=⟨pt [(66,mI)],ht [(63,kE),(65,jF IEv Ob Fh)]⟩) dC di 3 dB dB;simp[T,B,W,E,bk,bn,dm,cL,eA,dd];have L:E0 (e.size+2) (e.size+2) eN v dH [] s D:=X.kS λc o _=>cX.get c dB;have aX:=(cX.get e.size dB).trans T;have a6:=(cX.get (e.size+1) dB).trans ae;have bp:=cX.size;refine em (λbC=> ?_) (λbC=> ?_)
   ·have O:j<s.length:=by rw[L.len];omega
    have R:j<v.length:=dB;obtain⟨cb,aA,b7,ef,eh,K⟩:=(Xt.refl (L.gr j s[j] v[j] (aB O) (aB R)) aN.w.ok).Ti 1 (by have:=H v[j] (aC R);omega);obtain⟨I,a8⟩:=L.app (aB O) (aB R) K dB (D+1);have cy:=(L.gr j s[j] v[j] (aB O) (aB R)).cells;have bN:∀c,dU s[j]=some c->e.size+2<=c:=λc o=>(L.sep j s[j] c (aB O) o).1;have c7:=((aN.le (aw _)).xt K (λc ap=>by have:=bN c ap;simp;omega) (by simpa using an)).put a8 dC (by simpa using an) ⟨1,0,D+1,true,false,s.set j cb⟩;have A:∀c,c<e.size+2->(d8 aA (e.size+2) ⟨1,0,D+1,true,false,s.set j cb⟩).get c=eN.get c:=λc ap=>by
     rw[dQ a8,ao dB];exact K.2.1 c dB λo=>by have:=bN c o;omega
    have c6:=K.2.2.2.sz;simp[L.gb,B,C,W,E,G,F,J,bk,bn,e7,O,cp,cy,b7,ef,eh,a8,(L.gr j s[j] v[j] (aB O) (aB R)).ml];exact⟨_,_,_,S,c7,(A _ dB).trans aX,(A _ dB).trans a6,I,dD,by simp[P],λM hr=>by
     rcases bZ hr with k|rfl
     ·exact Nat.le_succ_of_le (H M k)
     ·have:=H v[j] (aC R);simp;omega⟩
   ·simp[B,C,W,E,G,F,J,bk,bn,cp];exact⟨v,s,D,S,aN.le (aw _),aX,a6,L,dB,P,λM hr=>Nat.le_succ_of_le (H M hr)⟩
  ·simp[T,B,C,W,E,G,F,J,bk,bn,dm,cL,cp,eA,et]
 clear ce eu T ae ey B al bi C W;have eB:=b9;unfold nG mK at eB;simp only[ay,aJ]at eB;rintro r y ⟨ce,B,C,W,E,G,F,J,bk,bn⟩;simp[bk,bn];refine QY 401 (λj r y=>(∃Q l,Yv j V b e h (qz h q l) (j+4) Q (l.map eK.t) y/\runs h q l=true/\l.length<=n/\JU l/\sg (1000+j) (qz h q l)/\PlC (qz h q l)/\dJ r 11 Q)/\dJ r 0 (.ptr b 0 0 0)/\dJ r 3 (dG n)/\dJ r 6 (.ptr e.size 0 0 0)/\dJ r 7 (.ptr (e.size+1) 0 0 0)/\dJ r 12 (.arr (e.size+2) 0 0 4 false)) ?_ dB (aw _) ⟨⟨dH,[],ce,rfl,aw _,λu e5=>by simp at e5,eD,?_,by simp[F]⟩,by simp[B,C,E,G,J]⟩
 ·rintro j r y fL ⟨⟨Q,l,⟨v,s,D,S,Y,T,ae,X,aE,P,H⟩,dn,eC,dk,ds,bH,F⟩,B,C,E,G,J⟩;obtain⟨gn,gm,eW,gd⟩:=Y.g;simp[B,C,F,X.go.len,eW];refine em (λbC=> ?_) (λbC=> ?_)
  ·simp at bC;have fS:j<V.length:=dB;simp[B,E,G,J,T,ae];refine iu adN dC ⟨V,b,j,qz h q l,h,.arr (e.size+2) 0 0 4 false,v⟩ ⟨rfl,Y.g,Y.w.ok,di,by have:=X.rda (b:=b) dB;rw[P]at this;exact this,P,λM hr=>by have:=H M hr;omega,bH.1,bH.2.1,bH.2.2.1,eE⟩ ?_;rintro _ U ⟨u,rfl,eV,dd,t1,bS⟩;simp only at eV dd t1 bS;have aN:=Y.call bS t1;have L:E0 (e.size+2) (e.size+2) U v Q (l.map eK.t) s D:=X.kS λc o _=>bS.get c dB;have aX:=(bS.get e.size dB).trans T;have a6:=(bS.get (e.size+1) dB).trans ae;have bp:=bS.size;have b8:=λ{tb:fN} (ht:tb.p 66=some mI)=>Bt ht h (qz h q l) u dB (ds.up dB) dB dB;have eH:(e.size=U.size)=False:=dD;have eI:(e.size+1=U.size)=False:=dD;have eF:=aN.w.ok.low;have c9:=λca=>aN.two (by simpa using an) (dI 7 1 [u.t]) (dI 7 0 [.agg [dH,dG 0,dH,dH,dH,dH,dH]]) (dI 7 1 [ca]);have N:=λca=>Rw aN.w.ok (dI 7 1 [u.t]) (dI 7 0 [.agg [dH,dG 0,dH,dH,dH,dH,dH]]) (dI 7 1 [ca]);cases o:p7 h (qz h q l) u with
   |false=>
    rw[lx o]at b8;simp[B,C,E,G,F,J,aX,a6,eH,eI,eF,b8];obtain⟨A,av,bT,c6⟩:=N ta.t;exact⟨dB,Q,l,⟨v,s,D,S,c9 _,(A _ dB).trans aX,(A _ dB).trans a6,L.kS λc _ o=>A c o,by rw[c6];omega,P,λM hr=>by have:=H M hr;omega⟩,dn,eC,dk,ds.up dB,bH,rfl⟩
   |true=>
    have dv:jY h (qz h q l) u=(ke h (qz h q l) u,true):=by unfold jY;rw[aq o]
    rw[dv]at b8;simp[E,G,aX,a6,eH,eI,eF,b8];have Z:=c9 (ke h (qz h q l) u).t;obtain⟨A,av,bT,c4⟩:=N (ke h (qz h q l) u).t;have a7:=(A e.size dB).trans aX;have bs:=(A (e.size+1) dB).trans a6;have I:E0 (e.size+2) (e.size+2) _ v Q (l.map eK.t) s D:=L.kS λc _ o=>A c o;clear b8 c9 N A;generalize d8 _ _ _=aA at*
    simp[av];have eP:Yv (j+1) V b e h (qz h q l) (j+4) Q (l.map eK.t) aA:=⟨v,s,D,S,Z,a7,bs,I,dB,P,H⟩;refine lq (λr c1=>(Yv (j+1) V b e h (qz h q l) (j+1+4) Q (l.map eK.t) c1/\U.size+2<=c1.size/\c1.get U.size=some (dI 7 1 [u.t])/\c1.get (U.size+1)=some (dI 7 1 [(ke h (qz h q l) u).t]))/\dJ r 0 (.ptr b 0 0 0)/\dJ r 3 (dG n)/\dJ r 6 (.ptr e.size 0 0 0)/\dJ r 7 (.ptr (e.size+1) 0 0 0)/\dJ r 11 Q/\dJ r 12 (.arr (e.size+2) 0 0 4 false)/\dJ r 14 (.ptr U.size 0 0 0)/\dJ r 15 (.ptr (U.size+1) 0 0 0)) (λbC=> ?_) (λbC=> ?_) ?_
    ·obtain⟨z,fe,fb⟩:∃z:Nat,z<4/\ka u.dZ=some z:=by
      have:=fw.1 (rh o).2.1;exact⟨u.dZ.toNat,dB,eQ this.1⟩
     have O:z<s.length:=by rw[I.len];omega
     have R:z<v.length:=dB;have cL:z<(qz h q l).count.length:=by have:=bH.2.2.2;omega
     have de:=I.gr z s[z] v[z] (aB O) (aB R);obtain⟨cb,er,b7,ef,eh,K⟩:=(Xt.refl de Z.w.ok).Ti (qz h q l).count[z] (by have:=H v[z] (aC R);omega);obtain⟨eR,a8⟩:=I.app (aB O) (aB R) K dB (D+1);have cy:=de.cells;have bN:∀c,dU s[z]=some c->e.size+2<=c:=λc o=>(I.sep z s[z] c (aB O) o).1;have c7:=(Z.xt K (λc ap=>by have:=bN c ap;simp;omega) (by simpa using an)).put a8 dC (by simpa using an) ⟨1,0,D+1,true,false,s.set z cb⟩;have c6:=K.2.2.2.sz;have eb:=λc (k:dU s[z]=some c)=>L.lt (aB O) k;have eL:∀c,c<aA.size->(∀k,dU s[z]=some k->k≠c)->er.get c=aA.get c:=λc aE bp=>K.2.1 c aE λk=>bp c k rfl;have A:∀c,c<aA.size->c≠e.size+2->(∀k,dU s[z]=some k->k≠c)->(d8 er (e.size+2) ⟨1,0,D+1,true,false,s.set z cb⟩).get c=aA.get c:=λc aE c4 bp=>by
      rw[dQ a8,ao c4];exact eL c aE bp
     have sv:ff (aA.cons (dI 1 0 [dG (qz h q l).count[z]])) er U.size=true:=fk ((eL _ dB λk o=>by have:=eb k o;omega).trans (by rw[dW,ao dB]));simp[I.gb,B,C,E,G,F,J,av,a7,fb,fe,O,cL,cy,b7,ef,eh,a8,de.ml,sv];refine⟨⟨_,_,_,S,c7,(A _ dB dB λk o=>by have:=bN k o;omega).trans a7,(A _ dB dB λk o=>by have:=bN k o;omega).trans bs,eR,dD,by simp[P],λM hr=> ?_⟩,dB,(A _ dB dB λk o=>by have:=eb k o;omega).trans av,(A _ dB dB λk o=>by have:=eb k o;omega).trans bT⟩;rcases bZ hr with k|rfl
     ·have:=H M k;omega
     ·have:=H v[z] (aC R);simp;omega
    ·simp[B,C,E,G,F,J];exact⟨⟨v,s,D,S,Z,a7,bs,I,dB,P,λM hr=>by have:=H M hr;omega⟩,dB,av,bT⟩
    ·have fA:∀c,dU Q=some c->c<U.size:=λc=>L.olt;clear eP Z a7 bs I av bT c4 B C E G F J;rintro r eO ⟨⟨⟨v,s,D,S,Z,a7,bs,I,c4,P,H⟩,gv,av,bT⟩,B,C,E,G,F,J,eX,e0⟩;obtain⟨fv,fC,b7,K⟩:=I.go.nq (cx:=cx) (f:=eK.t) Z.w.ok P5 rfl PY rfl dC (λ_=>rfl) u dD;have ec:∀c,dU Q=some c->e.size+2<=c:=λc k=>(I.ob c k).1;have A:∀c,c<eO.size->(∀k,dU Q=some k->k≠c)->fC.get c=eO.get c:=λc aE bp=>K.2.1 c aE λk=>bp c k rfl;have t6:=(A _ dB λk o=>by have:=fA k o;omega).trans bT;have b6:=(A e.size dB λk o=>by have:=ec k o;omega).trans a7;have eS:=I.out K dB;have eU:=(Z.xt K (λc ap=>by have:=ec c ap;simp;omega) (by simpa using an)).put b6 dC (by simpa using an) (dI 7 (S+1) [(ke h (qz h q l) u).t]);have bB:qz h q (l++[u])=ke h (qz h q l) u:=by
      show wj _ _ _=_;rw[Ix];show(jY h (qz h q l) u).1=_;rw[dv]
     have c6:=K.2.2.2.sz;simp[B,C,E,G,F,J,eX,e0,av,b7,t6,b6];refine⟨dB,fv,l++[u],⟨v,s,D,S+1,eU,?_,?_,eS.kS λc o _=> ?_,dD,P,H⟩,?_,?_,?_,?_,?_,rfl⟩
     ·rw[bB,dQ b6,aq rfl]
     ·rw[dQ b6,ao dB];exact(A (e.size+1) dB λk o=>by have:=ec k o;omega).trans bs
     ·rw[dQ b6,ao dB]
     ·rw[BS,dn];simp[runs,qD,o]
     ·simp;omega
     ·intro x hx;rcases List.mem_append.1 hx with hx|hx
      ·exact dk x hx
      ·simp at hx;subst hx;omega
     ·have:=ds.step h u;rw[dv]at this;rw[bB];exact this
     ·have:=x8 h (qz h q l).fO u.dZ u.kind u.obj (kX u);obtain⟨fl,fo,gg,fs⟩:=bH;rw[bB];exact⟨by unfold ke;simp only;split<;>simp[fl],by unfold ke;simp only;split<;>simp[fo],by show(fg ..).1.dM.length<=_;omega,by unfold ke;simp[fs]⟩
  ·simp[F];exact(Y.le (aw _)).cut eM an (X.go.ZF (d:=2) dB (λc ap=>by have:=(X.ob c ap).1;omega) aev) λca fB=>⟨l,rfl,eC,dk,dn,fB,ca⟩
 ·exact(⟨dB,dB,dB,dB⟩:PlC q)
end
noncomputable section
open Go Go.TI
attribute [-simp] List.map_take List.map_drop List.map_append
def BW:iq:=⟨Int×Nat,λa=>[dG a.1,dG a.2],λa=>True,λa=> .bool (jt a.1 a.2),λa c b=>by simp at b;rw[b.1,show a.2=c.2 by omega]⟩
def VF:BW.Ok Tryz.prog cx 112:=by
 refine iC (tb:=⟨pt [],ht []⟩) fc fa (je 19 [] Tryz.func112) (λf=>1) (by simp[BW]) (by simp[BW,Tryz.f112]) ?_;rintro⟨e,g⟩ _ h a;simp[BW]at a|-;obtain⟨b,c⟩:=a;by_cases d:0<=e<;>simp[Tryz.f112,b,c,d,jt]
def Qv{c:fN}(ht:c.p 112=some BW)(a:Int)(b:Nat):rl Tryz.prog cx c 112 [dG a,dG b]=some (.bool (jt a b)):=iv ht VF (a,b) trivial
def Gt(c:fF)(b:Int):Bool:=match xr c.j7.count b with|some a=>decide (1<=a)|none=>false
def tX:iq:=⟨fF×Int,λa=>[a.1.t,dG a.2],λa=>True,λa=> .bool (Gt a.1 a.2),λa c b=>by simp at b;rw[fF.inj b.1,b.2]⟩
def Mw:tX.Ok Tryz.prog cx 113:=by
 refine iC (tb:=⟨pt [(112,BW)],ht []⟩) fc fa (je 23 [] Tryz.func113) (λi=>1) (by simp[tX]) (by simp[tX,Tryz.f113]) ?_;rintro⟨h,g⟩ _ k d;simp[tX]at d|-;obtain⟨b,c⟩:=d;cases a:jt g h.j7.count.length with
 |false=>simp[Tryz.f113,b,c,Qv,a,Gt,qX a]
 |true=>
  obtain⟨j,e,f⟩:=iK a;simp[Tryz.f113,b,c,Qv,a,Gt,e,f,eQ (fw.1 a).1]
def wh{c:fN}(ht:c.p 113=some tX)(b:fF)(a:Int):rl Tryz.prog cx c 113 [b.t,dG a]=some (.bool (Gt b a)):=iv ht Mw (b,a) trivial
end
noncomputable section
open Go Go.TI
attribute [-simp] List.map_take List.map_drop List.map_append fH fh ej Bool.not_or Bool.not_and
attribute [simp] fG fj
def KR:nK Tryz.prog cx 114 (λa:fF×Int×Int=>[a.1.t,dG a.2.1,dG a.2.2]) (λa=>a.1.dS.length<=1000000) (λa v=>∃p:Int,v= dG p/\p<a.1.dS.length):=by
 refine ju (tb:=⟨pt [],ht []⟩) fc fa (je 20975823 [] Tryz.func114) (λa=>a.1.dS.length+5) (λa b c=>by simp at c;exact aP (fF.inj c.1) (aP c.2.1 c.2.2)) dC (by simp[Tryz.f114]) ?_;rintro⟨q,w,u⟩ hl d m;simp at hl m;obtain⟨r,e,f⟩:=m;simp[Tryz.f114,r];refine fI q.dS.length dB (λo d c=>∃l,ij 1 c/\c.get 0=some (dI 15 0 [q.t])/\dJ d 1 (dG w)/\dJ d 2 (dG l)/\dJ d 3 (.ptr 0 0 0 0)/\dJ d 7 (dG o)) ?_ ?_ dB ⟨u,⟨dC,dC,dC⟩,by simp[e,f]⟩
 ·rintro o d c s n ⟨l,h,i,e,f,j,g⟩;have x:=h.ne (b:=0) dB;simp[i,e,j,g,s];refine em (λk=> ?_) (λk=> ?_)
  ·simp[f];refine em (λk=> ?_) (λk=> ?_)
   ·simp[g,h.hp];omega
   ·simp[i,e,f,j,g,n,uv,h]
  ·simp[i,e,f,j,g,n,h]
 ·rintro d c ⟨l,h,i,e,f,j,g⟩;simp[i,j,g,h.hp];omega
def Cc:nK Tryz.prog cx 69 (λa:fF=>[a.t]) (λa=>a.j7.count.length<=1000000/\a.dS.length<=1000000) (λ_=>EM):=by
 refine ju (tb:=⟨pt [],ht []⟩) fc fa (je 268436511 [] Tryz.func69) (λa=>a.j7.count.length+5) (λo p b=>by simp at b;exact fF.inj b) dC (by simp[Tryz.f69]) ?_;rintro a ⟨hl,q⟩ c j;simp at j;simp[Tryz.f69,j];refine fI a.j7.count.length dB (λl c b=>∃i,ij 1 b/\b.get 0=some (dI 15 0 [a.t])/\dJ c 1 (.ptr 0 0 0 0)/\dJ c 3 (dG i)/\dJ c 4 (dG l)) ?_ ?_ dB ⟨0,⟨dC,dC,dC⟩,dC⟩
 ·rintro l c b k m ⟨i,g,d,e,h,f⟩;simp[d,e,f,k];refine em (λn=> ?_) (λn=> ?_)
  ·simp[g.hp]
  ·simp[d,e,h,f,k,m,oh,g]
 ·rintro c b ⟨i,g,d,e,h,f⟩;simp[d,e,h,f,oh,g.hp]
def IL(b:fF)(a:dP):Prop:=zj a=true->jt a.cond b.fq.gW.length=true
def yz:nK Tryz.prog cx 70 (λa:fF=>[a.t]) (λa=>a.j7.fO.dM.length<=1000000/\a.j7.fO.dM.length=a.j7.count.length) (λa=>MJ (∀m∈a.j7.fO.dM,IL a m)):=by
 refine ju (tb:=⟨pt [(112,BW)],ht []⟩) fc fa (je 162259279247065002620836359716991 [] Tryz.func70) (λa=>a.j7.fO.dM.length+5) (λu b d=>by simp at d;exact fF.inj d) dC (by simp[Tryz.f70]) ?_;rintro a ⟨hl,v⟩ g o;simp at o;simp[Tryz.f70,o];refine fI a.j7.fO.dM.length dB (λc g d=>ij 1 d/\d.get 0=some (dI 15 0 [a.t])/\dJ g 1 (.ptr 0 0 0 0)/\dJ g 3 (sl (a.j7.fO.dM.map dP.t))/\dJ g 4 (dG c)/\∀m∈a.j7.fO.dM.take c,IL a m) ?_ ?_ dB ⟨⟨dC,dC,dC⟩,dC⟩
 ·rintro c g d n q ⟨f,j,k,h,i,l⟩;have r:a.j7.fO.dM.take (c+1)=a.j7.fO.dM.take c++[a.j7.fO.dM[c]]:=aW n;have w:=f.ne (b:=0) dB;simp[j,k,h,i,n,show c<a.j7.count.length by omega];refine em (λe=> ?_) (λe=> ?_)
  ·simp[f.hp]
  clear e;simp[j,k,h,i,n,Qv];refine em (λe=> ?_) (λe=> ?_)
  ·simp[f.hp]
  simp[j,k,h,i,q,f];generalize a.j7.fO.dM[c]=m at*
  rw[r];intro s hu;rcases List.mem_append.1 hu with hu|hu
  ·exact l s hu
  rw[List.mem_singleton.1 hu];intro p;unfold zj at p;rw[p]at e;simpa using e
 ·rintro g d ⟨f,j,k,h,i,l⟩;rw[aL]at l;simp[h,i,f.hp];exact l
def zQ:nK Tryz.prog cx 72 (λa:fF×Int×List Int=>[a.1.t,dG a.2.1,sl (a.2.2.map (T.int .i64))]) (λa=>a.1.dS.length<=1000000/\jt a.2.1 a.1.j7.count.length=true/\a.2.2.length<=1000000) (λ_=>EM):=by
 refine ju (tb:=⟨pt [(114,KR.jx)],ht []⟩) fc fa (je 576460752336982479 [] Tryz.func72) (λa=>a.2.2.length+5) (λa b c=>by simp at c;exact aP (fF.inj c.1) (aP c.2.1 (jy (λ_ _ c=>by simpa using c) c.2.2))) dC (by simp[Tryz.f72]) ?_;rintro⟨u,y,s⟩ ⟨hl,p,B⟩ h w;simp only at hl p B;simp at w;obtain⟨A,e,d⟩:=w;obtain⟨z,n,_⟩:=iK p;have ht:=eQ (fw.1 p).1;simp[Tryz.f72,A];refine fI s.length dB (λr h c=>ij 1 c/\c.get 0=some (dI 15 0 [u.t])/\dJ h 1 (dG y)/\dJ h 2 (sl (s.map (T.int .i64)))/\dJ h 3 (.ptr 0 0 0 0)/\dJ h 7 (dG r)) ?_ ?_ dB ⟨⟨dC,dC,dC⟩,by simp[e,d]⟩
 ·rintro r h c q x ⟨g,i,e,d,j,f⟩;have G:=g.ne (b:=0) dB;obtain⟨_,⟨k,rfl,C⟩,m⟩:=KR.use (u,y,IntKind.i64.wrap (s[r]-z)) hl;simp only at m C;simp[i,e,d,j,f,q,ht,n];refine em (λo=> ?_) (λo=> ?_)
  ·simp[i,e,d,j,f,x,g]
  have D:decide (k<0)=true\/decide (k<0)=false/\ka k=some k.toNat/\∃v,u.dS[k.toNat]? =some v:=by
   by_cases l:k<0
   ·exact .inl (bI l)
   ·exact .inr ⟨aR l,eQ dB,_,aB dB⟩
  rcases D with l|⟨l,E,v,F⟩
  ·simp[i,e,d,j,f,q,ht,n,uv,m,g.hp,l]
  ·simp[i,e,d,j,f,q,ht,n,uv,m,l,E,F];refine em (λo=> ?_) (λo=> ?_)
   ·simp[g.hp]
   ·simp[i,e,d,j,f,x,g]
 ·rintro h c ⟨g,i,e,d,j,f⟩;simp[d,f,g.hp]
structure aeO(w:fF):Prop where
 l1:w.j7.fO.ew.length<=1000000
 l2:w.j7.fO.dM.length<=1000000
 l3:∀l∈w.j7.fO.ew,l.eY.length<=1000000
 e:w.j7.fO.ew.length=w.fq.ew.length
 t:∀t∈w.j7.fO.dM,IL w t
 m:∀c∈w.fq.gW,jt c.kG w.j7.fO.ew.length=true
def AI:nK Tryz.prog cx 71 (λc:fF=>[c.t]) aeO (λ_=>EM):=by
 refine ju (tb:=⟨pt [(113,tX)],ht []⟩) fc fa (je 5575186465791384471966860632566831987622399 [] Tryz.func71) (λc=>1000005) (λa b g=>by simp at g;exact fF.inj g) dC (by simp[Tryz.f71]) ?_;rintro c s f O;simp at O;simp[Tryz.f71,O];refine fI c.j7.fO.ew.length (by have:=s.l1;omega) (λj f g=>ij 2 g/\g.get 0=some (dI 15 0 [c.t])/\g.get 1=some (dI 4 1 [c.j7.fO.t])/\dJ f 1 (.ptr 0 0 0 0)/\dJ f 3 (.ptr 1 0 0 0)/\dJ f 4 (dG j)) ?_ ?_ (by have:=s.l1;omega) ⟨⟨dC,dC,dC⟩,dC⟩
 ·rintro j f g E H ⟨h,p,l,d,i,r⟩;have w:=h.ne (b:=0) dB;have F:=h.ne (b:=1) dB;have X:=s.l3 _ (aC E);have S:j<c.fq.ew.length:=by have:=s.e;omega
  simp[p,l,d,i,r,E,w,h.low,wh,S];have U:ij 2 (g.cons (dI 2 1 [c.j7.fO.ew[j].t])):=h.cons _;have Y:2<=g.size:=h.sz;generalize c.j7.fO.ew[j]=o at*
  refine em (λk=> ?_) (λk=> ?_)
  ·simp[h.hp]
  clear k;simp;refine fI o.eY.length dB (λq f v=>ij 2 v/\g.size<v.size/\v.get 0=some (dI 15 0 [c.t])/\v.get 1=some (dI 4 1 [c.j7.fO.t])/\v.get g.size=some (dI 2 1 [o.t])/\dJ f 1 (.ptr 0 0 0 0)/\dJ f 3 (.ptr 1 0 0 0)/\dJ f 4 (dG j)/\dJ f 5 (.ptr g.size 0 0 0)/\dJ f 6 (dG q)) ?_ ?_ dB ⟨U,dC,by simp[p,l,d,i,r,w,F]⟩
  ·rintro q f v R P ⟨C,K,x,G,y,d,i,r,z,A⟩;have T:=kN (a:=q) (b:=1) dB dB;have I:decide (0<q)=false/\True/\(∃D:Int,D=D)\/decide (0<q)=true/\ka ((q:Int)-1)=some (q-1)/\∃D,o.eY[q-1]? =some D:=by
    by_cases u:0<q
    ·refine .inr ⟨bI u,?_,_,aB dB⟩;rw[show(q:Int)-1=((q-1:Nat):Int)by omega];exact eQ dB
    ·exact .inl ⟨aR u,trivial,0,rfl⟩
   rcases I with⟨u,_,D,J⟩|⟨u,M,D,J⟩
   ·simp[x,y,d,z,A,R,wh,u];refine em (λk=> ?_) (λk=> ?_)
    ·simp[C.hp]
    ·simp[x,G,y,d,i,r,z,A,P,C,K]
   ·simp[x,y,d,z,A,R,wh,u,M,J,T];refine em (λk=> ?_) (λk=> ?_)
    ·simp[C.hp]
    ·simp[x,G,y,d,i,r,z,A,P,C,K]
  ·rintro f v ⟨C,K,x,G,y,d,i,r,z,A⟩;simp[x,G,y,d,i,r,z,A,H,C]
 ·rintro f g ⟨h,p,l,d,i,r⟩;simp[p,l,d,i,r,wh];refine em (λk=> ?_) (λk=> ?_)
  ·simp[h.hp]
  clear k;simp;refine fI c.j7.fO.dM.length (by have:=s.l2;omega) (λj f g=>ij 2 g/\g.get 0=some (dI 15 0 [c.t])/\g.get 1=some (dI 4 1 [c.j7.fO.t])/\dJ f 1 (.ptr 0 0 0 0)/\dJ f 3 (.ptr 1 0 0 0)/\dJ f 7 (dG j)) ?_ ?_ (by have:=s.l2;omega) ⟨h,by simp[p,l,d,i]⟩
  ·rintro j f g E H ⟨h,p,l,d,i,B⟩;have w:=h.ne (b:=0) dB;have F:=h.ne (b:=1) dB;have ht:=s.t _ (aC E);simp[p,l,d,i,B,E,w,h.low,wh];refine em (λk=> ?_) (λk=> ?_)
   ·simp[h.hp]
   clear k;have I:zj c.j7.fO.dM[j]=false/\True/\True/\(∃n:iT,n=n/\∃o:eg,o=o)\/zj c.j7.fO.dM[j]=true/\ka c.j7.fO.dM[j].cond=some c.j7.fO.dM[j].cond.toNat/\True/\(∃n,c.fq.gW[c.j7.fO.dM[j].cond.toNat]? =some n/\ka n.kG=some n.kG.toNat/\∃o,c.j7.fO.ew[n.kG.toNat]? =some o):=by
    cases u:zj c.j7.fO.dM[j]
    ·exact .inl ⟨rfl,trivial,trivial,default,rfl,default,rfl⟩
    ·have d:=ht u;obtain⟨n,Q,_⟩:=iK d;have N:=s.m n (ax Q);obtain⟨o,hl,_⟩:=iK N;exact .inr ⟨rfl,eQ (fw.1 d).1,trivial,n,Q,eQ (fw.1 N).1,o,hl⟩
   unfold zj at I;rcases I with⟨L,_,_,n,_,o,_⟩|⟨L,M,_,n,J,V,o,W⟩
   ·simp[p,l,d,i,B,w,F,L,H,h.cons]
   ·simp[p,l,d,i,B,w,F,L,M,J,V,W];refine em (λk=> ?_) (λk=> ?_)
    ·simp[h.hp]
    ·simp[p,l,d,i,B,w,F,H,h.cons]
  ·rintro f g ⟨h,p,l,d,i,B⟩;simp[l,i,B,h.hp]
structure abY(w:fF):Prop where
 c:w.j7.count.length<=1000
 ev:w.dS.length<=1000000
 l:w.j7.fO.ew.length<=1000
 t:w.j7.fO.dM.length<=1000
 d:w.j7.fO.done.length<=1000
 f:w.j7.ei.length<=1000
 r:∀l∈w.j7.fO.ew,l.eY.length<=1000
 sm:sg 1000 w.j7
 wb:j4 w.fq=true
 es:JU w.dS
def Eo:nK Tryz.prog cx 40 (λd:fF=>[d.t]) (λd=>abY d/\nG d.fq d.j7=true/\d.dS.length<=16) (λ_=>EM):=by
 refine ju (tb:=⟨pt [(67,vJ),(68,uC),(69,Cc.jx),(70,yz.jx),(71,AI.jx),(66,mI),(72,zQ.jx)],ht []⟩) fc fa (je 324518553667945246868126660821503 [] Tryz.func40) (λd=>1000005) (λa b g=>by simp at g;exact fF.inj g) dC (by simp[Tryz.f40]) ?_;rintro d ⟨i,O,b6⟩ k M;simp at M;have P:=O;unfold nG at P;simp only[ay,aJ]at P;obtain⟨⟨⟨bn,_⟩,bT⟩,bk⟩:=P;have H:=bn;unfold mK at H;simp only[ay,aJ]at H;obtain⟨b7,b8,b9,ca,cb,ce⟩:=tI i.wb;have bp:∀n∈d.fq.gW,jt n.kG d.j7.fO.ew.length=true:=λn a8=>by
  rw[H.1.1.2];exact List.all_eq_true.1 H.1.1.1 n a8
 have Y:d.fq.gW.length<=1099511627776:=dB;have al:j4 d.fq=true:=i.wb;obtain⟨_,⟨bC,rfl⟩,W⟩:=Cc.use d ⟨by have:=i.c;omega,i.ev⟩;obtain⟨_,⟨aA,rfl,a7⟩,X⟩:=yz.use d ⟨by have:=i.t;omega,dB⟩;cases aA with
 |false=>simp[Tryz.f40,M,yY,Gq,al,O,W,X,Y]
 |true=>
 obtain⟨_,⟨bH,rfl⟩,aE⟩:=AI.use d ⟨by have:=i.l;omega,by have:=i.t;omega,λl s=>by have:=i.r l s;omega,dB,a7 rfl,bp⟩;simp[Tryz.f40,M,yY,Gq,al,O,W,X,aE,Y];refine em (λu=> ?_) (λu=> ?_)
 ·simp
 clear u;simp;refine fI d.j7.ei.length (by have:=i.f;omega) (λe k g=>ij 1 g/\g.get 0=some (dI 15 0 [d.t])/\dJ k 1 (.ptr 0 0 0 0)/\dJ k 3 (dG e)) ?_ ?_ (by have:=i.f;omega) ⟨⟨dC,dC,dC⟩,dC⟩
 ·rintro e k g B N ⟨o,v,j,E⟩;have bi:e<d.j7.fO.done.length:=dB;simp[v,j,E,B,bi];refine em (λu=> ?_) (λu=> ?_)
  ·simp[o.hp]
  ·simp[v,j,E,N,o]
 rintro k g ⟨o,v,j,E⟩;have bu:=o.ne (b:=0) dB;simp[v,j,E,o.low];obtain⟨J,bN⟩:∃J,g.size=J:=⟨_,rfl⟩;have bS:1<=J:=by have:=o.sz;omega
 refine fI d.dS.length dB (λe k h=>∃I m,sg (1000+e) m/\ij 1 h/\g.size<h.size/\h.get 0=some (dI 15 0 [d.t])/\h.get g.size=some (dI 7 I [m.t])/\dJ k 1 (.ptr 0 0 0 0)/\dJ k 4 (.ptr g.size 0 0 0)/\dJ k 5 (dG e)) ?_ ?_ dB ⟨1,d.j7,i.sm,o.cons _,dC,by simp[v,j,bu]⟩
 ·rintro e k h B N ⟨I,m,S,q,bs,w,D,j,F,y⟩;have an:=q.ne (b:=0) dB;have ap:(g.size=h.size)=False:=dD;have G:=i.es d.dS[e] (aC B);have x:=λ{tb:fN} (ht:tb.p 66=some mI)=>Bt ht d.fq m d.dS[e] dB (S.up dB) G.1 G.2;have R:ij 1 ((h.cons (dI 7 1 [d.dS[e].t])).cons (dI 7 0 [T.agg [T.dN [] false,T.int .i64 0,T.dN [] false,T.dN [] false,T.dN [] false,T.dN [] false,T.dN [] false]])):=(q.cons _).cons _;have C:=m6 R.hp (show h.size+1<_ by simp);cases s:p7 d.fq m d.dS[e]with
  |false=>
   rw[lx s]at x;simp[w,D,j,F,y,B,an,ap,q.low,x,q.hp]
  |true=>
   have Z:jY d.fq m d.dS[e]=(ke d.fq m d.dS[e],true):=by unfold jY;rw[aq s]
   have bB:sg (1000+(e+1)) (ke d.fq m d.dS[e]):=by have:=S.step d.fq d.dS[e];rw[Z]at this;exact this
   rw[Z]at x;have ae:jt d.dS[e].dZ d.j7.count.length=true:=by
    unfold p7 at s;simp only[ay]at s;rw[bk];exact s.1.1.1.1.1.1.1.1.2
   obtain⟨_,⟨r1,rfl⟩,K⟩:=zQ.use (d,d.dS[e].dZ,d.dS[e].mG) ⟨dE,ae,G.1⟩;obtain⟨_,⟨r2,rfl⟩,L⟩:=zQ.use (d,d.dS[e].dZ,d.dS[e].vh) ⟨dE,ae,G.2⟩;simp only at K L;simp[w,D,j,F,y,B,an,ap,q.low,x,K,L,C];generalize A:d8 _ (h.size+1) _=z;have Q:ij 1 z:=by rw[<-A];exact R.put _ _
   have cp:z.size=h.size+1+1:=by rw[<-A];simp
   have U:∀n,n≠h.size+1->n≠h.size->z.get n=h.get n:=λn av bz=>by rw[<-A,C,ao av];simp[av,bz]
   have aN:=(U 0 dB dB).trans w;have aX:=(U g.size dB dB).trans D;have a6:z.get (h.size+1)=some (dI 7 1 [(ke d.fq m d.dS[e]).t]):=by rw[<-A,C,aq rfl]
   clear A C R x K L;refine em (λu=> ?_) (λu=> ?_)
   ·simp[Q.hp]
   ·simp[aX,a6,j,F,y,N];have V:=m6 Q.hp (show g.size<z.size by omega);exact⟨I+1,_,bB,Q.put _ _,dB,(V _ 0).trans ((ao dB).trans aN),(V _ g.size).trans (aq rfl)⟩
 ·rintro k h ⟨I,m,S,q,bs,w,D,j,F,y⟩;simp[w,j,y,q.hp]
end
noncomputable section
open Go Go.TI
attribute [-simp] List.map_take List.map_drop List.map_append fH fh ej Bool.not_or Bool.not_and
attribute [simp] fG fj
attribute [-simp] size_cons
def GD.fits{a:eG}(h:GD a):nG jq a=true:=by
 obtain⟨b,c,d,e,f,g⟩:=h.n;unfold nG mK;rw[b,c,d,e,f,g];decide
def GD.sm{d:eG}(b:GD d):sg 1000 d:=by
 obtain⟨g,h,i,j,k,l⟩:=b.n;refine⟨dB,λa hl=>by have:=(b.r a hl).1;omega,λa hl=> ?_,λe f=>by have:=b.c e f;omega⟩;have:=(b.r a hl).1
 match hr:a.eY with
 | []=>exact List.Pairwise.nil
 | [x]=>exact List.pairwise_singleton _ _
 |x::o::m=>rw[hr]at this;simp at this
def GD.ask{c:eG}(b:GD c){a:List eK}(hl:a.length<=16)(d:JU a)(e:Int):abY ⟨jq,e,c,a⟩:=by
 obtain⟨f,g,h,i,j,k⟩:=b.n;exact⟨dE,dE,dE,dE,dE,dE,λa hl=>by have:=(b.r a hl).1;omega,b.sm,I3,d⟩
def GD.win{d:eG}(c:GD d){b:List eK}(hl:b.length<=16)(e:JU b)(hr:runs jq d b=true)(f:Int):ny ⟨jq,f,d,b⟩:=
 ⟨⟨hl,(by decide:jq.dM.length<=4),hr,c.sm.a⟩,I3,c.sm,e,λb hl=>(c.r b hl).2⟩
def U9(b:Int):ny ⟨jq,b,jT jq,[]⟩:=
 ⟨⟨dC,(by decide:jq.dM.length<=4),rfl,sx _⟩,I3,(uw jq dF).up dB,λc a=>by simp at a,vy 4 jq⟩
abbrev wT(c:Int)(a:eG)(b:T):T:= .agg [sl (jq.cells.map ig.t),sl (jq.ew.map iF.t),sl (jq.gW.map iT.t),sl (jq.ei.map T.str),sl (jq.dM.map T.str),sl (jq.iH.map iI.t),dG c,sl (a.fO.ew.map eg.t),dG a.fO.tx,sl (a.fO.done.map T.bool),sl (a.fO.dM.map dP.t),sl (a.cells.map (T.int .i64)),sl (a.ei.map (T.int .i64)),sl (a.count.map (T.int .i64)),b]
structure UN(L:List Int)(s:eG)(n:Int)(e:T)(y:H):Prop where
 g0:y.get 0=some (dI 15 0 [.agg [dH,dH,dH,dH,dH,dH,dG 0,dH,dG 0,dH,dH,dH,dH,dH,dH]])
 g2:∃ver,y.get 2=some (dI 15 ver [wT n s e])
 tp:vm 0 L 1 y
 ok:ij 3 y
def UN.tape{b:List Int}{g:eG}{f:Int}{e:T}{h d:H}(c:UN b g f e h)(j:vm 0 b 1 d)(a:Sm 1 h d):UN b g f e d:=by
 obtain⟨k,i⟩:=c.g2;exact⟨(a.get 0 dB).trans c.g0,⟨k,(a.get 2 dB).trans i⟩,j,a.ok.hp,a.ok.low,by rw[a.size];exact c.ok.sz⟩
def UN.put{i:List Int}{d:eG}{n:Int}{k:T}{j:H}(a:UN i d n k j)(h:Nat)(g:Int)(f:T):UN i d g f (d8 j 2 (dI 15 h [wT g d f])):=by
 have e:=m6 (b:=2) a.ok.hp (by have:=a.ok.sz;omega) (dI 15 h [wT g d f]);exact⟨(e 0).trans ((ao dB).trans a.g0),⟨h,(e 2).trans (aq rfl)⟩,a.tp.eq ((e 1).trans (ao dB)),a.ok.put _ _⟩
def TF(b:T):Prop:=∃a:fF,b=a.t/\ny a
def Fj:nK Tryz.prog cx 18 (λr:List Int×Nat=>[sl (r.1.map (T.int .u8)),dG r.2]) (λr=>okB r.1/\r.2<=16) (λ_=>TF):=by
 refine ju (tb:=⟨pt [(37,Fa),(41,oG),(40,Eo.jx)],ht [(38,jF IBg Uo Jh),(39,jF IPl Uf Oi)]⟩) fc fa (je 1125900913478003 [] Tryz.func18) (λ_=>10) (λr b y=>by simp at y;exact aP (jy (λ_ _ y=>by simpa using y) y.1) (by have:=y.2;omega)) dC (by simp[Tryz.f18]) ?_;rintro⟨D,B⟩ ⟨H,S⟩ e P;simp only at H S;simp at P;obtain⟨q,h⟩:=P;simp[Tryz.f18,q];refine lq (λe k=>(∃i:List Int,okB i/\i.length<=400/\dJ e 0 (sl (i.map (T.int .u8))))/\k=hE.cons (dI 15 0 [.agg [dH,dH,dH,dH,dH,dH,dG 0,dH,dG 0,dH,dH,dH,dH,dH,dH]])/\dJ e 1 (dG B)/\dJ e 4 (.ptr 0 0 0 0)) (λA=> ?_) (λA=> ?_) ?_
 ·simp at A;simp[q,h,show 400<=D.length by omega];refine⟨D.take 400,⟨dD,λx aE=>H.2 x (bE aE)⟩,dD,rfl⟩
 ·simp at A;simp[q,h];exact⟨D,H,dB,rfl⟩
 rintro e _ ⟨⟨i,O,an,q⟩,rfl,h,l⟩;simp[q,Lp];generalize u:((hE.cons _).cons _).cons _=w;have bu:w.size=3:=by rw[<-u];rfl
 have a7:ij 0 w:=by rw[<-u];exact⟨dC,by simp[size_cons],dC⟩
 have a8:w.get 0=some (dI 15 0 [.agg [dH,dH,dH,dH,dH,dH,dG 0,dH,dG 0,dH,dH,dH,dH,dH,dH]]):=by rw[<-u];simp[size_cons]
 have bi:w.get 1=some (dI 2 0 [.agg [sl (i.map (T.int .u8)),dG 0]]):=by rw[<-u];simp[size_cons]
 have bk:w.get 2=some (dI 15 1 [.agg [sl (jq.cells.map ig.t),sl (jq.ew.map iF.t),sl (jq.gW.map iT.t),sl (jq.ei.map T.str),sl (jq.dM.map T.str),sl (jq.iH.map iI.t),dG 0,dH,dG 0,dH,dH,dH,dH,dH,dH]]):=by rw[<-u];simp[size_cons]
 clear u;refine iu adO dC ⟨i,1⟩ ⟨rfl,⟨0,0,bi,dC⟩,a7,O⟩ ?_;rintro _ k ⟨g,rfl,j,t1,o⟩;simp only at t1 o;have bp:=(o.get 2 dB).trans bk;have bn:=(o.get 0 dB).trans a8;have cb:k.size=3:=by rw[o.size,bu]
 have al:=λd=>(m6 (b:=2) o.ok.hp dB d 2).trans (aq rfl);simp[bp,al];have C:UN i g 0 dH (d8 k 2 (dI 15 2 [wT 0 g dH])):=by
  have v:=m6 (b:=2) o.ok.hp dB (dI 15 2 [wT 0 g dH]);exact⟨(v 0).trans ((ao dB).trans bn),⟨2,(v 2).trans (aq rfl)⟩,t1.eq ((v 1).trans (ao dB)),ij.put ⟨o.ok.hp,o.ok.low,dB⟩ _ _⟩
 generalize d8 k 2 _=Y at*
 refine fI 4 dB (λm e k=>(∃f:Int,UN i g f dH k/\0<=f/\f<=4*m)/\dJ e 1 (dG B)/\dJ e 4 (.ptr 0 0 0 0)/\dJ e 5 (.ptr 1 0 0 0)/\dJ e 6 (.ptr 2 0 0 0)/\dJ e 26 (sl (g.count.map (T.int .i64)))/\dJ e 27 (dG 4)/\dJ e 28 (dG m)) ?_ ?_ dB ⟨⟨0,C,dB,dB⟩,by simp[h,l,j.n.2.2.2.2.2]⟩
 ·clear C q h l;rintro m e k bH ap ⟨⟨f,a,aN,aX⟩,h,l,G,z,N,E,F⟩;have av:(m:Int)<4:=dB;have R:m<g.count.length:=by have:=j.n.2.2.2.2.2;omega
  obtain⟨K,s⟩:=a.g2;have bC:=j.c g.count[m] (aC R);have W:binop .add (dG f) (dG g.count[m])=some (dG (f+g.count[m])):=za rfl dB dB;simp[h,l,G,z,N,E,F,av,R,s,W,ap];exact⟨_,a.put _ _ _,dB,dB⟩
 clear C q h l;rintro e k ⟨⟨f,a,aN,aX⟩,h,l,G,z,N,E,F⟩;obtain⟨K,s⟩:=a.g2;have a6:min (B:Int) 16=B:=dB;simp[h,G,z,E,F,s,a6];obtain⟨bS,bT,b6,b7,b8,b9⟩:=j.n;refine iu adL dC ⟨i,1,g,jq,B,true⟩ ⟨rfl,a.tp,⟨a.ok.hp,a.ok.low,aw _⟩,O,an,S,(by decide:jq.dM.length=4),(by decide:jq.cells.length=5),(by decide:jq.gW.length<=1000),j.fits,j.sm,dE⟩ ?_;rintro _ ca ⟨I,rfl,hl,Q,hr,t2,V⟩;simp only at hl hr t2 V;replace a:=a.tape t2 V;clear s;obtain⟨K,s⟩:=a.g2;have bz:=a.put (K+1) f (sl (I.map eK.t));have M:=λd=>(m6 (b:=2) a.ok.hp (by have:=a.ok.sz;omega) d 2).trans (aq rfl);have aA:ny ⟨jq,f,g,I⟩:=j.win dB Q hr f;obtain⟨_,⟨bB,rfl⟩,ae⟩:=Eo.use ⟨jq,f,g,I⟩ ⟨j.ask dB Q f,j.fits,dE⟩;simp[z,s,M,ae];have v:=λd X=>m6 (b:=2) a.ok.hp (by have:=a.ok.sz;omega) d X;have L:=λd=>(v d 0).trans ((ao dB).trans a.g0);have Jp:=λd=>a.ok.put 2 d;have bs:=λd=>(Jp d).sz;have U:=λd J=>(m6 (b:=0) (Jp d).hp (by have:=bs d;omega) J 0).trans (aq rfl);have bN:=λd J=>((Jp d).put 0 J).hp;refine em (λA=> ?_) (λA=> ?_)
 ·have Z:=λ{tb:fN} (ht:tb.p 41=some oG)=>C2 ht jq dF dF dF dF;simp[l,Lp,Z,L,U];exact⟨⟨⟨jq,0,jT jq,[]⟩,rfl,U9 0⟩,a.ok.hp⟩
 ·simp[l,z,M,L,U];exact⟨⟨_,rfl,aA⟩,a.ok.hp⟩
end
noncomputable section
open Go Go.TI
attribute [-simp] List.map_take List.map_drop List.map_append fH fh ej Bool.not_or Bool.not_and
attribute [simp] fG fj
def uz:iq:=⟨Bool,λa=>[.bool a],λ_=>True,λa=> dG (if a then 1 else 0),λc a b=>by simp at b;rw[b]⟩
def OJ:uz.Ok Tryz.prog cx 250:=by
 refine iC (tb:=⟨pt [],ht []⟩) fc fa (je 13 [] Tryz.func250) (λ_=>5) (by simp[uz]) (by simp[uz,Tryz.f250]) ?_;rintro b _ c a;cases b<;>(simp[uz]at a|-;simp[Tryz.f250,a])
def Lt{b:fN}(ht:b.p 250=some uz)(a:Bool):rl Tryz.prog cx b 250 [.bool a]=some (dG (if a then 1 else 0)):=iv ht OJ a trivial
def V2(c:T):Prop:=∃(b:Int) (a:Bool),c= .tuple [dG b,.bool a]
def FB(b:Int)(a:Bool):V2 (.tuple [dG b,.bool a]):=⟨b,a,rfl⟩
def ZW{b:ak}{c a:Int}(e:¬a=0):binop .quo (.int b c) (.int b a)=some (.int b (b.wrap (c.tdiv a))):=by
 have d:Rk a 0=false:=by rw[xU];simp[e]
 unfold binop;simp[wS,d]
def ad6{a:ak}{b:Int}:unop .neg (.int a b)=some (.int a (a.wrap (0-b))):=by
 show pU a (0-b)=_;simp
def Hh:nK Tryz.prog cx 233 (λa:Int×Int=>[dG a.1,dG a.2]) (λ_=>True) (λ_=>V2):=by
 refine ju (tb:=⟨pt [(250,uz)],ht []⟩) fc fa (je 2291 [] Tryz.func233) (λ_=>5) (λa e b=>by simp at b;exact aP b.1 b.2) dC (by simp[Tryz.f233]) ?_;rintro⟨f,a⟩ _ g c;simp at c;simp[Tryz.f233,c]
 repeat' (refine em (λd=> ?_) (λd=> ?_)<;>simp[d,c,Lt,FB,ad6])
def Ez:nK Tryz.prog cx 235 (λa:Int×Int×Int=>[dG a.1,dG a.2.1,dG a.2.2]) (λ_=>True) (λ_=>V2):=by
 refine ju (tb:=⟨pt [(250,uz)],ht []⟩) fc fa (je 9690595855641090246329287 [] Tryz.func235) (λ_=>5) (λa e b=>by simp at b;exact aP b.1 (aP b.2.1 b.2.2)) dC (by simp[Tryz.f235]) ?_;rintro⟨g,a,e⟩ _ h c;simp at c;simp[Tryz.f235,c]
 repeat' (refine em (λd=> ?_) (λd=> ?_)<;>simp[d,c,Lt,FB,oh,uv,aaz])
 all_goals (have f:¬e=0:=by simpa using d)
 all_goals simp [ZW f,Dt f,FB]
def xK:nK Tryz.prog cx 234 (λa:Int=>[dG a]) (λ_=>True) (λ_=>EL):=by
 refine ju (tb:=⟨pt [],ht []⟩) fc fa (je 261 [] Tryz.func234) (λ_=>5) (λa e d=>by simpa using d) dC (by simp[Tryz.f234]) ?_;rintro a _ f b;simp at b;simp[Tryz.f234,b]
 repeat' (refine em (λc=> ?_) (λc=> ?_)<;>simp[c,b])
end
end Go.Proofs.YtmaeadedikngoaaGreatDoor
