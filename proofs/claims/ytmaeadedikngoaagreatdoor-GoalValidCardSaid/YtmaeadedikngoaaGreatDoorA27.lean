/- Texts X11 to W05. -/
import Derived.Test.YtmaeadedikngoaaGreatDoorA24
import Derived.Test.YtmaeadedikngoaaGreatDoorA26
set_option linter.unusedVariables false
set_option linter.unusedSimpArgs false
set_option linter.defProp false
set_option maxRecDepth 100000
set_option maxHeartbeats 8000000
namespace Go.Proofs.YtmaeadedikngoaaGreatDoor
noncomputable section
open Go Go.TI
attribute [-simp] List.map_take List.map_drop List.map_append fj eG dY Bool.not_or Bool.not_and
attribute [simp] fh eJ
attribute [-simp] size_cons
structure IBg where
 (L:List Int) (b:Nat)
def SO(a:IBg)(d:List T)(c:H):Prop:=d=[.ptr a.b 0 0 0,iY.t]/\uD 0 a.L a.b c/\gu 0 c/\okB a.L
structure FG(s:dW):Prop where
 n:s.fx.dV.length=3/\s.fx.done.length=1/\s.fx.dB.length=4/\s.cells.length=5/\s.dT.length=1/\s.count.length=4
 c:∀c∈s.count,0<=c/\c<=4
 r:∀l∈s.fx.dV,l.d8.length<=1/\∀x∈l.d8,0<=x/\x<4
def Ih(a:IBg)(g:List T)(e:H)(f:T)(c:H):Prop:=∃d:dW,f=d.t/\FG d/\uD 0 a.L a.b c/\Sm a.b e c
def Pv{e:Type}{f:e->T}{R:T->T->Prop}{P:e->Prop}:∀{c:List T},(∀b∈c,∃a,R b (f a)/\P a)->∃d:List e,io R c (d.map f)/\∀a∈d,P a:=by
 intro c;induction c with
 |nil=>intro _;exact⟨[],.nil,dp⟩
 |cons b c k=>
  intro g;obtain⟨a,hr,j⟩:=g b dp;obtain⟨d,hl,h⟩:=k λb i=>g b (by simp[i]);exact⟨a::d,.cons hr hl,by simpa[j]using h⟩
def yz.fin{w:List Int}{p:Nat}{g n:H}{bn:Nat}{d:Ao}(b:yz w p g bn d n)(a8:gu 0 g)(G:p<g.size)(k:iJ)(ae:List T):xv g (.agg [d.c 0,dw d.tx,d.c 2,d.c 3,d.c 4,d.c 5,d.c 6]) (dQ n (g.size+1) k) (Ih ⟨w,p⟩ ae g):=by
 have D:=λe=>dE b.rb k e;have l:∀(f u:Nat),d.F[f]? =some (d.c f,some (u,d.E f))->Gr (dQ n (g.size+1) k) (d.c f) u (d.E f)/\∀e,dL (d.c f)=some e->g.size<=e:=λf u I=>by
  have C:=λe (o:dL (d.c f)=some e)=>b.fp e (b.s.AO (ax I) o);exact⟨(b.s.gr f I).mono λe o=>by rw[D,ao (by have:=C e o;omega)],λe o=>by have:=C e o;omega⟩
 obtain⟨Y,a0,p0⟩:=Pv (f:=dS.t) (R:=FT (dQ n (g.size+1) k) (λe=>g.size<=e) 3) (P:=λm=>m.d8.length<=1/\∀a∈m.d8,0<=a/\a<4) λi j=>by
  obtain⟨Q,bC,rfl,aX⟩:=b.pr 0 i j;rcases aX with rfl|⟨a,v,rfl,r,bs,bu,bz,bB⟩
  ·exact⟨⟨Q,[]⟩,.inr (.inr ⟨_,_,rfl,.cons (fR ..) (.cons (iQ ..) .nil),rfl⟩),dp⟩
  ·have a6:a≠g.size+1:=λh=>by rw[h,b.rb]at r;simp[mO]at r
   have aN:Gr (dQ n (g.size+1) k) (.arr a 0 0 1 false) 1 ([v].map (T.int .i64)):= .inr ⟨a,0,0,true,[dw v],rfl,by rw[D,ao a6];exact r,rfl⟩;exact⟨⟨Q,[v]⟩,.inr (.inr ⟨_,_,rfl,.cons (fR ..) (.cons (aN.ft (d:=1) (λe h=>by simp at h;omega) (.cons (fR ..) .nil)) .nil),rfl⟩),dq⟩
 obtain⟨U,x,_⟩:=t9 (f:=T.bool) (P:=λ_=>True) λi j=>by
  obtain⟨a,h⟩:=b.pr 2 i j;exact⟨a,h,trivial⟩
 obtain⟨Z,y,_⟩:=t9 (f:=dD.t) (P:=λ_=>True) λi j=>by
  obtain⟨a,h⟩:=b.pr 3 i j;exact⟨a,h,trivial⟩
 obtain⟨S,z,_⟩:=t9 (f:=T.int .i64) (P:=λ_=>True) λi j=>by
  obtain⟨a,h,_⟩:=b.pr 4 i j;exact⟨a,h,trivial⟩
 obtain⟨W,A,_⟩:=t9 (f:=T.int .i64) (P:=λ_=>True) λi j=>by
  obtain⟨a,h,_⟩:=b.pr 5 i j;exact⟨a,h,trivial⟩
 obtain⟨X,B,p6⟩:=t9 (f:=T.int .i64) (P:=λO=>0<=O/\O<=4) λi j=>by
  obtain⟨a,h,bi⟩:=b.pr 6 i j;exact⟨a,h,bi rfl⟩
 have l0:=b.ln 0;have l2:=b.ln 2;have l3:=b.ln 3;have l4:=b.ln 4;have l5:=b.ln 5;have l6:=b.ln 6;have lk:=a0.length;rw[x]at l2;rw[y]at l3;rw[z]at l4;rw[A]at l5;rw[B]at l6;simp[WK]at l0 l2 l3 l4 l5 l6 lk;obtain⟨a7,al⟩:=l 0 2 rfl;obtain⟨J,an⟩:=l 2 1 rfl;obtain⟨K,ap⟩:=l 3 3 rfl;obtain⟨L,av⟩:=l 4 1 rfl;obtain⟨M,aA⟩:=l 5 1 rfl;obtain⟨N,aE⟩:=l 6 1 rfl;rw[x]at J;rw[y]at K;rw[z]at L;rw[A]at M;rw[B]at N;have q:∀m:List Int,io (FT (dQ n (g.size+1) k) (λe=>g.size<=e) 3) (m.map (T.int .i64)) (m.map (T.int .i64)):=λm=>wa λa=>fR ..;exact(b.tw.put b.rb dp (by simpa using G) k).cut a8 G (FT.top (V:=λe=>g.size<=e) (d:=4) dj (λ_ h=>h) (.cons (a7.ft al a0) (.cons (fR ..) (.cons (J.ft an (wa λa=>KB ..)) (.cons (K.ft ap (wa λa=> .inr (.inr ⟨a.cs,a.cs,rfl,.cons (fR ..) (.cons (fR ..) (.cons (KB ..) .nil)),rfl⟩))) (.cons (L.ft av (q _)) (.cons (M.ft aA (q _)) (.cons (N.ft aE (q _)) .nil)))))))) λbk bl=>
  ⟨⟨⟨Y,d.tx,U,Z⟩,S,W,X⟩,rfl,⟨⟨dt,l2,l3,l4,l5,l6⟩,p6,p0⟩,bl,bk⟩
def ab8:(jp IBg SO Ih).Ok Tryz.prog cx 38:=by
 refine pW (tb:=⟨pt [],ht [(63,ka),(41,jp dR Ij Ib),(64,jp RS ph nG)]⟩) ei eg (iL 39027670543808336620727472465805308762228731 [(10,[(1,4)]),(11,[(2,5)]),(27,[(1,3)]),(31,[(1,4)])] Tryz.func38) (λ_ _=>10) (λy a A eD=>by obtain⟨rfl,_⟩:=eD;simp[Tryz.f38]) ?_;rintro⟨V,r⟩ _ A ⟨rfl,eR,fe,bi⟩ h e8;simp only at eR bi;simp at e8;obtain⟨i,eu⟩:=e8;have D:=eR.tp.lt;have hH:(r=A.size)=False:=dq;have hI:(r=A.size+1)=False:=dq;have bn:=((rV.refl fe.hr (eR.eq (fX A r))).cons (dy 6 0 [iY.t])).cons mO;simp[Tryz.f38,eu];generalize c7:((TI.hr A).cons _).cons _=X;replace bn:rV 0 V r (TI.hr A) X:=by rw[<-c7];exact bn
 have hO:X.size=A.size+2:=by rw[<-c7];simp[size_cons]
 have fs:X.get (A.size+1)=some mO:=by rw[<-c7];simp[mO,size_cons]
 clear c7;refine gJ YG dp iY ⟨rfl,bn.w.ok,du,du,du,du⟩ ?_;rintro _ ap ⟨eU,eV,eW,eX,e0,e1,rfl,k,hK,bS,er,de,b8⟩;have hN:=de.sz;have eH:=de.low;simp[eH,(bS.gr 6 rfl).len (cx:=cx)];have ha:∀C,Fp ap k C->C≠r:=λC U O=>by have:=er C U;omega
 generalize bN:ap.cons _=cb;have eI:gu 0 cb:=by rw[<-bN];exact gu.cons ⟨de.hp,eH,aw _⟩ _
 have aA:∀C,cb.get C=if C=ap.size then some (dy 7 1 [.agg [eU,dw (-1),eV,eW,eX,e0,e1]])else ap.get C:=λC=>by rw[<-bN,dM]
 have fv:cb.size=ap.size+1:=by rw[<-bN,size_cons]
 clear bN;have eO:=λC (U:Fp ap k C)=>bS.fp C U;obtain⟨ea,dn⟩:∃ea,yz V r A ap.size ea cb:=by
  refine⟨⟨1,-1,λp=>if p=0 then eU else if p=2 then eV else if p=3 then eW else if p=4 then eX else if p=5 then e0 else e1,λp=>if p=0 then(List.replicate 3 ()).map xF else if p=2 then [false].map T.bool else if p=3 then(yD 4).map dD.t else if p=4 then [0,1,0,0,0].map (T.int .i64)else if p=6 then(List.replicate 4 0).map (T.int .i64)else(List.replicate 1 0).map (T.int .i64)⟩,?_,⟨⟨eI,dq,λC U c9=> ?_,?_⟩,?_⟩,?_,?_,λp=> ?_,λp e J=> ?_⟩
  ·exact bS.copy eI (by rw[aA,aq rfl];rfl) λC U=>by rw[aA,ao (by have:=eO C U;omega)]
  ·have U:C<A.size:=by simpa using U
   exact(aA C).trans ((ao dj).trans ((b8 C dj).trans (bn.w.get C (by simpa using U) c9)))
  ·exact bn.w.tp.eq ((aA r).trans ((ao dj).trans (b8 r dj)))
  ·exact bn.g.eq ((aA r).trans ((ao dj).trans (b8 r dj)))
  ·intro C U;rcases(bS.copy eI (by rw[aA,aq rfl];rfl) λC U=>by rw[aA,ao (by have:=eO C U;omega)]:m9 cb ap.size 7 1 _)with⟨_,gp,_,_⟩;rcases U with rfl|⟨x,eF,v,gS,O⟩
   ·omega
   ·rw[gp]at eF;simp only[ar]at eF;subst eF;have:=er C (.inr ⟨_,bS.get,v,gS,O⟩);omega
  ·exact(aA _).trans ((ao dj).trans ((b8 _ dj).trans fs))
  ·unfold WK;by_cases b9:p=0
   ·subst b9;rfl
   by_cases a6:p=2
   ·subst a6;rfl
   by_cases ca:p=3
   ·subst ca;rfl
   by_cases fi:p=4
   ·subst fi;rfl
   by_cases fl:p=6
   ·subst fl;rfl
   simp[b9,a6,ca,fi,fl]
  ·unfold RE;by_cases b9:p=0
   ·subst b9;simp at J;subst J;exact⟨_,_,rfl,.inl rfl⟩
   by_cases a6:p=2
   ·subst a6;simp at J;subst J;exact⟨_,rfl⟩
   by_cases ca:p=3
   ·subst ca;simp only[ao (show¬(3:Nat)=0 by decide),ao (show¬(3:Nat)=2 by decide),aq]at J|-;obtain⟨t,_,rfl⟩:=List.mem_map.1 J;exact⟨t,rfl⟩
   simp only[ao b9,ao a6,ao ca]at J|-;have:∃l:List Int,e∈l.map (T.int .i64)/\(p=6->l=List.replicate 4 0):=by
    split at J
    ·exact⟨_,J,λO=>by omega⟩
    split at J
    ·exact⟨_,J,λ_=>rfl⟩
    ·exact⟨_,J,λO=>by omega⟩
   obtain⟨l,hl,c6⟩:=this;obtain⟨Q,c9,rfl⟩:=List.mem_map.1 hl;refine⟨Q,rfl,λO=> ?_⟩;rw[c6 O]at c9;simp at c9;omega
 clear bS er de b8 eH ha aA fv eO bn fs;have fv:A.size+2<=ap.size:=dj;generalize ap.size=G at*
 refine fc 4 dj (λy h B=>(∃d,yz V r A G d B)/\dz h 0 (.ptr r 0 0 0)/\dz h 4 (.ptr (A.size+1) 0 0 0)/\dz h 5 (.ptr G 0 0 0)/\dz h 15 (dw 4)/\dz h 16 (dw y)) ?_ ?_ dj ⟨⟨ea,dn⟩,by simp[i,show(iY.dB.length:Int)=4 from rfl]⟩
 ·clear dn i eu;rintro y h B bu aX ⟨⟨d,b⟩,i,q,n,Z,ae⟩;have gE:(y:Int)<4:=dj;obtain⟨p,bT,I,fb,a7,R⟩:=(b.cons (dy 1 0 [dw 2,dw 2,dw 2,dw 2,dw 0,dw 1,dw 3,dw 4,dw 5])).tw.next (tb:=⟨pt [],ht [(63,ka),(41,jp dR Ij Ib),(64,jp RS ph nG)]⟩) dp bi 9 dj dj;have hP:=b.Mb;have cp:=(b.cons _).tape R (a7.g.le (aw _)) D;have e4:=(R.get B.size dj).trans (by rw[dM,aq rfl]);obtain⟨fm,e3⟩:∃fm:Int,∀fb,([dw 2,dw 2,dw 2,dw 2,dw 0,dw 1,dw 3,dw 4,dw 5]:List T)[p]'fb= dw fm:=by
   rcases(by omega:p=0\/p=1\/p=2\/p=3\/p=4\/p=5\/p=6\/p=7\/p=8)with rfl|rfl|rfl|rfl|rfl|rfl|rfl|rfl|rfl<;>exact⟨_,λ_=>rfl⟩
  have gP:p<9:=dj;simp[i,Z,ae,gE,I,e4,e3,gP];refine lh (λh hq=>bT=hq/\(∃eP,dz h 7 (dw eP))/\dz h 0 (.ptr r 0 0 0)/\dz h 4 (.ptr (A.size+1) 0 0 0)/\dz h 5 (.ptr G 0 0 0)/\dz h 6 (dw y)/\dz h 15 (dw 4)/\dz h 16 (dw y)) (λN=>by simp[i,q,n,Z,ae]) (λN=>by simp[i,q,n,Z,ae]) ?_;clear I e4 e3 a7 R i q n Z ae;rintro h _ ⟨rfl,⟨eP,gv⟩,i,q,n,c6,Z,ae⟩;have k:=cp.s.get;simp[Ao.F]at k;obtain⟨bB,cL,di,c1,dk,_,av,al,M,an,t,rfl⟩:=cp.ld 3 rfl (te:=zG) rfl (j:=y) bu;have bl:=cp.st D 3 rfl av M y (dD.t ⟨eP,0,false⟩) rfl ⟨_,rfl⟩;simp[n,c6,gv,k,al,M,an];clear cp k al M an av;generalize d.MC 3 _=eb at bl;generalize dQ bT _ _=dm at*
  refine dU (λN=> ?_) (λN=> ?_)
  ·obtain⟨bk,S,I,eC,bs,bz⟩:=bl.tw.next (tb:=⟨pt [],ht [(63,ka),(41,jp dR Ij Ib),(64,jp RS ph nG)]⟩) dp bi 3 dj dj;have W:=bl.tape bz (bs.g.le (aw _)) D;have Y:=bl.s.get;have a8:=W.s.get;simp[Ao.F]at Y a8;obtain⟨bB,cL,di,c1,dk,_,av,al,M,an,Q,rfl,_⟩:=W.ld 6 rfl (te:=FI) rfl (j:=y) bu;have fE:binop .add (dw 1) (dw (bk:Int))=some (dw (1+bk)):=yr rfl dj dj;have sv:ew dm S G=true:=eZ (a8.trans Y.symm);have L:=W.st D 6 rfl av M y (dw (1+bk)) rfl ⟨_,rfl,λ_=>by omega⟩;generalize gw:dQ S bB _=hs at L;generalize eb.MC 6 _=hA at L;obtain⟨gZ,hv,gd,hD,fC,hf⟩:=L.tw.next (tb:=⟨pt [],ht [(63,ka),(41,jp dR Ij Ib),(64,jp RS ph nG)]⟩) dp bi 4 dj dj;have ds:=L.tape hf (fC.g.le (aw _)) D;have et:=L.s.get;have e5:=ds.s.get;simp[Ao.F]at et e5;obtain⟨hy,hB,hL,hC,hM,_,gy,fY,e6,gg,t,rfl⟩:=ds.ld 3 rfl (te:=zG) rfl (j:=y) bu;have hg:ew hs hv G=true:=eZ (e5.trans et.symm);have fB:=ds.st D 3 rfl gy e6 y (dD.t ⟨t.iv,t.cond,decide ((gZ:Int)=3)⟩) rfl ⟨_,rfl⟩;simp[i,q,n,c6,Z,ae,Y,I,fE,al,M,an,sv,gw,et,gd,fY,e6,gg,hg,aX];exact⟨_,fB⟩
  ·simp[i,q,n,Z,ae,aX];exact⟨eb,bl⟩
 clear dn i eu;rintro h B ⟨⟨d,b⟩,i,q,n,Z,ae⟩;have k:=b.s.get;simp[Ao.F]at k;have l0:=b.ln 0;simp[n,Z,ae,k,(b.s.gr 0 rfl).len (cx:=cx),l0,WK];refine fc 3 dj (λy h B=>(∃d,yz V r A G d B)/\dz h 0 (.ptr r 0 0 0)/\dz h 4 (.ptr (A.size+1) 0 0 0)/\dz h 5 (.ptr G 0 0 0)/\dz h 63 (dw 3)/\dz h 64 (dw y)) ?_ ?_ dj ⟨⟨d,b⟩,by simp[i,q,n]⟩
 ·clear b k l0 i q n Z ae;rintro y h B bu aX ⟨⟨d,b⟩,i,q,n,aE,aN⟩;have gB:(y:Int)<3:=dj;have k:=b.s.get;simp[Ao.F]at k;simp[i,n,aE,aN,gB,k];obtain⟨K,bH,e7⟩:=t9 (f:=T.int .i64) (P:=λQ=>0<=Q/\Q<=4) λe J=>by
   obtain⟨Q,eL,a6⟩:=b.pr 6 e J;exact⟨Q,eL,a6 rfl⟩
  have b7:K.length=4:=by rw[<-aH (f:=T.int .i64),<-bH];exact b.ln 6
  have bC:=b.s.gr 6 rfl;rw[bH]at bC;have dd:dL (d.c 6)≠some r:=λO=>by have:=b.fp r (b.s.AO (f:=(d.c 6,some (1,d.E 6))) (by simp[Ao.F]) O);omega
  refine gJ JQ dp ⟨V,r,0,d.c 0,dw d.tx,d.c 2,d.c 3,d.c 4,d.c 5,d.c 6,K⟩ ⟨rfl,b.tw.g,b.tw.w.ok,bi,dt,bC,dd,dp⟩ ?_;rintro _ bT ⟨u,rfl,fo,eS,t1,R⟩;replace b:=b.tape R t1 D;simp only[b7]at eS;clear bC dd bH b7 e7 k t1 R;simp;refine dU (λN=> ?_) (λN=> ?_)
  ·simp[i,q,n,aE,aN,aX];exact⟨d,b⟩
  obtain⟨m,rfl⟩:∃m:Nat,u=m:=⟨u.toNat,by simp at N;omega⟩;have gQ:m<4:=dj;clear N fo eS;by_cases gz:y=2
  ·subst gz;have e2:binop .add (dw 2) (dw 1)=some (dw 3):=by simpa using aX
   obtain⟨bk,S,I,eC,bs,bz⟩:=b.tw.next (tb:=⟨pt [],ht [(63,ka),(41,jp dR Ij Ib),(64,jp RS ph nG)]⟩) dp bi 2 dj dj;replace b:=b.tape bz (bs.g.le (aw _)) D;simp[i,I];have dv:=b.cons (dy 1 0 [dw m]);obtain⟨bB,cL,di,c1,dk,_,av,al,M,an,o,eN,rfl,eE⟩:=b.ld 0 rfl (te:=FN) rfl (j:=2) du;obtain⟨fL,gi,hh,gk,hn,_,e9,ec,c4,eh,hc,hJ,rfl,hF⟩:=dv.ld 0 rfl (te:=FN) rfl (j:=2) du;have k:=b.s.get;have gn:=dv.s.get;simp[Ao.F]at k gn;refine dU (λN=> ?_) (λN=> ?_)
   ·have hb:¬Fp (S.cons (dy 1 0 [dw m])) G S.size:=λO=>by
     have e:(S.cons (dy 1 0 [dw m])).get G=S.get G:=by rw[dM,ao (by have:=b.s.lt;omega)]
     rw[iE e]at O;have:=b.s.fp _ O;omega
    have L:=dv.st D 0 rfl e9 c4 2 (.agg [dw hc,.arr S.size 0 0 1 false]) rfl ⟨_,_,rfl,.inr ⟨S.size,m,rfl,by rw[dM,aq rfl],dj,dj,hb,by have:=b.Mb;omega⟩⟩;have hG:(G=S.size)=False:=by have:=b.s.lt;simp;omega
    simp[i,q,n,aE,aN,k,ec,c4,eh,e2];exact⟨_,L⟩
   ·have L:=b.st D 0 rfl av M 2 (.agg [dw m,eN]) rfl ⟨_,_,rfl,eE⟩;simp[i,q,n,aE,aN,k,al,M,an,e2];exact⟨_,L⟩
  ·obtain⟨bB,cL,di,c1,dk,_,av,al,M,an,o,eN,rfl,eE⟩:=b.ld 0 rfl (te:=FN) rfl (j:=y) bu;obtain⟨fL,gi,hh,gk,hn,_,e9,ec,c4,eh,t,rfl⟩:=b.ld 3 rfl (te:=zG) rfl (j:=m) gQ;have k:=b.s.get;simp[Ao.F]at k;have L:=b.st D 0 rfl av M y (.agg [dw m,eN]) rfl ⟨_,_,rfl,eE⟩;simp[n,show¬(y:Int)=2 by omega,k,ec,c4,eh];refine dU (λN=> ?_) (λN=> ?_)
   ·simp[i,q,n,aE,aN,aX];exact⟨d,b⟩
   ·simp[i,q,n,aE,aN,k,al,M,an,aX];exact⟨_,L⟩
 clear b k l0 i q n Z ae;rintro h B ⟨⟨d,b⟩,i,q,n,aE,aN⟩;have ce:=λ{B:H} {d:Ao} (b:yz V r A G d B)=>b.tw.next (tb:=⟨pt [],ht [(63,ka),(41,jp dR Ij Ib),(64,jp RS ph nG)]⟩) dp bi;have fA:∀{B:H} {d:Ao},yz V r A G d B->∃K:List Int,ph ⟨V,r,0,d.c 0,dw d.tx,d.c 2,d.c 3,d.c 4,d.c 5,d.c 6,K⟩ [.ptr r 0 0 0,.agg [d.c 0,dw d.tx,d.c 2,d.c 3,d.c 4,d.c 5,d.c 6]] B/\K.length=4:=λ{B d} b=>by
  obtain⟨K,bH,e7⟩:=t9 (f:=T.int .i64) (P:=λQ=>0<=Q/\Q<=4) λe J=>by
   obtain⟨Q,eL,a6⟩:=b.pr 6 e J;exact⟨Q,eL,a6 rfl⟩
  have b7:K.length=4:=by rw[<-aH (f:=T.int .i64),<-bH];exact b.ln 6
  have bC:=b.s.gr 6 rfl;rw[bH]at bC;have dd:dL (d.c 6)≠some r:=λO=>by have:=b.fp r (b.s.AO (f:=(d.c 6,some (1,d.E 6))) (by simp[Ao.F]) O);omega
  exact⟨K,⟨rfl,b.tw.g,b.tw.w.ok,bi,dt,bC,dd,dp⟩,b7⟩
 obtain⟨gV,bT,I,gM,a7,R⟩:=ce b 3 dj dj;replace b:=b.tape R (a7.g.le (aw _)) D;simp[i,aE,aN,I];clear I a7 R;refine lh (λh B=>(∃d,yz V r A G d B)/\dz h 0 (.ptr r 0 0 0)/\dz h 4 (.ptr (A.size+1) 0 0 0)/\dz h 5 (.ptr G 0 0 0)) (λN=> ?_) (λN=> ?_) ?_
 ·have k:=b.s.get;simp[Ao.F]at k;obtain⟨K,eD,b7⟩:=fA b;simp[i,n,k];refine gJ JQ dp _ eD ?_;rintro _ dm ⟨u,rfl,fo,eS,t1,R⟩;replace b:=b.tape R t1 D;have k:=b.s.get;simp[Ao.F]at k;have bl:=b.tx D u;simp[i,q,n,k];exact⟨_,bl⟩
 ·simp[i,q,n];exact⟨d,b⟩
 clear b i q n aE aN;rintro h B ⟨⟨d,b⟩,i,q,n⟩;obtain⟨gV,bT,I,gM,a7,R⟩:=ce b 3 dj dj;replace b:=b.tape R (a7.g.le (aw _)) D;simp[i,I];clear I a7 R;refine lh (λh B=>(∃d,yz V r A G d B)/\dz h 0 (.ptr r 0 0 0)/\dz h 4 (.ptr (A.size+1) 0 0 0)/\dz h 5 (.ptr G 0 0 0)) (λN=> ?_) (λN=> ?_) ?_
 ·have k:=b.s.get;simp[Ao.F]at k;obtain⟨bB,cL,di,c1,dk,_,av,al,M,an,o,rfl⟩:=b.ld 2 rfl (te:=Xo) rfl (j:=0) du;replace b:=b.st D 2 rfl av M 0 (.bool true) rfl ⟨_,rfl⟩;generalize bN:dQ bT bB _=dm at b;generalize d.MC 2 _=eb at b;obtain⟨bk,S,I,eC,bs,bz⟩:=ce b 3 dj dj;have W:=b.tape bz (bs.g.le (aw _)) D;have Y:=b.s.get;have a8:=W.s.get;simp[Ao.F]at Y a8;obtain⟨fS,gj,hj,gm,ho,_,eB,ef,b6,eo,Q,rfl,_⟩:=W.ld 5 rfl (te:=FJ) rfl (j:=0) du;have sv:ew dm S G=true:=eZ (a8.trans Y.symm);have L:=W.st D 5 rfl eB b6 0 (dw bk) rfl ⟨_,rfl,λO=>by omega⟩;simp[i,q,n,k,al,M,an,bN,Y,I,ef,b6,eo,sv];exact⟨_,L⟩
 ·simp[i,q,n];exact⟨d,b⟩
 clear b i q n;rintro h B ⟨⟨d,b⟩,i,q,n⟩;have k:=b.s.get;simp[Ao.F]at k;have l4:=b.ln 4;simp[n,k,(b.s.gr 4 rfl).len (cx:=cx),l4,WK];refine fc 5 dj (λy h B=>(∃d,yz V r A G d B)/\dz h 0 (.ptr r 0 0 0)/\dz h 4 (.ptr (A.size+1) 0 0 0)/\dz h 5 (.ptr G 0 0 0)/\dz h 142 (dw 5)/\dz h 143 (dw y)) ?_ ?_ dj ⟨⟨d,b⟩,by simp[i,q,n]⟩
 ·clear b k l4 i q n;rintro y h B bu aX ⟨⟨d,b⟩,i,q,n,ey,eA⟩;have gI:(y:Int)<5:=dj;obtain⟨bk,S,I,eC,bs,bz⟩:=ce b 3 dj dj;have W:=b.tape bz (bs.g.le (aw _)) D;have Y:=b.s.get;have a8:=W.s.get;simp[Ao.F]at Y a8;obtain⟨fS,gj,hj,gm,ho,_,eB,ef,b6,eo,Q,rfl,_⟩:=W.ld 4 rfl (te:=FJ) rfl (j:=y) bu;have sv:ew B S G=true:=eZ (a8.trans Y.symm);have L:=W.st D 4 rfl eB b6 y (dw bk) rfl ⟨_,rfl,λO=>by omega⟩;simp[i,q,n,ey,eA,gI,Y,I,ef,b6,eo,sv,aX];exact⟨_,L⟩
 clear b k l4 i q n;rintro h B ⟨⟨d,b⟩,i,q,n,ey,eA⟩;have k:=b.s.get;have eM:=b.rb;unfold mO at eM;simp[Ao.F]at k;have hd:=λz=>(dE eM z (A.size+1)).trans (aq rfl);simp[q,n,ey,eA,k,eM,hd];exact b.fin fe D _ _
end
noncomputable section
open Go Go.TI
attribute [-simp] List.map_take List.map_drop List.map_append fj eG dY Bool.not_or Bool.not_and
attribute [simp] fh eJ
def Tu(a:Nat)(d:H)(e:T)(g:List (List Int)):Prop:=∃c,Gr d e 1 c/\dL e≠some a/\io (λb f=>Gr d b 1 (f.map (T.int .i64))/\dL b≠some a) c g
structure IEv where
 (L:List Int) (b p:Nat) (s:dW) (w:dR) (rv:T) (rs:List (List Int))
def MY(a:IEv)(d:List T)(c:H):Prop:=d=[.ptr a.b 0 0 0,a.s.t,a.w.t,a.rv]/\uD a.p a.L a.b c/\gu 0 c/\okB a.L/\Tu a.b c a.rv a.rs/\a.rs.length=4/\(∀e∈a.rs,e.length<=1000)/\a.s.cells.length=5/\1<=a.s.dT.length/\a.s.fx.dB.length<=98/\a.w.cells.length=5
def Ez(a:IEv)(g:List T)(e:H)(f:T)(d:H):Prop:=∃c:dX,f=c.t/\c.mf.length<=1000/\c.uz.length<=1000/\uD (a.p+1) a.L a.b d/\Sm a.b e d
def Vn{a:fq}(ht:a.p 99=some r7):rl Tryz.prog cx a 99 []=some (sl (uW.map (T.int .i64))):=gF ht QF () trivial
def Lw{i:Nat}(c:i<43):∃a:Int,uW[i]? =some a/\1<=a/\a<=23:=by
 have b:∀a∈uW,1<=a/\a<=23:=du;exact⟨uW[i]'c,az _,b _ (aF _)⟩
abbrev LI(f c d g e:Int)(a b:T):T:= .agg [dw f,dw c,dw d,dw g,dw e,a,b]
structure PP(p:Nat)(L:List Int)(b:Nat)(h:H)(s:dW)(w:dR)(h':H)(x:T):Prop where
 tw:rV p L b (TI.hr h) h'
 g0:h'.get h.size=some (dy 7 0 [s.t])
 g1:h'.get (h.size+1)=some (dy 6 0 [w.t])
 g2:h'.get (h.size+2)=some (dy 7 0 [LI 0 0 0 0 0 dx dx])
 g3:∃ver,h'.get (h.size+3)=some (dy 7 ver [x])
def PP.call{m h:Nat}{d:List Int}{a:Nat}{e:H}{i:dW}{j:dR}{g f:H}{k:T}(b:PP m d a e i j g k)(c:Sm a g f)(n:uD h d a f)(p:a<e.size):PP h d a e i j f k:=by
 obtain⟨o,l⟩:=b.g3;exact⟨b.tw.call c n,(c.get _ dj).trans b.g0,(c.get _ dj).trans b.g1,(c.get _ dj).trans b.g2,o,(c.get _ dj).trans l⟩
def PP.put{k:Nat}{h:List Int}{e:Nat}{d:H}{l:dW}{m:dR}{j:H}{x:T}(a:PP k h e d l m j x)(o:e<d.size)(f:Nat)(g:T):PP k h e d l m (dQ j (d.size+3) (dy 7 f [g])) g:=by
 obtain⟨p,i⟩:=a.g3;have b:=λc=>dE i (dy 7 f [g]) c;exact⟨a.tw.put i dp (by simpa using o) _,by rw[b,ao dj];exact a.g0,by rw[b,ao dj];exact a.g1,by rw[b,ao dj];exact a.g2,f,by rw[b,aq rfl]⟩
def PP.rd{g:Nat}{d:List Int}{e:Nat}{a:H}{h:dW}{i:dR}{c:H}{j:T}(f:PP g d e a h i c j)(b:iJ):(dQ c (a.size+2) b).get (a.size+2)=some b:=(dE f.g2 b (a.size+2)).trans (aq rfl)
def Ds(a:T):Prop:=a.gD=true/\a.cells=[a]/\∃b:List Int,b.length<=1000/\∀d c,FT d c 1 a (sl (b.map (T.int .i64)))
def Ds.nil:Ds dx:=⟨rfl,rfl,[],dp,λb a=>iQ ..⟩
def Ds.sl{a:List Int}(b:a.length<=1000):Ds (TI.sl (a.map (T.int .i64))):=⟨dp,dp,a,b,λb d=>ou _ _ _ λe c=>by obtain⟨f,_,rfl⟩:=List.mem_map.1 c;simp⟩
def ab7:(jp IEv MY Ez).Ok Tryz.prog cx 65:=by
 refine pW (tb:=⟨pt [(99,r7)],ht [(63,ka),(100,jp HF yP rK),(101,jp HD yO rJ),(102,jp An tV sY)]⟩) ei eg (iL 618988909108621684749897583 [(3,[(6,11),(7,11),(5,14),(11,14)])] Tryz.func65) (λ_ _=>5) (λi a b aN=>by obtain⟨rfl,_⟩:=aN;simp[Tryz.f65]) ?_;rintro⟨B,h,v,M,E,ap,et⟩ _ b ⟨rfl,bH,eo,U,dn,eV,bi,eW,ds,dv,e1⟩ K de;simp only at bH U dn eV bi eW ds dv e1;simp at de;obtain⟨C,c9,dd,N⟩:=de;have p:=bH.tp.lt;have fE:(h=b.size)=False:=dq;have fL:(h=b.size+1)=False:=dq;have fS:(h=b.size+2)=False:=dq;have eA:=(((rV.refl eo.hr (bH.eq (fX b h))).cons (dy 7 0 [M.t])).cons (dy 6 0 [E.t])).cons (dy 7 0 [.agg [dw 0,dw 0,dw 0,dw 0,dw 0,dx,dx]]);obtain⟨c,eD,cb,fC,eB,y⟩:=eA.next (tb:=⟨pt [(99,r7)],ht [(63,ka),(100,jp HF yP rK),(101,jp HD yO rJ),(102,jp An tV sY)]⟩) dp U 4 dj dj;have b7:=λ{a7:H} {v:Nat} (E:rV v B h (TI.hr b) a7)=>E.next (tb:=⟨pt [(99,r7)],ht [(63,ka),(100,jp HF yP rK),(101,jp HD yO rJ),(102,jp An tV sY)]⟩) dp U;obtain⟨k,eE,ce,fB,eC,X⟩:=b7 eB uW.length du du;obtain⟨j,cL,e2,e3⟩:=Lw (i:=k) (by have:uW.length=43:=rfl;omega);obtain⟨W,av,cp,dk,bT,bz⟩:=b7 eC 6 dj dj;obtain⟨bC,e0⟩:∃x:Int,(c:Int)*6=x:=⟨_,rfl⟩;obtain⟨bB,eX⟩:∃x:Int,bC+W=x:=⟨_,rfl⟩;have eh:binop .mul (dw (c:Int)) (dw 6)=some (dw bC):=by rw[Y2,<-ji,jr dj dj,e0]
 have b9:binop .add (dw bC) (dw (W:Int))=some (dw bB):=yr eX dj dj;have fA:eD.size=b.size+3:=by rw[y.size];rfl
 have b6:av.size=b.size+3:=by rw[bz.size,X.size,fA]
 have eu:ew eD eE (b.size+3)=true:=iR (lf _ dj);have ey:ew eE av (b.size+3)=true:=iR (lf _ (by rw[X.size];omega));have ef:=bT.w.ok.low;rw[b6]at ef;have G:∀r,r<b.size+3->r≠h->av.get r=((((TI.hr b).cons (dy 7 0 [M.t])).cons (dy 6 0 [E.t])).cons (dy 7 0 [LI 0 0 0 0 0 dx dx])).get r:=λr a8 an=>(bz.get r an).trans ((X.get r an).trans (y.get r an));have D:PP (v+1) B h b M E (av.cons (dy 7 1 [LI c j 0 0 bB dx dx])) (LI c j 0 0 bB dx dx):=
  ⟨(bT.le dj).cons _,by rw[dM,ao dj,G _ dj dj];simp,by rw[dM,ao dj,G _ dj dj];simp,by rw[dM,ao dj,G _ dj dj];simp,1,by rw[dM,aq b6.symm]⟩
 simp[Tryz.f65,C,c9,dd,cb,Vn,ce,cp,cL,eh,b9,b6,eu,ey,ef];clear cb ce cp y X bz eA eB eC bT eh b9 G cL eu ey;generalize av.cons _=gd at*
 refine lh (λK a7=>(∃z,PP (v+1) B h b M E a7 (LI c j 0 0 z dx dx))/\dz K 0 (.ptr h 0 0 0)/\dz K 3 ap/\dz K 5 (.ptr b.size 0 0 0)/\dz K 6 (.ptr (b.size+1) 0 0 0)/\dz K 8 (.ptr (b.size+2) 0 0 0)/\dz K 9 (dw c)/\dz K 11 (.ptr (b.size+3) 0 0 0)) (λeU=> ?_) (λeU=> ?_) ?_
 ·obtain⟨A,m⟩:=D.g3;simp[C,N,m];exact⟨_,D.put p _ _⟩
 ·simp[C,N];exact⟨_,D⟩
 clear D C c9 dd N;rintro K o ⟨⟨z,D⟩,C,N,eP,eR,aA,aE,s⟩;obtain⟨A,m⟩:=D.g3;simp[C,aE,s,m];refine gJ YK dp ⟨B,h,v+1,j,c⟩ ⟨rfl,D.tw.g,D.tw.w.ok,U,dt,dt,e2,e3⟩ ?_;rintro _ fm ⟨q,rfl,fY,bu,t1,y⟩;have l:=D.call y t1 p;clear D m;obtain⟨A,m⟩:=l.g3;simp[C,eP,s,m];replace l:=l.put p (A+1) (LI c j q 0 z dx dx);generalize dQ fm _ _=Y at*
 clear y t1 m;obtain⟨A,m⟩:=l.g3;have c6:=l.g0;simp[s,m,c6];refine gJ YF dp ⟨B,h,v+1,M,j,q⟩ ⟨rfl,l.tw.g,l.tw.w.ok,U,λO=>by have:=bu (.inl O);simp only;omega,ds,dv⟩ ?_;rintro _ fo ⟨n,rfl,t1,y⟩;replace l:=l.call y t1 p;clear m c6;obtain⟨A,m⟩:=l.g3;simp[s,m];replace l:=l.put p (A+1) (LI c j q n z dx dx);generalize dQ fo _ _=fs at*
 clear y t1 m;obtain⟨A,m⟩:=l.g3;have eL:=l.g1;obtain⟨L,eO,e6,ca⟩:=dn;have di:c<L.length:=by rw[ca.length];omega
 obtain⟨bs,dm,c1,c4⟩:∃bs∈et,Gr b L[c] 1 (bs.map (T.int .i64))/\dL L[c]≠some h:=ca.GE (aF di);have b8:∀o,rV (v+1) B h (TI.hr b) o->∃R S A Z F,∃(u:List Int) (Y:H),kf o pX ap c=some (.val (.ptr R S c 0) o)/\o.get R=some ⟨1,S,A,Z,false,F⟩/\F[c]? =some L[c]/\hl Tryz.prog cx ⟨pt [(99,r7)],ht [(63,ka),(100,jp HF yP rK),(101,jp HD yO rJ),(102,jp An tV sY)]⟩ 102 [.ptr h 0 0 0,L[c]] o=some (sl (u.map (T.int .i64)),Y)/\u.length<=1000/\uD (v+1) B h Y/\Sm h o Y:=λo bN=>by
  have er:∀(n:T) F,Gr b n 1 F->dL n≠some h->Gr o n 1 F:=λn F g an=>g.mono λr a8=>by
   obtain⟨_,_,_,_,O,_⟩:=g.box a8;exact(bN.w.get r (H.ej O) λe=>an (by rw[<-e];exact a8)).trans (fX b r)
  obtain⟨R,S,A,Z,F,_,eH,eN,eI⟩:=(er ap L eO e6).ID (te:=pX) rfl di;have aN:tV ⟨B,h,v+1,L[c],bs⟩ [.ptr h 0 0 0,L[c]] o:=⟨rfl,er _ _ c1 c4,c4,bN.g,bN.w.ok,U,bi _ dm⟩;obtain⟨_,Y,e,O⟩:=D3 (tb:=⟨pt [(99,r7)],ht [(63,ka),(100,jp HF yP rK),(101,jp HD yO rJ),(102,jp An tV sY)]⟩) dp Ue ⟨_,aN⟩;obtain⟨u,rfl,e7,e8,e9⟩:=O _ aN;exact⟨R,S,A,Z,F,u,Y,eH,eN,eI,e,aS e7 (bi _ dm),e8,e9⟩
 have eF:(decide (j=5)=false/\(decide (j=3)||decide (j=4))=true/\∃W:Nat,jT q=some W/\W<E.cells.length)\/(decide (j=5)=false/\(decide (j=3)||decide (j=4))=false)\/(decide (j=5)=true):=by
  by_cases J:j=5
  ·exact .inr (.inr (aT J))
  ·by_cases P:j=3\/j=4
   ·exact .inl ⟨aM J,by simpa using P,q.toNat,ed (bu P).1,by have:=bu P;omega⟩
   ·exact .inr (.inl ⟨aM J,dq⟩)
 have fin:∀{o:H} {d f:T} (Q:iJ),PP (v+1) B h b M E o (LI c j q n z d f)->Ds d->Ds f->xv b (LI c j q n z d f) (dQ o (b.size+2) Q) (Ez ⟨B,h,v,M,E,ap,et⟩ [.ptr h 0 0 0,M.t,E.t,ap] b):=λQ i ⟨_,_,u,l1,l2⟩ ⟨_,_,bn,e4,e5⟩=>
  (i.tw.put i.g2 dp (by simpa using p) Q).cut eo p (FT.top (V:=λh=>b.size<=h) (d:=1) dj (λ_ O=>O) (.cons (fR ..) (.cons (fR ..) (.cons (fR ..) (.cons (fR ..) (.cons (fR ..) (.cons (l2 ..) (.cons (e5 ..) .nil)))))))) λfb fe=>⟨⟨c,j,q,n,z,u,bn⟩,rfl,l1,e4,fe,fb⟩
 obtain⟨R,S,fl,Z,F,u,fv,a1,a2,a3,a4,l1,t1,y⟩:=b8 fs l.tw;have bk:=l.call y t1 p;obtain⟨bS,a6⟩:=bk.g3;have ae:=λQ=>(dE a6 Q (b.size+3)).trans (aq rfl);have aX:=c1.cells;rcases eF with⟨J,P,W,eS,dk⟩|⟨J,P⟩|J;simp[eR,s,m,eL,J,P,eS,dk];refine dU (λal=> ?_) (λal=> ?_);rotate_left
 iterate 2
  ·have I:=bk.put p (bS+1) (LI c j q n z dx (sl (u.map (T.int .i64))));simp[s,m,J,P];refine dU (λal=> ?_) (λal=> ?_)
   ·simp[C,N,aA,aE,s,a1,a2,a3,a4,a6,aX,ae,I.g2,I.rd];exact fin _ I Ds.nil (Ds.sl l1)
   ·simp[aA,s,m,l.g2,l.rd];exact fin _ l Ds.nil Ds.nil
 iterate 2
  ·have I:=bk.put p (bS+1) (LI c j q n z (sl (u.map (T.int .i64))) dx);simp[C,N,aE,s,m,J,a1,a2,a3,a4,a6,aX,ae];obtain⟨R,S,fl,Z,F,bn,gi,a1,a2,a3,a4,l2,t2,X⟩:=b8 _ I.tw;have ea:=I.call X t2 p;obtain⟨fi,c7⟩:=ea.g3;have eM:=λQ=>(dE c7 Q (b.size+3)).trans (aq rfl);have bl:=ea.put p (fi+1) (LI c j q n z (sl (u.map (T.int .i64))) (sl (bn.map (T.int .i64))));replace ae:=ae (dy 7 (bS+1) [LI c j q n z (sl (u.map (T.int .i64))) dx]);generalize dQ fv _ _=gg at*
   refine dU (λal=> ?_) (λal=> ?_)
   ·have eb:=bl.g2;have ec:=bl.rd;simp at eb ec;simp[C,N,aA,aE,s,a1,a2,a3,a4,c7,aX,eM,eb,ec];exact fin _ bl (Ds.sl l1) (Ds.sl l2)
   ·simp[aA,s,ae,I.g2,I.rd];exact fin _ I (Ds.sl l1) Ds.nil
def Px{j k:Type}{f:j->k->Prop}:∀{b:List j} {a:List k},b.length=a.length->(∀(e:Nat) c d,b[e]? =some c->a[e]? =some d->f c d)->io f b a:=by
 intro b;induction b with
 |nil=>intro a h _;cases a with|nil=>exact .nil|cons i a=>simp at h
 |cons p b n=>
  intro a h g;cases a with
  |nil=>simp at h
  |cons i a=>exact .cons (g 0 p i rfl rfl) (n (by simpa using h) λe c d l m=>g (e+1) c d (by simpa using l) (by simpa using m))
structure Eh(lo bv:Nat)(h:H)(rs:List (List Int))(o:T)(xs:List T)(es:List T)(ver:Nat):Prop where
 gb:h.get bv=some ⟨1,0,ver,true,false,es⟩
 Mc:lo<=bv
 len:es.length=rs.length
 gr:∀(i:Nat) (e:T) (ns:List Int),es[i]? =some e->rs[i]? =some ns->Gr h e 1 (ns.map (T.int .i64))
 sep:∀(i:Nat) (e:T) (c:Nat),es[i]? =some e->dL e=some c->lo<=c/\c≠bv/\dL o≠some c/\∀(j:Nat) (e':T),es[j]? =some e'->dL e'=some c->i=j
 go:Gr h o 7 xs
 ob:∀c,dL o=some c->lo<=c/\c≠bv
variable {lo bv:Nat}{h h':H}{rs:List (List Int)}{o:T}{xs es:List T}{ver:Nat}
def Eh.lt(e:Eh lo bv h rs o xs es ver){a:Nat}{b:T}{c:Nat}(d:es[a]? =some b)(f:dL b=some c):c<h.size:=by
 have g:a<rs.length:=by rw[<-e.len];exact(List.getElem?_eq_some_iff.1 d).1
 obtain⟨_,_,_,_,i,_⟩:=(e.gr a b rs[a] d (az g)).box f;exact H.ej i
def Eh.olt(c:Eh lo bv h rs o xs es ver){a:Nat}(b:dL o=some a):a<h.size:=by
 obtain⟨_,_,_,_,d,_⟩:=c.go.box b;exact H.ej d
def Eh.ky(a:Eh lo bv h rs o xs es ver)(e:∀b,lo<=b->b<h.size->h'.get b=h.get b):Eh lo bv h' rs o xs es ver:=
 ⟨(e _ a.Mc (H.ej a.gb)).trans a.gb,a.Mc,a.len,λg f j d i=>(a.gr g f j d i).mono λb c=>e b (a.sep g f b d c).1 (a.lt d c),a.sep,a.go.mono λb c=>e b (a.ob b c).1 (a.olt c),a.ob⟩
def Eh.rda(a:Eh lo bv h rs o xs es ver){b:Nat}(j:b<lo):Tu b h (.arr bv 0 0 rs.length false) rs:=
 ⟨es,by rw[<-a.len];exact .inr ⟨bv,0,ver,true,es,rfl,a.gb,aL⟩,by have:=a.Mc;simp;omega,Px a.len λe c g d f=>⟨a.gr e c g d f,λi=>by have:=(a.sep e c b d i).1;omega⟩⟩
def _root_.Go.TI.Gr.mt{h:H}{a:T}{e:Nat}{es:List T}(c:Gr h a e es)(b:T):TI.mt a 0 [b]=some b:=by
 rcases c with⟨rfl,_⟩|⟨f,i,ver,j,xs,rfl,_⟩<;>exact H3 λg d=>by cases d
def Eh.app(a:Eh lo bv h rs o xs es ver){b:Nat}{f:T}{v:List Int}(g:es[b]? =some f)(J:rs[b]? =some v){n:Int}{u:T}{s:H}(x:Xt h f 1 ((v++[n]).map (T.int .i64)) u s)(I:lo<=h.size)(C:Nat):
 Eh lo bv (dQ s bv ⟨1,0,C,true,false,es.set b u⟩) (rs.set b (v++[n])) o xs (es.set b u) C/\s.get bv=some ⟨1,0,ver,true,false,es⟩:=by
 obtain⟨G,w,q,K⟩:=x;have E:=H.ej a.gb;have t:b<es.length:=(List.getElem?_eq_some_iff.1 g).1;have r:s.get bv=some ⟨1,0,ver,true,false,es⟩:=(w bv E λe=>(a.sep b f bv g e).2.1 rfl).trans a.gb;refine⟨⟨(dE r _ bv).trans (aq rfl),a.Mc,by simp[a.len],λl p F c j=> ?_,λl p i c d=> ?_,a.go.mono λi d=> ?_,a.ob⟩,r⟩
 ·by_cases e:b=l
  ·subst e;rw[dg t]at c;rw[dg (by rw[<-a.len];exact t)]at j;cases c;cases j;refine G.mono λi d=> ?_;rw[dE r,ao];rintro rfl;rcases q _ d with k|k
   ·exact(a.sep b f _ g k).2.1 rfl
   ·omega
  ·rw[cA e]at c;rw[cA e]at j;refine(a.gr l p F c j).mono λi d=> ?_;have m:=a.sep l p i c d;rw[dE r,ao m.2.1];exact w i (a.lt c d) λk=>e (m.2.2.2 b f g k).symm
 ·by_cases e:b=l
  ·subst e;rw[dg t]at c;cases c;refine⟨?_,?_,?_,λl p c y=> ?_⟩
   ·rcases q _ d with k|k
    ·exact(a.sep b f _ g k).1
    ·omega
   ·rcases q _ d with k|k
    ·exact(a.sep b f _ g k).2.1
    ·omega
   ·rcases q _ d with k|k
    ·exact(a.sep b f _ g k).2.2.1
    ·intro z;have:=a.olt z;omega
   ·by_cases e:b=l
    ·exact e
    ·rw[cA e]at c;rcases q _ d with k|k
     ·exact(a.sep b f _ g k).2.2.2 l p c y
     ·have:=a.lt c y;omega
  ·rw[cA e]at c;have m:=a.sep l p i c d;refine⟨m.1,m.2.1,m.2.2.1,λk D j A=> ?_⟩;by_cases B:b=k
   ·subst B;rw[dg t]at j;cases j;rcases q _ A with z|z
    ·exact m.2.2.2 b f g z
    ·have:=a.lt c d;omega
   ·rw[cA B]at j;exact m.2.2.2 k D j A
 ·rw[dE r,ao (a.ob i d).2];exact w i (a.olt d) λk=>(a.sep b f i g k).2.2.1 d
def Eh.out(a:Eh lo bv h rs o xs es ver){j:T}{n:List T}{f:H}(t:Xt h o 7 n j f)(v:lo<=h.size):Eh lo bv f rs j n es ver:=by
 obtain⟨u,k,l,w⟩:=t;have p:=H.ej a.gb;refine⟨(k bv p λs=>(a.ob bv s).2 rfl).trans a.gb,a.Mc,a.len,λg e r d f=>(a.gr g e r d f).mono λc b=>k c (a.lt d b) (a.sep g e c d b).2.2.1,λg e c d b=> ?_,u,λc b=> ?_⟩
 ·have i:=a.sep g e c d b;refine⟨i.1,i.2.1,λq=> ?_,i.2.2.2⟩;rcases l _ q with z|z
  ·exact i.2.2.1 z
  ·have:=a.lt d b;omega
 ·rcases l _ b with z|z
  ·exact a.ob c z
  ·exact⟨dj,dj⟩
end
noncomputable section
open Go Go.TI
attribute [-simp] List.map_take List.map_drop List.map_append fj eG dY Bool.not_or Bool.not_and
attribute [simp] fh eJ
attribute [-simp] size_cons
structure IPl where
 (L:List Int) (b:Nat) (s:dW) (w:dR) (n:Nat) (early:Bool)
def SC(a:IPl)(d:List T)(c:H):Prop:=d=[.ptr a.b 0 0 0,a.s.t,a.w.t,dw a.n,.bool a.early]/\uD 0 a.L a.b c/\gu 0 c/\okB a.L/\a.L.length<=400/\a.n<=16/\a.w.dB.length=4/\a.w.cells.length=5/\a.w.fV.length<=1000/\mQ a.w a.s=true/\qn 1000 a.s/\1<=a.s.dT.length
def M4(a:IPl)(g:List T)(e:H)(f:T)(d:H):Prop:=∃c:List dX,f=sl (c.map dX.t)/\c.length<=a.n/\IV c/\runs a.w a.s c=true/\uD 0 a.L a.b d/\Sm a.b e d
def acP(a:dX)(d:H)(c:Nat->Prop):FT d c 2 a.t a.t:=by
 have e:∀b:List Int,FT d c 1 (sl (b.map (T.int .i64))) (sl (b.map (T.int .i64))):=λb=>ou _ _ _ λg f=>by obtain⟨h,_,rfl⟩:=List.mem_map.1 f;simp
 exact .inr (.inr ⟨a.cs,a.cs,rfl,.cons (fR ..) (.cons (fR ..) (.cons (fR ..) (.cons (fR ..) (.cons (fR ..) (.cons (e _) (.cons (e _) .nil)))))),rfl⟩)
def Qi{a:H}(g:gu 0 a)(b c d:iJ):(∀e,e<a.size->(dQ ((a.cons b).cons c) (a.size+1) d).get e=a.get e)/\(dQ ((a.cons b).cons c) (a.size+1) d).get a.size=some b/\(dQ ((a.cons b).cons c) (a.size+1) d).get (a.size+1)=some d/\(dQ ((a.cons b).cons c) (a.size+1) d).size=a.size+2:=by
 have f:=md ((g.cons b).cons c).hp (show a.size+1<_ by simp[size_cons]);refine⟨λe h=> ?_,?_,?_,by simp[size_cons]⟩
 ·rw[f,ao dj,dM,ao (by rw[size_cons];omega),dM,ao dj]
 ·rw[f,ao dj,dM,ao (by rw[size_cons];omega),dM,aq rfl]
 ·rw[f,aq rfl]
def rV.two{h:Nat}{f:List Int}{b:Nat}{e a:H}(i:rV h f b e a)(k:b<e.size)(g d j:iJ):rV h f b e (dQ ((a.cons g).cons d) (a.size+1) j):=
 ((i.cons g).cons d).put (c:=a.size+1) (x:=d) (by rw[dM,aq (by rw[size_cons])]) (by have:=i.w.size;omega) k j
def PlC(a:dW):Prop:=a.cells.length=5/\1<=a.dT.length/\a.fx.dB.length<=98/\a.count.length=4
def WO(h:Nat)(d:List Int)(e:Nat)(a:H)(n:dR)(k:dW)(i:Nat)(g:T)(o:List T)(b:H):Prop:=∃c f m l,rV h d e (TI.hr a) b/\b.get a.size=some (dy 7 l [k.t])/\b.get (a.size+1)=some (dy 6 0 [n.t])/\Eh (a.size+2) (a.size+2) b c g o f m/\a.size+3<=b.size/\c.length=4/\∀j∈c,j.length<=i
def ab5:(jp IPl SC M4).Ok Tryz.prog cx 39:=by
 refine pW (tb:=⟨pt [(66,kY)],ht [(63,ka),(65,jp IEv MY Ez)]⟩) ei eg (iL 155347004713968546154151135 [(14,[(2,15)])] Tryz.func39) (λ_ _=>1000) (λi a e e8=>by obtain⟨rfl,_⟩:=e8;simp[Tryz.f39]) ?_;rintro⟨V,b,q,h,n,early⟩ _ e ⟨rfl,et,eO,dm,e3,e7,ec,eH,fe,b9,eF,e5⟩ r bB;simp only at et dm e3 e7 ec eH fe b9 eF e5;simp at bB;obtain⟨B,al,bi,C,W⟩:=bB;have an:=et.tp.lt;have gd:(b=e.size)=False:=dq;have gg:(b=e.size+1)=False:=dq;simp[Tryz.f39,al,bi,ec];have cL:q.count.length=4:=by
  unfold mQ at b9;simp only[aB,aO]at b9;rw[b9.2,ec]
 generalize bz:(((TI.hr e).cons _).cons _).cons _=bu;have gm:bu.size=e.size+3:=by rw[<-bz];rfl
 have eB:rV 0 V b (TI.hr e) bu:=by rw[<-bz];exact(((rV.refl eO.hr (et.eq (fX e b))).cons _).cons _).cons _
 have T:bu.get e.size=some (dy 7 0 [q.t]):=by rw[<-bz];simp
 have ae:bu.get (e.size+1)=some (dy 6 0 [h.t]):=by rw[<-bz];simp
 have eA:Eh (e.size+2) (e.size+2) bu [[],[],[],[]] dx [] [dx,dx,dx,dx] 0:=by
  rw[<-bz];refine⟨dp,au _,rfl,λi u gi al bi=> ?_,λi u c al bi=> ?_,Gr.nil _ _,dp⟩
  ·rcases i with _|_|_|_|i<;>simp at al bi<;>subst al bi<;>exact Gr.nil _ _
  ·rcases i with _|_|_|_|i<;>simp at al<;>subst al<;>simp at bi
 clear bz;have ce:WO 0 V b e h q 0 dx [] bu:=⟨_,_,_,_,eB,T,ae,eA,dj,rfl,dp⟩;refine fc 4 dj (λj r y=>WO 0 V b e h q j dx [] y/\dz r 0 (.ptr b 0 0 0)/\dz r 3 (dw n)/\dz r 4 (.bool early)/\dz r 6 (.ptr e.size 0 0 0)/\dz r 7 (.ptr (e.size+1) 0 0 0)/\dz r 11 dx/\dz r 12 (.arr (e.size+2) 0 0 4 false)/\dz r 22 (dw 4)/\dz r 23 (dw j)) ?_ ?_ dj ⟨ce,by simp[B,C,W]⟩
 ·rintro j r y e6 cp ⟨⟨v,s,D,S,Y,T,ae,X,aE,P,H⟩,B,C,W,E,G,F,J,bk,bl⟩;have c1:j<q.count.length:=dj;have ds:(j:Int)<4:=dj;have fB:(b=e.size+2)=False:=dq;have ey:WO 0 V b e h q (j+1) dx [] y:=⟨v,s,D,S,Y,T,ae,X,aE,P,λM hr=>Nat.le_succ_of_le (H M hr)⟩;cases early with
  |false=>
   simp[B,C,W,E,G,F,J,bk,bl,ds,cp,ey]
  |true=>
  by_cases eC:1<q.count[j]
  ·obtain⟨m,eP,di,fL,aN,c4⟩:=Y.next (tb:=⟨pt [(66,kY)],ht [(63,ka),(65,jp IEv MY Ez)]⟩) dp dm 3 dj dj;simp[T,B,W,E,bk,bl,ds,c1,eC,di];have L:Eh (e.size+2) (e.size+2) eP v dx [] s D:=X.ky λc o _=>c4.get c dj;have aX:=(c4.get e.size dj).trans T;have a6:=(c4.get (e.size+1) dj).trans ae;have bn:=c4.size;refine dU (λbC=> ?_) (λbC=> ?_)
   ·have O:j<s.length:=by rw[L.len];omega
    have R:j<v.length:=dj;obtain⟨cb,aA,b7,eo,er,K⟩:=(Xt.refl (L.gr j s[j] v[j] (az O) (az R)) aN.w.ok).RH 1 (by have:=H v[j] (aF R);omega);obtain⟨I,a8⟩:=L.app (az O) (az R) K dj (D+1);have cL:=(L.gr j s[j] v[j] (az O) (az R)).cells;have bN:∀c,dL s[j]=some c->e.size+2<=c:=λc o=>(L.sep j s[j] c (az O) o).1;have dd:=((aN.le (aw _)).xt K (λc ap=>by have:=bN c ap;simp;omega) (by simpa using an)).put a8 dp (by simpa using an) ⟨1,0,D+1,true,false,s.set j cb⟩;have A:∀c,c<e.size+2->(dQ aA (e.size+2) ⟨1,0,D+1,true,false,s.set j cb⟩).get c=eP.get c:=λc ap=>by
     rw[dE a8,ao dj];exact K.2.1 c dj λo=>by have:=bN c o;omega
    have c9:=K.2.2.2.sz;simp[L.gb,B,C,W,E,G,F,J,bk,bl,e6,O,cp,cL,b7,eo,er,a8,(L.gr j s[j] v[j] (az O) (az R)).mt];exact⟨_,_,_,S,dd,(A _ dj).trans aX,(A _ dj).trans a6,I,dq,by simp[P],λM hr=>by
     rcases bV hr with k|rfl
     ·exact Nat.le_succ_of_le (H M k)
     ·have:=H v[j] (aF R);simp;omega⟩
   ·simp[B,C,W,E,G,F,J,bk,bl,cp];exact⟨v,s,D,S,aN.le (aw _),aX,a6,L,dj,P,λM hr=>Nat.le_succ_of_le (H M hr)⟩
  ·simp[T,B,C,W,E,G,F,J,bk,bl,ds,c1,cp,eC,ey]
 clear ce eA T ae eB B al bi C W;have eD:=b9;unfold mQ ml at eD;simp only[aB,aO]at eD;rintro r y ⟨ce,B,C,W,E,G,F,J,bk,bl⟩;simp[bk,bl];refine PD 401 (λj r y=>(∃Q l,WO j V b e h (oo h q l) (j+4) Q (l.map dX.t) y/\runs h q l=true/\l.length<=n/\IV l/\qn (1000+j) (oo h q l)/\PlC (oo h q l)/\dz r 11 Q)/\dz r 0 (.ptr b 0 0 0)/\dz r 3 (dw n)/\dz r 6 (.ptr e.size 0 0 0)/\dz r 7 (.ptr (e.size+1) 0 0 0)/\dz r 12 (.arr (e.size+2) 0 0 4 false)) ?_ dj (aw _) ⟨⟨dx,[],ce,rfl,aw _,λu e4=>by simp at e4,eF,?_,by simp[F]⟩,by simp[B,C,E,G,J]⟩
 ·rintro j r y fC ⟨⟨Q,l,⟨v,s,D,S,Y,T,ae,X,aE,P,H⟩,dv,eE,dn,ea,bH,F⟩,B,C,E,G,J⟩;obtain⟨gk,gj,e0,fS⟩:=Y.g;simp[B,C,F,X.go.len,e0];refine dU (λbC=> ?_) (λbC=> ?_)
  ·simp at bC;have fE:j<V.length:=dj;simp[B,E,G,J,T,ae];refine gJ ab7 dp ⟨V,b,j,oo h q l,h,.arr (e.size+2) 0 0 4 false,v⟩ ⟨rfl,Y.g,Y.w.ok,dm,by have:=X.rda (b:=b) dj;rw[P]at this;exact this,P,λM hr=>by have:=H M hr;omega,bH.1,bH.2.1,bH.2.2.1,eH⟩ ?_;rintro _ U ⟨u,rfl,eX,di,t1,bS⟩;simp only at eX di t1 bS;have aN:=Y.call bS t1;have L:Eh (e.size+2) (e.size+2) U v Q (l.map dX.t) s D:=X.ky λc o _=>bS.get c dj;have aX:=(bS.get e.size dj).trans T;have a6:=(bS.get (e.size+1) dj).trans ae;have bn:=bS.size;have b8:=λ{tb:fq} (ht:tb.p 66=some kY)=>yo ht h (oo h q l) u dj (ea.up dj) dj dj;have eL:(e.size=U.size)=False:=dq;have eM:(e.size+1=U.size)=False:=dq;have eI:=aN.w.ok.low;have de:=λca=>aN.two (by simpa using an) (dy 7 1 [u.t]) (dy 7 0 [.agg [dx,dw 0,dx,dx,dx,dx,dx]]) (dy 7 1 [ca]);have N:=λca=>Qi aN.w.ok (dy 7 1 [u.t]) (dy 7 0 [.agg [dx,dw 0,dx,dx,dx,dx,dx]]) (dy 7 1 [ca]);cases o:pj h (oo h q l) u with
   |false=>
    rw[kR o]at b8;simp[B,C,E,G,F,J,aX,a6,eL,eM,eI,b8];obtain⟨A,av,bT,c9⟩:=N rZ.t;exact⟨dj,Q,l,⟨v,s,D,S,de _,(A _ dj).trans aX,(A _ dj).trans a6,L.ky λc _ o=>A c o,by rw[c9];omega,P,λM hr=>by have:=H M hr;omega⟩,dv,eE,dn,ea.up dj,bH,rfl⟩
   |true=>
    have eb:jw h (oo h q l) u=(jO h (oo h q l) u,true):=by unfold jw;rw[aq o]
    rw[eb]at b8;simp[E,G,aX,a6,eL,eM,eI,b8];have Z:=de (jO h (oo h q l) u).t;obtain⟨A,av,bT,c7⟩:=N (jO h (oo h q l) u).t;have a7:=(A e.size dj).trans aX;have bs:=(A (e.size+1) dj).trans a6;have I:Eh (e.size+2) (e.size+2) _ v Q (l.map dX.t) s D:=L.ky λc _ o=>A c o;clear b8 de N A;generalize dQ _ _ _=aA at*
    simp[av];have eS:WO (j+1) V b e h (oo h q l) (j+4) Q (l.map dX.t) aA:=⟨v,s,D,S,Z,a7,bs,I,dj,P,H⟩;refine lh (λr c6=>(WO (j+1) V b e h (oo h q l) (j+1+4) Q (l.map dX.t) c6/\U.size+2<=c6.size/\c6.get U.size=some (dy 7 1 [u.t])/\c6.get (U.size+1)=some (dy 7 1 [(jO h (oo h q l) u).t]))/\dz r 0 (.ptr b 0 0 0)/\dz r 3 (dw n)/\dz r 6 (.ptr e.size 0 0 0)/\dz r 7 (.ptr (e.size+1) 0 0 0)/\dz r 11 Q/\dz r 12 (.arr (e.size+2) 0 0 4 false)/\dz r 14 (.ptr U.size 0 0 0)/\dz r 15 (.ptr (U.size+1) 0 0 0)) (λbC=> ?_) (λbC=> ?_) ?_
    ·obtain⟨z,fb,e9⟩:∃z:Nat,z<4/\jT u.dN=some z:=by
      have:=ff.1 (s7 o).2.1;exact⟨u.dN.toNat,dj,ed this.1⟩
     have O:z<s.length:=by rw[I.len];omega
     have R:z<v.length:=dj;have c1:z<(oo h q l).count.length:=by have:=bH.2.2.2;omega
     have dk:=I.gr z s[z] v[z] (az O) (az R);obtain⟨cb,eu,b7,eo,er,K⟩:=(Xt.refl dk Z.w.ok).RH (oo h q l).count[z] (by have:=H v[z] (aF R);omega);obtain⟨eU,a8⟩:=I.app (az O) (az R) K dj (D+1);have cL:=dk.cells;have bN:∀c,dL s[z]=some c->e.size+2<=c:=λc o=>(I.sep z s[z] c (az O) o).1;have dd:=(Z.xt K (λc ap=>by have:=bN c ap;simp;omega) (by simpa using an)).put a8 dp (by simpa using an) ⟨1,0,D+1,true,false,s.set z cb⟩;have c9:=K.2.2.2.sz;have ef:=λc (k:dL s[z]=some c)=>L.lt (az O) k;have eN:∀c,c<aA.size->(∀k,dL s[z]=some k->k≠c)->eu.get c=aA.get c:=λc aE bn=>K.2.1 c aE λk=>bn c k rfl;have A:∀c,c<aA.size->c≠e.size+2->(∀k,dL s[z]=some k->k≠c)->(dQ eu (e.size+2) ⟨1,0,D+1,true,false,s.set z cb⟩).get c=aA.get c:=λc aE c7 bn=>by
      rw[dE a8,ao c7];exact eN c aE bn
     have sv:ew (aA.cons (dy 1 0 [dw (oo h q l).count[z]])) eu U.size=true:=eZ ((eN _ dj λk o=>by have:=ef k o;omega).trans (by rw[dM,ao dj]));simp[I.gb,B,C,E,G,F,J,av,a7,e9,fb,O,c1,cL,b7,eo,er,a8,dk.mt,sv];refine⟨⟨_,_,_,S,dd,(A _ dj dj λk o=>by have:=bN k o;omega).trans a7,(A _ dj dj λk o=>by have:=bN k o;omega).trans bs,eU,dq,by simp[P],λM hr=> ?_⟩,dj,(A _ dj dj λk o=>by have:=ef k o;omega).trans av,(A _ dj dj λk o=>by have:=ef k o;omega).trans bT⟩;rcases bV hr with k|rfl
     ·have:=H M k;omega
     ·have:=H v[z] (aF R);simp;omega
    ·simp[B,C,E,G,F,J];exact⟨⟨v,s,D,S,Z,a7,bs,I,dj,P,λM hr=>by have:=H M hr;omega⟩,dj,av,bT⟩
    ·have fs:∀c,dL Q=some c->c<U.size:=λc=>L.olt;clear eS Z a7 bs I av bT c7 B C E G F J;rintro r eR ⟨⟨⟨v,s,D,S,Z,a7,bs,I,c7,P,H⟩,gn,av,bT⟩,B,C,E,G,F,J,e1,e2⟩;obtain⟨fo,fA,b7,K⟩:=I.go.mM (cx:=cx) (f:=dX.t) Z.w.ok OK rfl OH rfl dp (λ_=>rfl) u dq;have eh:∀c,dL Q=some c->e.size+2<=c:=λc k=>(I.ob c k).1;have A:∀c,c<eR.size->(∀k,dL Q=some k->k≠c)->fA.get c=eR.get c:=λc aE bn=>K.2.1 c aE λk=>bn c k rfl;have t6:=(A _ dj λk o=>by have:=fs k o;omega).trans bT;have b6:=(A e.size dj λk o=>by have:=eh k o;omega).trans a7;have eV:=I.out K dj;have eW:=(Z.xt K (λc ap=>by have:=eh c ap;simp;omega) (by simpa using an)).put b6 dp (by simpa using an) (dy 7 (S+1) [(jO h (oo h q l) u).t]);have bB:oo h q (l++[u])=jO h (oo h q l) u:=by
      show vi _ _ _=_;rw[Hz];show(jw h (oo h q l) u).1=_;rw[eb]
     have c9:=K.2.2.2.sz;simp[B,C,E,G,F,J,e1,e2,av,b7,t6,b6];refine⟨dj,fo,l++[u],⟨v,s,D,S+1,eW,?_,?_,eV.ky λc o _=> ?_,dq,P,H⟩,?_,?_,?_,?_,?_,rfl⟩
     ·rw[bB,dE b6,aq rfl]
     ·rw[dE b6,ao dj];exact(A (e.size+1) dj λk o=>by have:=eh k o;omega).trans bs
     ·rw[dE b6,ao dj]
     ·rw[Bc,dv];simp[runs,rI,o]
     ·simp;omega
     ·intro x hx;rcases List.mem_append.1 hx with hx|hx
      ·exact dn x hx
      ·simp at hx;subst hx;omega
     ·have:=ea.step h u;rw[eb]at this;rw[bB];exact this
     ·have:=xp h (oo h q l).fx u.dN u.kind u.obj (kO u);obtain⟨fi,fl,fY,fm⟩:=bH;rw[bB];exact⟨by unfold jO;simp only;split<;>simp[fi],by unfold jO;simp only;split<;>simp[fl],by show(em ..).1.dB.length<=_;omega,by unfold jO;simp[fm]⟩
  ·simp[F];exact(Y.le (aw _)).cut eO an (X.go.X7 (d:=2) dj (λc ap=>by have:=(X.ob c ap).1;omega) acP) λca fv=>⟨l,rfl,eE,dn,dv,fv,ca⟩
 ·exact(⟨dj,dj,dj,dj⟩:PlC q)
end
noncomputable section
open Go Go.TI
attribute [-simp] List.map_take List.map_drop List.map_append
def Bh:f7:=⟨Int×Nat,λa=>[dw a.1,dw a.2],λa=>True,λa=> .bool (iP a.1 a.2),λa c b=>by simp at b;rw[b.1,show a.2=c.2 by omega]⟩
def Uj:Bh.Ok Tryz.prog cx 112:=by
 refine gH (tb:=⟨pt [],ht []⟩) ei eg (iL 19 [] Tryz.func112) (λf=>1) (by simp[Bh]) (by simp[Bh,Tryz.f112]) ?_;rintro⟨e,g⟩ _ h a;simp[Bh]at a|-;obtain⟨b,c⟩:=a;by_cases d:0<=e<;>simp[Tryz.f112,b,c,d,iP]
def Pe{c:fq}(ht:c.p 112=some Bh)(a:Int)(b:Nat):rl Tryz.prog cx c 112 [dw a,dw b]=some (.bool (iP a b)):=gF ht Uj (a,b) trivial
def Fv(c:eK)(b:Int):Bool:=match wG c.jG.count b with|some a=>decide (1<=a)|none=>false
def sS:f7:=⟨eK×Int,λa=>[a.1.t,dw a.2],λa=>True,λa=> .bool (Fv a.1 a.2),λa c b=>by simp at b;rw[eK.inj b.1,b.2]⟩
def Lm:sS.Ok Tryz.prog cx 113:=by
 refine gH (tb:=⟨pt [(112,Bh)],ht []⟩) ei eg (iL 23 [] Tryz.func113) (λi=>1) (by simp[sS]) (by simp[sS,Tryz.f113]) ?_;rintro⟨h,g⟩ _ k d;simp[sS]at d|-;obtain⟨b,c⟩:=d;cases a:iP g h.jG.count.length with
 |false=>simp[Tryz.f113,b,c,Pe,a,Fv,ql a]
 |true=>
  obtain⟨j,e,f⟩:=im a;simp[Tryz.f113,b,c,Pe,a,Fv,e,f,ed (ff.1 a).1]
def vd{c:fq}(ht:c.p 113=some sS)(b:eK)(a:Int):rl Tryz.prog cx c 113 [b.t,dw a]=some (.bool (Fv b a)):=gF ht Lm (b,a) trivial
end
noncomputable section
open Go Go.TI
attribute [-simp] List.map_take List.map_drop List.map_append fj eG dY Bool.not_or Bool.not_and
attribute [simp] fh eJ
def JL:mU Tryz.prog cx 114 (λa:eK×Int×Int=>[a.1.t,dw a.2.1,dw a.2.2]) (λa=>a.1.dH.length<=1000000) (λa v=>∃p:Int,v= dw p/\p<a.1.dH.length):=by
 refine iZ (tb:=⟨pt [],ht []⟩) ei eg (iL 20975823 [] Tryz.func114) (λa=>a.1.dH.length+5) (λa b c=>by simp at c;exact aP (eK.inj c.1) (aP c.2.1 c.2.2)) dp (by simp[Tryz.f114]) ?_;rintro⟨q,w,u⟩ hl d m;simp at hl m;obtain⟨r,e,f⟩:=m;simp[Tryz.f114,r];refine fc q.dH.length dj (λo d c=>∃l,gu 1 c/\c.get 0=some (dy 15 0 [q.t])/\dz d 1 (dw w)/\dz d 2 (dw l)/\dz d 3 (.ptr 0 0 0 0)/\dz d 7 (dw o)) ?_ ?_ dj ⟨u,⟨dp,dp,dp⟩,by simp[e,f]⟩
 ·rintro o d c s n ⟨l,h,i,e,f,j,g⟩;have x:=h.ne (b:=0) dj;simp[i,e,j,g,s];refine dU (λk=> ?_) (λk=> ?_)
  ·simp[f];refine dU (λk=> ?_) (λk=> ?_)
   ·simp[g,h.hp];omega
   ·simp[i,e,f,j,g,n,tN,h]
  ·simp[i,e,f,j,g,n,h]
 ·rintro d c ⟨l,h,i,e,f,j,g⟩;simp[i,j,g,h.hp];omega
def By:mU Tryz.prog cx 69 (λa:eK=>[a.t]) (λa=>a.jG.count.length<=1000000/\a.dH.length<=1000000) (λ_=>D1):=by
 refine iZ (tb:=⟨pt [],ht []⟩) ei eg (iL 268436511 [] Tryz.func69) (λa=>a.jG.count.length+5) (λo p b=>by simp at b;exact eK.inj b) dp (by simp[Tryz.f69]) ?_;rintro a ⟨hl,q⟩ c j;simp at j;simp[Tryz.f69,j];refine fc a.jG.count.length dj (λl c b=>∃i,gu 1 b/\b.get 0=some (dy 15 0 [a.t])/\dz c 1 (.ptr 0 0 0 0)/\dz c 3 (dw i)/\dz c 4 (dw l)) ?_ ?_ dj ⟨0,⟨dp,dp,dp⟩,dp⟩
 ·rintro l c b k m ⟨i,g,d,e,h,f⟩;simp[d,e,f,k];refine dU (λn=> ?_) (λn=> ?_)
  ·simp[g.hp]
  ·simp[d,e,h,f,k,m,nD,g]
 ·rintro c b ⟨i,g,d,e,h,f⟩;simp[d,e,h,f,nD,g.hp]
def HN(b:eK)(a:dD):Prop:=yB a=true->iP a.cond b.ez.fV.length=true
def xP:mU Tryz.prog cx 70 (λa:eK=>[a.t]) (λa=>a.jG.fx.dB.length<=1000000/\a.jG.fx.dB.length=a.jG.count.length) (λa=>Lx (∀m∈a.jG.fx.dB,HN a m)):=by
 refine iZ (tb:=⟨pt [(112,Bh)],ht []⟩) ei eg (iL 162259279247065002620836359716991 [] Tryz.func70) (λa=>a.jG.fx.dB.length+5) (λu b d=>by simp at d;exact eK.inj d) dp (by simp[Tryz.f70]) ?_;rintro a ⟨hl,v⟩ g o;simp at o;simp[Tryz.f70,o];refine fc a.jG.fx.dB.length dj (λc g d=>gu 1 d/\d.get 0=some (dy 15 0 [a.t])/\dz g 1 (.ptr 0 0 0 0)/\dz g 3 (sl (a.jG.fx.dB.map dD.t))/\dz g 4 (dw c)/\∀m∈a.jG.fx.dB.take c,HN a m) ?_ ?_ dj ⟨⟨dp,dp,dp⟩,dp⟩
 ·rintro c g d n q ⟨f,j,k,h,i,l⟩;have r:a.jG.fx.dB.take (c+1)=a.jG.fx.dB.take c++[a.jG.fx.dB[c]]:=aU n;have w:=f.ne (b:=0) dj;simp[j,k,h,i,n,show c<a.jG.count.length by omega];refine dU (λe=> ?_) (λe=> ?_)
  ·simp[f.hp]
  clear e;simp[j,k,h,i,n,Pe];refine dU (λe=> ?_) (λe=> ?_)
  ·simp[f.hp]
  simp[j,k,h,i,q,f];generalize a.jG.fx.dB[c]=m at*
  rw[r];intro s hu;rcases List.mem_append.1 hu with hu|hu
  ·exact l s hu
  rw[List.mem_singleton.1 hu];intro p;unfold yB at p;rw[p]at e;simpa using e
 ·rintro g d ⟨f,j,k,h,i,l⟩;rw[aL]at l;simp[h,i,f.hp];exact l
def yU:mU Tryz.prog cx 72 (λa:eK×Int×List Int=>[a.1.t,dw a.2.1,sl (a.2.2.map (T.int .i64))]) (λa=>a.1.dH.length<=1000000/\iP a.2.1 a.1.jG.count.length=true/\a.2.2.length<=1000000) (λ_=>D1):=by
 refine iZ (tb:=⟨pt [(114,JL.jb)],ht []⟩) ei eg (iL 576460752336982479 [] Tryz.func72) (λa=>a.2.2.length+5) (λa b c=>by simp at c;exact aP (eK.inj c.1) (aP c.2.1 (jt (λ_ _ c=>by simpa using c) c.2.2))) dp (by simp[Tryz.f72]) ?_;rintro⟨u,y,s⟩ ⟨hl,p,B⟩ h w;simp only at hl p B;simp at w;obtain⟨A,e,d⟩:=w;obtain⟨z,n,_⟩:=im p;have ht:=ed (ff.1 p).1;simp[Tryz.f72,A];refine fc s.length dj (λr h c=>gu 1 c/\c.get 0=some (dy 15 0 [u.t])/\dz h 1 (dw y)/\dz h 2 (sl (s.map (T.int .i64)))/\dz h 3 (.ptr 0 0 0 0)/\dz h 7 (dw r)) ?_ ?_ dj ⟨⟨dp,dp,dp⟩,by simp[e,d]⟩
 ·rintro r h c q x ⟨g,i,e,d,j,f⟩;have G:=g.ne (b:=0) dj;obtain⟨_,⟨k,rfl,C⟩,m⟩:=JL.use (u,y,IntKind.i64.wrap (s[r]-z)) hl;simp only at m C;simp[i,e,d,j,f,q,ht,n];refine dU (λo=> ?_) (λo=> ?_)
  ·simp[i,e,d,j,f,x,g]
  have D:decide (k<0)=true\/decide (k<0)=false/\jT k=some k.toNat/\∃v,u.dH[k.toNat]? =some v:=by
   by_cases l:k<0
   ·exact .inl (aT l)
   ·exact .inr ⟨aM l,ed dj,_,az dj⟩
  rcases D with l|⟨l,E,v,F⟩
  ·simp[i,e,d,j,f,q,ht,n,tN,m,g.hp,l]
  ·simp[i,e,d,j,f,q,ht,n,tN,m,l,E,F];refine dU (λo=> ?_) (λo=> ?_)
   ·simp[g.hp]
   ·simp[i,e,d,j,f,x,g]
 ·rintro h c ⟨g,i,e,d,j,f⟩;simp[d,f,g.hp]
structure ac9(w:eK):Prop where
 l1:w.jG.fx.dV.length<=1000000
 l2:w.jG.fx.dB.length<=1000000
 l3:∀l∈w.jG.fx.dV,l.d8.length<=1000000
 e:w.jG.fx.dV.length=w.ez.dV.length
 t:∀t∈w.jG.fx.dB,HN w t
 m:∀c∈w.ez.fV,iP c.ke w.jG.fx.dV.length=true
def z9:mU Tryz.prog cx 71 (λc:eK=>[c.t]) ac9 (λ_=>D1):=by
 refine iZ (tb:=⟨pt [(113,sS)],ht []⟩) ei eg (iL 5575186465791384471966860632566831987622399 [] Tryz.func71) (λc=>1000005) (λa b g=>by simp at g;exact eK.inj g) dp (by simp[Tryz.f71]) ?_;rintro c s f O;simp at O;simp[Tryz.f71,O];refine fc c.jG.fx.dV.length (by have:=s.l1;omega) (λj f g=>gu 2 g/\g.get 0=some (dy 15 0 [c.t])/\g.get 1=some (dy 4 1 [c.jG.fx.t])/\dz f 1 (.ptr 0 0 0 0)/\dz f 3 (.ptr 1 0 0 0)/\dz f 4 (dw j)) ?_ ?_ (by have:=s.l1;omega) ⟨⟨dp,dp,dp⟩,dp⟩
 ·rintro j f g E H ⟨h,p,l,d,i,r⟩;have w:=h.ne (b:=0) dj;have F:=h.ne (b:=1) dj;have X:=s.l3 _ (aF E);have S:j<c.ez.dV.length:=by have:=s.e;omega
  simp[p,l,d,i,r,E,w,h.low,vd,S];have U:gu 2 (g.cons (dy 2 1 [c.jG.fx.dV[j].t])):=h.cons _;have Y:2<=g.size:=h.sz;generalize c.jG.fx.dV[j]=o at*
  refine dU (λk=> ?_) (λk=> ?_)
  ·simp[h.hp]
  clear k;simp;refine fc o.d8.length dj (λq f v=>gu 2 v/\g.size<v.size/\v.get 0=some (dy 15 0 [c.t])/\v.get 1=some (dy 4 1 [c.jG.fx.t])/\v.get g.size=some (dy 2 1 [o.t])/\dz f 1 (.ptr 0 0 0 0)/\dz f 3 (.ptr 1 0 0 0)/\dz f 4 (dw j)/\dz f 5 (.ptr g.size 0 0 0)/\dz f 6 (dw q)) ?_ ?_ dj ⟨U,dp,by simp[p,l,d,i,r,w,F]⟩
  ·rintro q f v R P ⟨C,K,x,G,y,d,i,r,z,A⟩;have T:=kL (a:=q) (b:=1) dj dj;have I:decide (0<q)=false/\True/\(∃D:Int,D=D)\/decide (0<q)=true/\jT ((q:Int)-1)=some (q-1)/\∃D,o.d8[q-1]? =some D:=by
    by_cases u:0<q
    ·refine .inr ⟨aT u,?_,_,az dj⟩;rw[show(q:Int)-1=((q-1:Nat):Int)by omega];exact ed dj
    ·exact .inl ⟨aM u,trivial,0,rfl⟩
   rcases I with⟨u,_,D,J⟩|⟨u,M,D,J⟩
   ·simp[x,y,d,z,A,R,vd,u];refine dU (λk=> ?_) (λk=> ?_)
    ·simp[C.hp]
    ·simp[x,G,y,d,i,r,z,A,P,C,K]
   ·simp[x,y,d,z,A,R,vd,u,M,J,T];refine dU (λk=> ?_) (λk=> ?_)
    ·simp[C.hp]
    ·simp[x,G,y,d,i,r,z,A,P,C,K]
  ·rintro f v ⟨C,K,x,G,y,d,i,r,z,A⟩;simp[x,G,y,d,i,r,z,A,H,C]
 ·rintro f g ⟨h,p,l,d,i,r⟩;simp[p,l,d,i,r,vd];refine dU (λk=> ?_) (λk=> ?_)
  ·simp[h.hp]
  clear k;simp;refine fc c.jG.fx.dB.length (by have:=s.l2;omega) (λj f g=>gu 2 g/\g.get 0=some (dy 15 0 [c.t])/\g.get 1=some (dy 4 1 [c.jG.fx.t])/\dz f 1 (.ptr 0 0 0 0)/\dz f 3 (.ptr 1 0 0 0)/\dz f 7 (dw j)) ?_ ?_ (by have:=s.l2;omega) ⟨h,by simp[p,l,d,i]⟩
  ·rintro j f g E H ⟨h,p,l,d,i,B⟩;have w:=h.ne (b:=0) dj;have F:=h.ne (b:=1) dj;have ht:=s.t _ (aF E);simp[p,l,d,i,B,E,w,h.low,vd];refine dU (λk=> ?_) (λk=> ?_)
   ·simp[h.hp]
   clear k;have I:yB c.jG.fx.dB[j]=false/\True/\True/\(∃n:iB,n=n/\∃o:dS,o=o)\/yB c.jG.fx.dB[j]=true/\jT c.jG.fx.dB[j].cond=some c.jG.fx.dB[j].cond.toNat/\True/\(∃n,c.ez.fV[c.jG.fx.dB[j].cond.toNat]? =some n/\jT n.ke=some n.ke.toNat/\∃o,c.jG.fx.dV[n.ke.toNat]? =some o):=by
    cases u:yB c.jG.fx.dB[j]
    ·exact .inl ⟨rfl,trivial,trivial,default,rfl,default,rfl⟩
    ·have d:=ht u;obtain⟨n,Q,_⟩:=im d;have N:=s.m n (ax Q);obtain⟨o,hl,_⟩:=im N;exact .inr ⟨rfl,ed (ff.1 d).1,trivial,n,Q,ed (ff.1 N).1,o,hl⟩
   unfold yB at I;rcases I with⟨L,_,_,n,_,o,_⟩|⟨L,M,_,n,J,V,o,W⟩
   ·simp[p,l,d,i,B,w,F,L,H,h.cons]
   ·simp[p,l,d,i,B,w,F,L,M,J,V,W];refine dU (λk=> ?_) (λk=> ?_)
    ·simp[h.hp]
    ·simp[p,l,d,i,B,w,F,H,h.cons]
  ·rintro f g ⟨h,p,l,d,i,B⟩;simp[l,i,B,h.hp]
structure aas(w:eK):Prop where
 c:w.jG.count.length<=1000
 ev:w.dH.length<=1000000
 l:w.jG.fx.dV.length<=1000
 t:w.jG.fx.dB.length<=1000
 d:w.jG.fx.done.length<=1000
 f:w.jG.dT.length<=1000
 r:∀l∈w.jG.fx.dV,l.d8.length<=1000
 sm:qn 1000 w.jG
 wb:jK w.ez=true
 es:IV w.dH
def DE:mU Tryz.prog cx 40 (λd:eK=>[d.t]) (λd=>aas d/\mQ d.ez d.jG=true/\d.dH.length<=16) (λ_=>D1):=by
 refine iZ (tb:=⟨pt [(67,uN),(68,tT),(69,By.jb),(70,xP.jb),(71,z9.jb),(66,kY),(72,yU.jb)],ht []⟩) ei eg (iL 324518553667945246868126660821503 [] Tryz.func40) (λd=>1000005) (λa b g=>by simp at g;exact eK.inj g) dp (by simp[Tryz.f40]) ?_;rintro d ⟨i,O,b6⟩ k M;simp at M;have P:=O;unfold mQ at P;simp only[aB,aO]at P;obtain⟨⟨⟨bl,_⟩,bT⟩,bk⟩:=P;have H:=bl;unfold ml at H;simp only[aB,aO]at H;obtain⟨b7,b8,b9,ca,cb,ce⟩:=qB i.wb;have bn:∀n∈d.ez.fV,iP n.ke d.jG.fx.dV.length=true:=λn a8=>by
  rw[H.1.1.2];exact List.all_eq_true.1 H.1.1.1 n a8
 have Y:d.ez.fV.length<=1099511627776:=dj;have al:jK d.ez=true:=i.wb;obtain⟨_,⟨bC,rfl⟩,W⟩:=By.use d ⟨by have:=i.c;omega,i.ev⟩;obtain⟨_,⟨aA,rfl,a7⟩,X⟩:=xP.use d ⟨by have:=i.t;omega,dj⟩;cases aA with
 |false=>simp[Tryz.f40,M,ym,Fq,al,O,W,X,Y]
 |true=>
 obtain⟨_,⟨bH,rfl⟩,aE⟩:=z9.use d ⟨by have:=i.l;omega,by have:=i.t;omega,λl s=>by have:=i.r l s;omega,dj,a7 rfl,bn⟩;simp[Tryz.f40,M,ym,Fq,al,O,W,X,aE,Y];refine dU (λu=> ?_) (λu=> ?_)
 ·simp
 clear u;simp;refine fc d.jG.dT.length (by have:=i.f;omega) (λe k g=>gu 1 g/\g.get 0=some (dy 15 0 [d.t])/\dz k 1 (.ptr 0 0 0 0)/\dz k 3 (dw e)) ?_ ?_ (by have:=i.f;omega) ⟨⟨dp,dp,dp⟩,dp⟩
 ·rintro e k g B N ⟨o,v,j,E⟩;have bi:e<d.jG.fx.done.length:=dj;simp[v,j,E,B,bi];refine dU (λu=> ?_) (λu=> ?_)
  ·simp[o.hp]
  ·simp[v,j,E,N,o]
 rintro k g ⟨o,v,j,E⟩;have bu:=o.ne (b:=0) dj;simp[v,j,E,o.low];obtain⟨J,bN⟩:∃J,g.size=J:=⟨_,rfl⟩;have bS:1<=J:=by have:=o.sz;omega
 refine fc d.dH.length dj (λe k h=>∃I m,qn (1000+e) m/\gu 1 h/\g.size<h.size/\h.get 0=some (dy 15 0 [d.t])/\h.get g.size=some (dy 7 I [m.t])/\dz k 1 (.ptr 0 0 0 0)/\dz k 4 (.ptr g.size 0 0 0)/\dz k 5 (dw e)) ?_ ?_ dj ⟨1,d.jG,i.sm,o.cons _,dp,by simp[v,j,bu]⟩
 ·rintro e k h B N ⟨I,m,S,q,bs,w,D,j,F,y⟩;have an:=q.ne (b:=0) dj;have ap:(g.size=h.size)=False:=dq;have G:=i.es d.dH[e] (aF B);have x:=λ{tb:fq} (ht:tb.p 66=some kY)=>yo ht d.ez m d.dH[e] dj (S.up dj) G.1 G.2;have R:gu 1 ((h.cons (dy 7 1 [d.dH[e].t])).cons (dy 7 0 [T.agg [T.dC [] false,T.int .i64 0,T.dC [] false,T.dC [] false,T.dC [] false,T.dC [] false,T.dC [] false]])):=(q.cons _).cons _;have C:=md R.hp (show h.size+1<_ by simp);cases s:pj d.ez m d.dH[e]with
  |false=>
   rw[kR s]at x;simp[w,D,j,F,y,B,an,ap,q.low,x,q.hp]
  |true=>
   have Z:jw d.ez m d.dH[e]=(jO d.ez m d.dH[e],true):=by unfold jw;rw[aq s]
   have bB:qn (1000+(e+1)) (jO d.ez m d.dH[e]):=by have:=S.step d.ez d.dH[e];rw[Z]at this;exact this
   rw[Z]at x;have ae:iP d.dH[e].dN d.jG.count.length=true:=by
    unfold pj at s;simp only[aB]at s;rw[bk];exact s.1.1.1.1.1.1.1.1.2
   obtain⟨_,⟨r1,rfl⟩,K⟩:=yU.use (d,d.dH[e].dN,d.dH[e].mf) ⟨dt,ae,G.1⟩;obtain⟨_,⟨r2,rfl⟩,L⟩:=yU.use (d,d.dH[e].dN,d.dH[e].uz) ⟨dt,ae,G.2⟩;simp only at K L;simp[w,D,j,F,y,B,an,ap,q.low,x,K,L,C];generalize A:dQ _ (h.size+1) _=z;have Q:gu 1 z:=by rw[<-A];exact R.put _ _
   have cp:z.size=h.size+1+1:=by rw[<-A];simp
   have U:∀n,n≠h.size+1->n≠h.size->z.get n=h.get n:=λn av bz=>by rw[<-A,C,ao av];simp[av,bz]
   have aN:=(U 0 dj dj).trans w;have aX:=(U g.size dj dj).trans D;have a6:z.get (h.size+1)=some (dy 7 1 [(jO d.ez m d.dH[e]).t]):=by rw[<-A,C,aq rfl]
   clear A C R x K L;refine dU (λu=> ?_) (λu=> ?_)
   ·simp[Q.hp]
   ·simp[aX,a6,j,F,y,N];have V:=md Q.hp (show g.size<z.size by omega);exact⟨I+1,_,bB,Q.put _ _,dj,(V _ 0).trans ((ao dj).trans aN),(V _ g.size).trans (aq rfl)⟩
 ·rintro k h ⟨I,m,S,q,bs,w,D,j,F,y⟩;simp[w,j,y,q.hp]
end
noncomputable section
open Go Go.TI
attribute [-simp] List.map_take List.map_drop List.map_append fj eG dY Bool.not_or Bool.not_and
attribute [simp] fh eJ
attribute [-simp] size_cons
def FG.fits{a:dW}(h:FG a):mQ iY a=true:=by
 obtain⟨b,c,d,e,f,g⟩:=h.n;unfold mQ ml;rw[b,c,d,e,f,g];decide
def FG.sm{d:dW}(b:FG d):qn 1000 d:=by
 obtain⟨g,h,i,j,k,l⟩:=b.n;refine⟨dj,λa hl=>by have:=(b.r a hl).1;omega,λa hl=> ?_,λe f=>by have:=b.c e f;omega⟩;have:=(b.r a hl).1
 match hr:a.d8 with
 | []=>exact List.Pairwise.nil
 | [x]=>exact List.pairwise_singleton _ _
 |x::o::m=>rw[hr]at this;simp at this
def FG.ask{c:dW}(b:FG c){a:List dX}(hl:a.length<=16)(d:IV a)(e:Int):aas ⟨iY,e,c,a⟩:=by
 obtain⟨f,g,h,i,j,k⟩:=b.n;exact⟨dt,dt,dt,dt,dt,dt,λa hl=>by have:=(b.r a hl).1;omega,b.sm,H4,d⟩
def FG.win{d:dW}(c:FG d){b:List dX}(hl:b.length<=16)(e:IV b)(hr:runs iY d b=true)(f:Int):kH ⟨iY,f,d,b⟩:=
 ⟨⟨hl,(by decide:iY.dB.length<=4),hr,c.sm.a⟩,H4,c.sm,e,λb hl=>(c.r b hl).2⟩
def TO(b:Int):kH ⟨iY,b,jA iY,[]⟩:=
 ⟨⟨dp,(by decide:iY.dB.length<=4),rfl,rF _⟩,H4,(tO iY du).up dj,λc a=>by simp at a,uH 4 iY⟩
abbrev wT(c:Int)(a:dW)(b:T):T:= .agg [sl (iY.cells.map fZ.t),sl (iY.dV.map ij.t),sl (iY.fV.map iB.t),sl (iY.dT.map T.str),sl (iY.dB.map T.str),sl (iY.ik.map il.t),dw c,sl (a.fx.dV.map dS.t),dw a.fx.tx,sl (a.fx.done.map T.bool),sl (a.fx.dB.map dD.t),sl (a.cells.map (T.int .i64)),sl (a.dT.map (T.int .i64)),sl (a.count.map (T.int .i64)),b]
structure To(L:List Int)(s:dW)(n:Int)(e:T)(y:H):Prop where
 g0:y.get 0=some (dy 15 0 [.agg [dx,dx,dx,dx,dx,dx,dw 0,dx,dw 0,dx,dx,dx,dx,dx,dx]])
 g2:∃ver,y.get 2=some (dy 15 ver [wT n s e])
 tp:uD 0 L 1 y
 ok:gu 3 y
def To.tape{b:List Int}{g:dW}{f:Int}{e:T}{h d:H}(c:To b g f e h)(j:uD 0 b 1 d)(a:Sm 1 h d):To b g f e d:=by
 obtain⟨k,i⟩:=c.g2;exact⟨(a.get 0 dj).trans c.g0,⟨k,(a.get 2 dj).trans i⟩,j,a.ok.hp,a.ok.low,by rw[a.size];exact c.ok.sz⟩
def To.put{i:List Int}{d:dW}{n:Int}{k:T}{j:H}(a:To i d n k j)(h:Nat)(g:Int)(f:T):To i d g f (dQ j 2 (dy 15 h [wT g d f])):=by
 have e:=md (b:=2) a.ok.hp (by have:=a.ok.sz;omega) (dy 15 h [wT g d f]);exact⟨(e 0).trans ((ao dj).trans a.g0),⟨h,(e 2).trans (aq rfl)⟩,a.tp.eq ((e 1).trans (ao dj)),a.ok.put _ _⟩
def RZ(b:T):Prop:=∃a:eK,b=a.t/\kH a
def EB:mU Tryz.prog cx 18 (λr:List Int×Nat=>[sl (r.1.map (T.int .u8)),dw r.2]) (λr=>okB r.1/\r.2<=16) (λ_=>RZ):=by
 refine iZ (tb:=⟨pt [(37,Er),(41,nT),(40,DE.jb)],ht [(38,jp IBg SO Ih),(39,jp IPl SC M4)]⟩) ei eg (iL 1125900913478003 [] Tryz.func18) (λ_=>10) (λr b y=>by simp at y;exact aP (jt (λ_ _ y=>by simpa using y) y.1) (by have:=y.2;omega)) dp (by simp[Tryz.f18]) ?_;rintro⟨D,B⟩ ⟨H,S⟩ e P;simp only at H S;simp at P;obtain⟨q,h⟩:=P;simp[Tryz.f18,q];refine lh (λe k=>(∃i:List Int,okB i/\i.length<=400/\dz e 0 (sl (i.map (T.int .u8))))/\k=hE.cons (dy 15 0 [.agg [dx,dx,dx,dx,dx,dx,dw 0,dx,dw 0,dx,dx,dx,dx,dx,dx]])/\dz e 1 (dw B)/\dz e 4 (.ptr 0 0 0 0)) (λA=> ?_) (λA=> ?_) ?_
 ·simp at A;simp[q,h,show 400<=D.length by omega];refine⟨D.take 400,⟨dq,λx aE=>H.2 x (bw aE)⟩,dq,rfl⟩
 ·simp at A;simp[q,h];exact⟨D,H,dj,rfl⟩
 rintro e _ ⟨⟨i,O,an,q⟩,rfl,h,l⟩;simp[q,Kk];generalize u:((hE.cons _).cons _).cons _=w;have bu:w.size=3:=by rw[<-u];rfl
 have a7:gu 0 w:=by rw[<-u];exact⟨dp,by simp[size_cons],dp⟩
 have a8:w.get 0=some (dy 15 0 [.agg [dx,dx,dx,dx,dx,dx,dw 0,dx,dw 0,dx,dx,dx,dx,dx,dx]]):=by rw[<-u];simp[size_cons]
 have bi:w.get 1=some (dy 2 0 [.agg [sl (i.map (T.int .u8)),dw 0]]):=by rw[<-u];simp[size_cons]
 have bk:w.get 2=some (dy 15 1 [.agg [sl (iY.cells.map fZ.t),sl (iY.dV.map ij.t),sl (iY.fV.map iB.t),sl (iY.dT.map T.str),sl (iY.dB.map T.str),sl (iY.ik.map il.t),dw 0,dx,dw 0,dx,dx,dx,dx,dx,dx]]):=by rw[<-u];simp[size_cons]
 clear u;refine gJ ab8 dp ⟨i,1⟩ ⟨rfl,⟨0,0,bi,dp⟩,a7,O⟩ ?_;rintro _ k ⟨g,rfl,j,t1,o⟩;simp only at t1 o;have bn:=(o.get 2 dj).trans bk;have bl:=(o.get 0 dj).trans a8;have cb:k.size=3:=by rw[o.size,bu]
 have al:=λd=>(md (b:=2) o.ok.hp dj d 2).trans (aq rfl);simp[bn,al];have C:To i g 0 dx (dQ k 2 (dy 15 2 [wT 0 g dx])):=by
  have v:=md (b:=2) o.ok.hp dj (dy 15 2 [wT 0 g dx]);exact⟨(v 0).trans ((ao dj).trans bl),⟨2,(v 2).trans (aq rfl)⟩,t1.eq ((v 1).trans (ao dj)),gu.put ⟨o.ok.hp,o.ok.low,dj⟩ _ _⟩
 generalize dQ k 2 _=Y at*
 refine fc 4 dj (λm e k=>(∃f:Int,To i g f dx k/\0<=f/\f<=4*m)/\dz e 1 (dw B)/\dz e 4 (.ptr 0 0 0 0)/\dz e 5 (.ptr 1 0 0 0)/\dz e 6 (.ptr 2 0 0 0)/\dz e 26 (sl (g.count.map (T.int .i64)))/\dz e 27 (dw 4)/\dz e 28 (dw m)) ?_ ?_ dj ⟨⟨0,C,dj,dj⟩,by simp[h,l,j.n.2.2.2.2.2]⟩
 ·clear C q h l;rintro m e k bH ap ⟨⟨f,a,aN,aX⟩,h,l,G,z,N,E,F⟩;have av:(m:Int)<4:=dj;have R:m<g.count.length:=by have:=j.n.2.2.2.2.2;omega
  obtain⟨K,s⟩:=a.g2;have bC:=j.c g.count[m] (aF R);have W:binop .add (dw f) (dw g.count[m])=some (dw (f+g.count[m])):=yr rfl dj dj;simp[h,l,G,z,N,E,F,av,R,s,W,ap];exact⟨_,a.put _ _ _,dj,dj⟩
 clear C q h l;rintro e k ⟨⟨f,a,aN,aX⟩,h,l,G,z,N,E,F⟩;obtain⟨K,s⟩:=a.g2;have a6:min (B:Int) 16=B:=dj;simp[h,G,z,E,F,s,a6];obtain⟨bS,bT,b6,b7,b8,b9⟩:=j.n;refine gJ ab5 dp ⟨i,1,g,iY,B,true⟩ ⟨rfl,a.tp,⟨a.ok.hp,a.ok.low,aw _⟩,O,an,S,(by decide:iY.dB.length=4),(by decide:iY.cells.length=5),(by decide:iY.fV.length<=1000),j.fits,j.sm,dt⟩ ?_;rintro _ ca ⟨I,rfl,hl,Q,hr,t2,V⟩;simp only at hl hr t2 V;replace a:=a.tape t2 V;clear s;obtain⟨K,s⟩:=a.g2;have bz:=a.put (K+1) f (sl (I.map dX.t));have M:=λd=>(md (b:=2) a.ok.hp (by have:=a.ok.sz;omega) d 2).trans (aq rfl);have aA:kH ⟨iY,f,g,I⟩:=j.win dj Q hr f;obtain⟨_,⟨bB,rfl⟩,ae⟩:=DE.use ⟨iY,f,g,I⟩ ⟨j.ask dj Q f,j.fits,dt⟩;simp[z,s,M,ae];have v:=λd X=>md (b:=2) a.ok.hp (by have:=a.ok.sz;omega) d X;have L:=λd=>(v d 0).trans ((ao dj).trans a.g0);have In:=λd=>a.ok.put 2 d;have bs:=λd=>(In d).sz;have U:=λd J=>(md (b:=0) (In d).hp (by have:=bs d;omega) J 0).trans (aq rfl);have bN:=λd J=>((In d).put 0 J).hp;refine dU (λA=> ?_) (λA=> ?_)
 ·have Z:=λ{tb:fq} (ht:tb.p 41=some nT)=>Ck ht iY du du du du;simp[l,Kk,Z,L,U];exact⟨⟨⟨iY,0,jA iY,[]⟩,rfl,TO 0⟩,a.ok.hp⟩
 ·simp[l,z,M,L,U];exact⟨⟨_,rfl,aA⟩,a.ok.hp⟩
end
noncomputable section
open Go Go.TI
attribute [-simp] List.map_take List.map_drop List.map_append fj eG dY Bool.not_or Bool.not_and
attribute [simp] fh eJ
def tQ:f7:=⟨Bool,λa=>[.bool a],λ_=>True,λa=> dw (if a then 1 else 0),λc a b=>by simp at b;rw[b]⟩
def Np:tQ.Ok Tryz.prog cx 250:=by
 refine gH (tb:=⟨pt [],ht []⟩) ei eg (iL 13 [] Tryz.func250) (λ_=>5) (by simp[tQ]) (by simp[tQ,Tryz.f250]) ?_;rintro b _ c a;cases b<;>(simp[tQ]at a|-;simp[Tryz.f250,a])
def Km{b:fq}(ht:b.p 250=some tQ)(a:Bool):rl Tryz.prog cx b 250 [.bool a]=some (dw (if a then 1 else 0)):=gF ht Np a trivial
def UE(c:T):Prop:=∃(b:Int) (a:Bool),c= .tuple [dw b,.bool a]
def EL(b:Int)(a:Bool):UE (.tuple [dw b,.bool a]):=⟨b,a,rfl⟩
def Yo{b:ak}{c a:Int}(e:¬a=0):binop .quo (.int b c) (.int b a)=some (.int b (b.wrap (c.tdiv a))):=by
 have d:P5 a 0=false:=by rw[xf];simp[e]
 unfold binop;simp[wc,d]
def acr{a:ak}{b:Int}:unop .neg (.int a b)=some (.int a (a.wrap (0-b))):=by
 show o8 a (0-b)=_;simp
def Gf:mU Tryz.prog cx 233 (λa:Int×Int=>[dw a.1,dw a.2]) (λ_=>True) (λ_=>UE):=by
 refine iZ (tb:=⟨pt [(250,tQ)],ht []⟩) ei eg (iL 2291 [] Tryz.func233) (λ_=>5) (λa e b=>by simp at b;exact aP b.1 b.2) dp (by simp[Tryz.f233]) ?_;rintro⟨f,a⟩ _ g c;simp at c;simp[Tryz.f233,c]
 repeat' (refine dU (λd=> ?_) (λd=> ?_)<;>simp[d,c,Km,EL,acr])
def DR:mU Tryz.prog cx 235 (λa:Int×Int×Int=>[dw a.1,dw a.2.1,dw a.2.2]) (λ_=>True) (λ_=>UE):=by
 refine iZ (tb:=⟨pt [(250,tQ)],ht []⟩) ei eg (iL 9690595855641090246329287 [] Tryz.func235) (λ_=>5) (λa e b=>by simp at b;exact aP b.1 (aP b.2.1 b.2.2)) dp (by simp[Tryz.f235]) ?_;rintro⟨g,a,e⟩ _ h c;simp at c;simp[Tryz.f235,c]
 repeat' (refine dU (λd=> ?_) (λd=> ?_)<;>simp[d,c,Km,EL,nD,tN,Y2])
 all_goals (have f:¬e=0:=by simpa using d)
 all_goals simp [Yo f,CJ f,EL]
def wY:mU Tryz.prog cx 234 (λa:Int=>[dw a]) (λ_=>True) (λ_=>D0):=by
 refine iZ (tb:=⟨pt [],ht []⟩) ei eg (iL 261 [] Tryz.func234) (λ_=>5) (λa e d=>by simpa using d) dp (by simp[Tryz.f234]) ?_;rintro a _ f b;simp at b;simp[Tryz.f234,b]
 repeat' (refine dU (λc=> ?_) (λc=> ?_)<;>simp[c,b])
end
end Go.Proofs.YtmaeadedikngoaaGreatDoor
