/- Texts X11 to W05. -/
import Derived.Test.YtmaeadedikngoaaGreatDoorA24
import Derived.Test.YtmaeadedikngoaaGreatDoorA26
set_option linter.all false
set_option maxRecDepth 100000
set_option maxHeartbeats 8000000
namespace Go.Proofs.YtmaeadedikngoaaGreatDoor
noncomputable section
open Go Go.TI
attribute [-simp] List.map_take List.map_drop List.map_append fw eQ dZ Bool.not_or Bool.not_and
attribute [simp] fq eY
attribute [-simp] size_cons
structure IBg where
 (L:List Int) (b:Nat)
def S8(a:IBg)(d:List T)(c:H):Prop:=d=[.ptr a.b 0 0 0,jc.t]/\uJ 0 a.L a.b c/\gF 0 c/\okB a.L
structure FE(s:d8):Prop where
 n:s.fF.dY.length=3/\s.fF.done.length=1/\s.fF.dE.length=4/\s.cells.length=5/\s.dX.length=1/\s.count.length=4
 c:∀c∈s.count,0<=c/\c<=4
 r:∀l∈s.fF.dY,l.eg.length<=1/\∀x∈l.eg,0<=x/\x<4
def Io(a:IBg)(g:List T)(e:H)(f:T)(c:H):Prop:=∃d:d8,f=d.t/\FE d/\uJ 0 a.L a.b c/\Sm a.b e c
def PF{e:Type}{f:e->T}{R:T->T->Prop}{P:e->Prop}:∀{c:List T},(∀b∈c,∃a,R b (f a)/\P a)->∃d:List e,iv R c (d.map f)/\∀a∈d,P a:=by
 intro c;induction c with
 |nil=>intro _;exact⟨[],.nil,dt⟩
 |cons b c k=>
  intro g;obtain⟨a,hr,j⟩:=g b dt;obtain⟨d,hl,h⟩:=k λb i=>g b (by simp[i]);exact⟨a::d,.cons hr hl,by simpa[j]using h⟩
def yI.fin{w:List Int}{p:Nat}{g n:H}{bn:Nat}{d:Aw}(b:yI w p g bn d n)(a8:gF 0 g)(G:p<g.size)(k:iN)(ae:List T):xF g (.agg [d.c 0,dy d.tx,d.c 2,d.c 3,d.c 4,d.c 5,d.c 6]) (dT n (g.size+1) k) (Io ⟨w,p⟩ ae g):=by
 have D:=λe=>dI b.rb k e;have l:∀(f u:Nat),d.F[f]? =some (d.c f,some (u,d.E f))->Gr (dT n (g.size+1) k) (d.c f) u (d.E f)/\∀e,dO (d.c f)=some e->g.size<=e:=λf u I=>by
  have C:=λe (o:dO (d.c f)=some e)=>b.fp e (b.s.AW (ax I) o);exact⟨(b.s.gr f I).mono λe o=>by rw[D,ao (by have:=C e o;omega)],λe o=>by have:=C e o;omega⟩
 obtain⟨Y,a0,p0⟩:=PF (f:=dV.t) (R:=FT (dT n (g.size+1) k) (λe=>g.size<=e) 3) (P:=λm=>m.eg.length<=1/\∀a∈m.eg,0<=a/\a<4) λi j=>by
  obtain⟨Q,bC,rfl,aX⟩:=b.pr 0 i j;rcases aX with rfl|⟨a,v,rfl,r,bs,bu,bz,bB⟩
  ·exact⟨⟨Q,[]⟩,.inr (.inr ⟨_,_,rfl,.cons (fW ..) (.cons (iU ..) .nil),rfl⟩),dt⟩
  ·have a6:a≠g.size+1:=λh=>by rw[h,b.rb]at r;simp[mS]at r
   have aN:Gr (dT n (g.size+1) k) (.arr a 0 0 1 false) 1 ([v].map (T.int .i64)):= .inr ⟨a,0,0,true,[dy v],rfl,by rw[D,ao a6];exact r,rfl⟩;exact⟨⟨Q,[v]⟩,.inr (.inr ⟨_,_,rfl,.cons (fW ..) (.cons (aN.ft (d:=1) (λe h=>by simp at h;omega) (.cons (fW ..) .nil)) .nil),rfl⟩),du⟩
 obtain⟨U,x,_⟩:=ui (f:=T.bool) (P:=λ_=>True) λi j=>by
  obtain⟨a,h⟩:=b.pr 2 i j;exact⟨a,h,trivial⟩
 obtain⟨Z,y,_⟩:=ui (f:=dG.t) (P:=λ_=>True) λi j=>by
  obtain⟨a,h⟩:=b.pr 3 i j;exact⟨a,h,trivial⟩
 obtain⟨S,z,_⟩:=ui (f:=T.int .i64) (P:=λ_=>True) λi j=>by
  obtain⟨a,h,_⟩:=b.pr 4 i j;exact⟨a,h,trivial⟩
 obtain⟨W,A,_⟩:=ui (f:=T.int .i64) (P:=λ_=>True) λi j=>by
  obtain⟨a,h,_⟩:=b.pr 5 i j;exact⟨a,h,trivial⟩
 obtain⟨X,B,p6⟩:=ui (f:=T.int .i64) (P:=λO=>0<=O/\O<=4) λi j=>by
  obtain⟨a,h,bi⟩:=b.pr 6 i j;exact⟨a,h,bi rfl⟩
 have l0:=b.ln 0;have l2:=b.ln 2;have l3:=b.ln 3;have l4:=b.ln 4;have l5:=b.ln 5;have l6:=b.ln 6;have lk:=a0.length;rw[x]at l2;rw[y]at l3;rw[z]at l4;rw[A]at l5;rw[B]at l6;simp[WW]at l0 l2 l3 l4 l5 l6 lk;obtain⟨a7,al⟩:=l 0 2 rfl;obtain⟨J,an⟩:=l 2 1 rfl;obtain⟨K,ap⟩:=l 3 3 rfl;obtain⟨L,av⟩:=l 4 1 rfl;obtain⟨M,aA⟩:=l 5 1 rfl;obtain⟨N,aE⟩:=l 6 1 rfl;rw[x]at J;rw[y]at K;rw[z]at L;rw[A]at M;rw[B]at N;have q:∀m:List Int,iv (FT (dT n (g.size+1) k) (λe=>g.size<=e) 3) (m.map (T.int .i64)) (m.map (T.int .i64)):=λm=>wn λa=>fW ..;exact(b.tw.put b.rb dt (by simpa using G) k).cut a8 G (FT.top (V:=λe=>g.size<=e) (d:=4) dq (λ_ h=>h) (.cons (a7.ft al a0) (.cons (fW ..) (.cons (J.ft an (wn λa=>KK ..)) (.cons (K.ft ap (wn λa=> .inr (.inr ⟨a.cs,a.cs,rfl,.cons (fW ..) (.cons (fW ..) (.cons (KK ..) .nil)),rfl⟩))) (.cons (L.ft av (q _)) (.cons (M.ft aA (q _)) (.cons (N.ft aE (q _)) .nil)))))))) λbk bl=>
  ⟨⟨⟨Y,d.tx,U,Z⟩,S,W,X⟩,rfl,⟨⟨dw,l2,l3,l4,l5,l6⟩,p6,p0⟩,bl,bk⟩
def ach:(js IBg S8 Io).Ok Tryz.prog cx 38:=by
 refine p7 (tb:=⟨pt [],ht [(63,kh),(41,js dU Iq Ii),(64,js R3 po nK)]⟩) ew ej (iQ 39027670543808336620727472465805308762228731 [(10,[(1,4)]),(11,[(2,5)]),(27,[(1,3)]),(31,[(1,4)])] Tryz.func38) (λ_ _=>10) (λy a A eB=>by obtain⟨rfl,_⟩:=eB;simp[Tryz.f38]) ?_;rintro⟨V,r⟩ _ A ⟨rfl,eO,e9,bi⟩ h e6;simp only at eO bi;simp at e6;obtain⟨i,er⟩:=e6;have D:=eO.tp.lt;have hF:(r=A.size)=False:=du;have hG:(r=A.size+1)=False:=du;have bn:=((r9.refl e9.hr (eO.eq (f9 A r))).cons (dA 6 0 [jc.t])).cons mS;simp[Tryz.f38,er];generalize c4:((TI.hr A).cons _).cons _=X;replace bn:r9 0 V r (TI.hr A) X:=by rw[<-c4];exact bn
 have hM:X.size=A.size+2:=by rw[<-c4];simp[size_cons]
 have fm:X.get (A.size+1)=some mS:=by rw[<-c4];simp[mS,size_cons]
 clear c4;refine gY YQ dt jc ⟨rfl,bn.w.ok,dx,dx,dx,dx⟩ ?_;rintro _ ap ⟨eR,eS,eU,eV,eW,eX,rfl,k,hI,bS,eh,c9,b8⟩;have hL:=c9.sz;have eE:=c9.low;simp[eE,(bS.gr 6 rfl).len (cx:=cx)];have gV:∀C,Fp ap k C->C≠r:=λC U O=>by have:=eh C U;omega
 generalize bN:ap.cons _=cb;have eF:gF 0 cb:=by rw[<-bN];exact gF.cons ⟨c9.hp,eE,aw _⟩ _
 have aA:∀C,cb.get C=if C=ap.size then some (dA 7 1 [.agg [eR,dy (-1),eS,eU,eV,eW,eX]])else ap.get C:=λC=>by rw[<-bN,dP]
 have fo:cb.size=ap.size+1:=by rw[<-bN,size_cons]
 clear bN;have eM:=λC (U:Fp ap k C)=>bS.fp C U;obtain⟨ds,dk⟩:∃ds,yI V r A ap.size ds cb:=by
  refine⟨⟨1,-1,λp=>if p=0 then eR else if p=2 then eS else if p=3 then eU else if p=4 then eV else if p=5 then eW else eX,λp=>if p=0 then(List.replicate 3 ()).map xM else if p=2 then [false].map T.bool else if p=3 then(yM 4).map dG.t else if p=4 then [0,1,0,0,0].map (T.int .i64)else if p=6 then(List.replicate 4 0).map (T.int .i64)else(List.replicate 1 0).map (T.int .i64)⟩,?_,⟨⟨eF,du,λC U c6=> ?_,?_⟩,?_⟩,?_,?_,λp=> ?_,λp e J=> ?_⟩
  ·exact bS.copy eF (by rw[aA,aq rfl];rfl) λC U=>by rw[aA,ao (by have:=eM C U;omega)]
  ·have U:C<A.size:=by simpa using U
   exact(aA C).trans ((ao dq).trans ((b8 C dq).trans (bn.w.get C (by simpa using U) c6)))
  ·exact bn.w.tp.eq ((aA r).trans ((ao dq).trans (b8 r dq)))
  ·exact bn.g.eq ((aA r).trans ((ao dq).trans (b8 r dq)))
  ·intro C U;rcases(bS.copy eF (by rw[aA,aq rfl];rfl) λC U=>by rw[aA,ao (by have:=eM C U;omega)]:mW cb ap.size 7 1 _)with⟨_,gm,_,_⟩;rcases U with rfl|⟨x,eD,v,gP,O⟩
   ·omega
   ·rw[gm]at eD;simp only[ar]at eD;subst eD;have:=eh C (.inr ⟨_,bS.get,v,gP,O⟩);omega
  ·exact(aA _).trans ((ao dq).trans ((b8 _ dq).trans fm))
  ·unfold WW;by_cases b9:p=0
   ·subst b9;rfl
   by_cases a6:p=2
   ·subst a6;rfl
   by_cases ca:p=3
   ·subst ca;rfl
   by_cases fb:p=4
   ·subst fb;rfl
   by_cases fe:p=6
   ·subst fe;rfl
   simp[b9,a6,ca,fb,fe]
  ·unfold RQ;by_cases b9:p=0
   ·subst b9;simp at J;subst J;exact⟨_,_,rfl,.inl rfl⟩
   by_cases a6:p=2
   ·subst a6;simp at J;subst J;exact⟨_,rfl⟩
   by_cases ca:p=3
   ·subst ca;simp only[ao (show¬(3:Nat)=0 by decide),ao (show¬(3:Nat)=2 by decide),aq]at J|-;obtain⟨t,_,rfl⟩:=List.mem_map.1 J;exact⟨t,rfl⟩
   simp only[ao b9,ao a6,ao ca]at J|-;have:∃l:List Int,e∈l.map (T.int .i64)/\(p=6->l=List.replicate 4 0):=by
    split at J
    ·exact⟨_,J,λO=>by omega⟩
    split at J
    ·exact⟨_,J,λ_=>rfl⟩
    ·exact⟨_,J,λO=>by omega⟩
   obtain⟨l,hl,c1⟩:=this;obtain⟨Q,c6,rfl⟩:=List.mem_map.1 hl;refine⟨Q,rfl,λO=> ?_⟩;rw[c1 O]at c6;simp at c6;omega
 clear bS eh c9 b8 eE gV aA fo eM bn fm;have fo:A.size+2<=ap.size:=dq;generalize ap.size=G at*
 refine fh 4 dq (λy h B=>(∃d,yI V r A G d B)/\dB h 0 (.ptr r 0 0 0)/\dB h 4 (.ptr (A.size+1) 0 0 0)/\dB h 5 (.ptr G 0 0 0)/\dB h 15 (dy 4)/\dB h 16 (dy y)) ?_ ?_ dq ⟨⟨ds,dk⟩,by simp[i,show(jc.dE.length:Int)=4 from rfl]⟩
 ·clear dk i er;rintro y h B bu aX ⟨⟨d,b⟩,i,q,n,Z,ae⟩;have gz:(y:Int)<4:=dq;obtain⟨p,bT,I,e8,a7,R⟩:=(b.cons (dA 1 0 [dy 2,dy 2,dy 2,dy 2,dy 0,dy 1,dy 3,dy 4,dy 5])).tw.next (tb:=⟨pt [],ht [(63,kh),(41,js dU Iq Ii),(64,js R3 po nK)]⟩) dt bi 9 dq dq;have hN:=b.Mm;have cp:=(b.cons _).tape R (a7.g.le (aw _)) D;have e2:=(R.get B.size dq).trans (by rw[dP,aq rfl]);obtain⟨fi,e1⟩:∃fi:Int,∀e8,([dy 2,dy 2,dy 2,dy 2,dy 0,dy 1,dy 3,dy 4,dy 5]:List T)[p]'e8= dy fi:=by
   rcases(by omega:p=0\/p=1\/p=2\/p=3\/p=4\/p=5\/p=6\/p=7\/p=8)with rfl|rfl|rfl|rfl|rfl|rfl|rfl|rfl|rfl<;>exact⟨_,λ_=>rfl⟩
  have gI:p<9:=dq;simp[i,Z,ae,gz,I,e2,e1,gI];refine kS (λh hn=>bT=hn/\(∃eN,dB h 7 (dy eN))/\dB h 0 (.ptr r 0 0 0)/\dB h 4 (.ptr (A.size+1) 0 0 0)/\dB h 5 (.ptr G 0 0 0)/\dB h 6 (dy y)/\dB h 15 (dy 4)/\dB h 16 (dy y)) (λN=>by simp[i,q,n,Z,ae]) (λN=>by simp[i,q,n,Z,ae]) ?_;clear I e2 e1 a7 R i q n Z ae;rintro h _ ⟨rfl,⟨eN,gn⟩,i,q,n,c1,Z,ae⟩;have k:=cp.s.get;simp[Aw.F]at k;obtain⟨bB,cv,dd,cy,de,_,av,al,M,an,t,rfl⟩:=cp.ld 3 rfl (te:=zQ) rfl (j:=y) bu;have bl:=cp.st D 3 rfl av M y (dG.t ⟨eN,0,false⟩) rfl ⟨_,rfl⟩;simp[n,c1,gn,k,al,M,an];clear cp k al M an av;generalize d.MN 3 _=dv at bl;generalize dT bT _ _=di at*
  refine dW (λN=> ?_) (λN=> ?_)
  ·obtain⟨bk,S,I,eA,bs,bz⟩:=bl.tw.next (tb:=⟨pt [],ht [(63,kh),(41,js dU Iq Ii),(64,js R3 po nK)]⟩) dt bi 3 dq dq;have W:=bl.tape bz (bs.g.le (aw _)) D;have Y:=bl.s.get;have a8:=W.s.get;simp[Aw.F]at Y a8;obtain⟨bB,cv,dd,cy,de,_,av,al,M,an,Q,rfl,_⟩:=W.ld 6 rfl (te:=FF) rfl (j:=y) bu;have fB:binop .add (dy 1) (dy (bk:Int))=some (dy (1+bk)):=yB rfl dq dq;have sv:eJ di S G=true:=ff (a8.trans Y.symm);have L:=W.st D 6 rfl av M y (dy (1+bk)) rfl ⟨_,rfl,λ_=>by omega⟩;generalize gp:dT S bB _=ho at L;generalize dv.MN 6 _=hv at L;obtain⟨gS,hq,fS,hB,fA,hc⟩:=L.tw.next (tb:=⟨pt [],ht [(63,kh),(41,js dU Iq Ii),(64,js R3 po nK)]⟩) dt bi 4 dq dq;have dm:=L.tape hc (fA.g.le (aw _)) D;have eo:=L.s.get;have e3:=dm.s.get;simp[Aw.F]at eo e3;obtain⟨hs,hy,hJ,hA,hK,_,gv,fL,e4,fY,t,rfl⟩:=dm.ld 3 rfl (te:=zQ) rfl (j:=y) bu;have hd:eJ ho hq G=true:=ff (e3.trans eo.symm);have fv:=dm.st D 3 rfl gv e4 y (dG.t ⟨t.iA,t.cond,decide ((gS:Int)=3)⟩) rfl ⟨_,rfl⟩;simp[i,q,n,c1,Z,ae,Y,I,fB,al,M,an,sv,gp,eo,fS,fL,e4,fY,hd,aX];exact⟨_,fv⟩
  ·simp[i,q,n,Z,ae,aX];exact⟨dv,bl⟩
 clear dk i er;rintro h B ⟨⟨d,b⟩,i,q,n,Z,ae⟩;have k:=b.s.get;simp[Aw.F]at k;have l0:=b.ln 0;simp[n,Z,ae,k,(b.s.gr 0 rfl).len (cx:=cx),l0,WW];refine fh 3 dq (λy h B=>(∃d,yI V r A G d B)/\dB h 0 (.ptr r 0 0 0)/\dB h 4 (.ptr (A.size+1) 0 0 0)/\dB h 5 (.ptr G 0 0 0)/\dB h 63 (dy 3)/\dB h 64 (dy y)) ?_ ?_ dq ⟨⟨d,b⟩,by simp[i,q,n]⟩
 ·clear b k l0 i q n Z ae;rintro y h B bu aX ⟨⟨d,b⟩,i,q,n,aE,aN⟩;have gy:(y:Int)<3:=dq;have k:=b.s.get;simp[Aw.F]at k;simp[i,n,aE,aN,gy,k];obtain⟨K,bH,e5⟩:=ui (f:=T.int .i64) (P:=λQ=>0<=Q/\Q<=4) λe J=>by
   obtain⟨Q,eH,a6⟩:=b.pr 6 e J;exact⟨Q,eH,a6 rfl⟩
  have b7:K.length=4:=by rw[<-aH (f:=T.int .i64),<-bH];exact b.ln 6
  have bC:=b.s.gr 6 rfl;rw[bH]at bC;have c7:dO (d.c 6)≠some r:=λO=>by have:=b.fp r (b.s.AW (f:=(d.c 6,some (1,d.E 6))) (by simp[Aw.F]) O);omega
  refine gY JY dt ⟨V,r,0,d.c 0,dy d.tx,d.c 2,d.c 3,d.c 4,d.c 5,d.c 6,K⟩ ⟨rfl,b.tw.g,b.tw.w.ok,bi,dw,bC,c7,dt⟩ ?_;rintro _ bT ⟨u,rfl,fl,eP,t1,R⟩;replace b:=b.tape R t1 D;simp only[b7]at eP;clear bC c7 bH b7 e5 k t1 R;simp;refine dW (λN=> ?_) (λN=> ?_)
  ·simp[i,q,n,aE,aN,aX];exact⟨d,b⟩
  obtain⟨m,rfl⟩:∃m:Nat,u=m:=⟨u.toNat,by simp at N;omega⟩;have gM:m<4:=dq;clear N fl eP;by_cases gw:y=2
  ·subst gw;have e0:binop .add (dy 2) (dy 1)=some (dy 3):=by simpa using aX
   obtain⟨bk,S,I,eA,bs,bz⟩:=b.tw.next (tb:=⟨pt [],ht [(63,kh),(41,js dU Iq Ii),(64,js R3 po nK)]⟩) dt bi 2 dq dq;replace b:=b.tape bz (bs.g.le (aw _)) D;simp[i,I];have dn:=b.cons (dA 1 0 [dy m]);obtain⟨bB,cv,dd,cy,de,_,av,al,M,an,o,eL,rfl,eC⟩:=b.ld 0 rfl (te:=FL) rfl (j:=2) dx;obtain⟨fC,gd,hf,gi,hh,_,e7,ea,cL,ec,ha,hH,rfl,hC⟩:=dn.ld 0 rfl (te:=FL) rfl (j:=2) dx;have k:=b.s.get;have gk:=dn.s.get;simp[Aw.F]at k gk;refine dW (λN=> ?_) (λN=> ?_)
   ·have gZ:¬Fp (S.cons (dA 1 0 [dy m])) G S.size:=λO=>by
     have e:(S.cons (dA 1 0 [dy m])).get G=S.get G:=by rw[dP,ao (by have:=b.s.lt;omega)]
     rw[iJ e]at O;have:=b.s.fp _ O;omega
    have L:=dn.st D 0 rfl e7 cL 2 (.agg [dy ha,.arr S.size 0 0 1 false]) rfl ⟨_,_,rfl,.inr ⟨S.size,m,rfl,by rw[dP,aq rfl],dq,dq,gZ,by have:=b.Mm;omega⟩⟩;have hD:(G=S.size)=False:=by have:=b.s.lt;simp;omega
    simp[i,q,n,aE,aN,k,ea,cL,ec,e0];exact⟨_,L⟩
   ·have L:=b.st D 0 rfl av M 2 (.agg [dy m,eL]) rfl ⟨_,_,rfl,eC⟩;simp[i,q,n,aE,aN,k,al,M,an,e0];exact⟨_,L⟩
  ·obtain⟨bB,cv,dd,cy,de,_,av,al,M,an,o,eL,rfl,eC⟩:=b.ld 0 rfl (te:=FL) rfl (j:=y) bu;obtain⟨fC,gd,hf,gi,hh,_,e7,ea,cL,ec,t,rfl⟩:=b.ld 3 rfl (te:=zQ) rfl (j:=m) gM;have k:=b.s.get;simp[Aw.F]at k;have L:=b.st D 0 rfl av M y (.agg [dy m,eL]) rfl ⟨_,_,rfl,eC⟩;simp[n,show¬(y:Int)=2 by omega,k,ea,cL,ec];refine dW (λN=> ?_) (λN=> ?_)
   ·simp[i,q,n,aE,aN,aX];exact⟨d,b⟩
   ·simp[i,q,n,aE,aN,k,al,M,an,aX];exact⟨_,L⟩
 clear b k l0 i q n Z ae;rintro h B ⟨⟨d,b⟩,i,q,n,aE,aN⟩;have ce:=λ{B:H} {d:Aw} (b:yI V r A G d B)=>b.tw.next (tb:=⟨pt [],ht [(63,kh),(41,js dU Iq Ii),(64,js R3 po nK)]⟩) dt bi;have fs:∀{B:H} {d:Aw},yI V r A G d B->∃K:List Int,po ⟨V,r,0,d.c 0,dy d.tx,d.c 2,d.c 3,d.c 4,d.c 5,d.c 6,K⟩ [.ptr r 0 0 0,.agg [d.c 0,dy d.tx,d.c 2,d.c 3,d.c 4,d.c 5,d.c 6]] B/\K.length=4:=λ{B d} b=>by
  obtain⟨K,bH,e5⟩:=ui (f:=T.int .i64) (P:=λQ=>0<=Q/\Q<=4) λe J=>by
   obtain⟨Q,eH,a6⟩:=b.pr 6 e J;exact⟨Q,eH,a6 rfl⟩
  have b7:K.length=4:=by rw[<-aH (f:=T.int .i64),<-bH];exact b.ln 6
  have bC:=b.s.gr 6 rfl;rw[bH]at bC;have c7:dO (d.c 6)≠some r:=λO=>by have:=b.fp r (b.s.AW (f:=(d.c 6,some (1,d.E 6))) (by simp[Aw.F]) O);omega
  exact⟨K,⟨rfl,b.tw.g,b.tw.w.ok,bi,dw,bC,c7,dt⟩,b7⟩
 obtain⟨gQ,bT,I,gE,a7,R⟩:=ce b 3 dq dq;replace b:=b.tape R (a7.g.le (aw _)) D;simp[i,aE,aN,I];clear I a7 R;refine kS (λh B=>(∃d,yI V r A G d B)/\dB h 0 (.ptr r 0 0 0)/\dB h 4 (.ptr (A.size+1) 0 0 0)/\dB h 5 (.ptr G 0 0 0)) (λN=> ?_) (λN=> ?_) ?_
 ·have k:=b.s.get;simp[Aw.F]at k;obtain⟨K,eB,b7⟩:=fs b;simp[i,n,k];refine gY JY dt _ eB ?_;rintro _ di ⟨u,rfl,fl,eP,t1,R⟩;replace b:=b.tape R t1 D;have k:=b.s.get;simp[Aw.F]at k;have bl:=b.tx D u;simp[i,q,n,k];exact⟨_,bl⟩
 ·simp[i,q,n];exact⟨d,b⟩
 clear b i q n aE aN;rintro h B ⟨⟨d,b⟩,i,q,n⟩;obtain⟨gQ,bT,I,gE,a7,R⟩:=ce b 3 dq dq;replace b:=b.tape R (a7.g.le (aw _)) D;simp[i,I];clear I a7 R;refine kS (λh B=>(∃d,yI V r A G d B)/\dB h 0 (.ptr r 0 0 0)/\dB h 4 (.ptr (A.size+1) 0 0 0)/\dB h 5 (.ptr G 0 0 0)) (λN=> ?_) (λN=> ?_) ?_
 ·have k:=b.s.get;simp[Aw.F]at k;obtain⟨bB,cv,dd,cy,de,_,av,al,M,an,o,rfl⟩:=b.ld 2 rfl (te:=Xz) rfl (j:=0) dx;replace b:=b.st D 2 rfl av M 0 (.bool true) rfl ⟨_,rfl⟩;generalize bN:dT bT bB _=di at b;generalize d.MN 2 _=dv at b;obtain⟨bk,S,I,eA,bs,bz⟩:=ce b 3 dq dq;have W:=b.tape bz (bs.g.le (aw _)) D;have Y:=b.s.get;have a8:=W.s.get;simp[Aw.F]at Y a8;obtain⟨fE,gg,hg,gj,hj,_,ey,eb,b6,ef,Q,rfl,_⟩:=W.ld 5 rfl (te:=FG) rfl (j:=0) dx;have sv:eJ di S G=true:=ff (a8.trans Y.symm);have L:=W.st D 5 rfl ey b6 0 (dy bk) rfl ⟨_,rfl,λO=>by omega⟩;simp[i,q,n,k,al,M,an,bN,Y,I,eb,b6,ef,sv];exact⟨_,L⟩
 ·simp[i,q,n];exact⟨d,b⟩
 clear b i q n;rintro h B ⟨⟨d,b⟩,i,q,n⟩;have k:=b.s.get;simp[Aw.F]at k;have l4:=b.ln 4;simp[n,k,(b.s.gr 4 rfl).len (cx:=cx),l4,WW];refine fh 5 dq (λy h B=>(∃d,yI V r A G d B)/\dB h 0 (.ptr r 0 0 0)/\dB h 4 (.ptr (A.size+1) 0 0 0)/\dB h 5 (.ptr G 0 0 0)/\dB h 142 (dy 5)/\dB h 143 (dy y)) ?_ ?_ dq ⟨⟨d,b⟩,by simp[i,q,n]⟩
 ·clear b k l4 i q n;rintro y h B bu aX ⟨⟨d,b⟩,i,q,n,et,eu⟩;have gB:(y:Int)<5:=dq;obtain⟨bk,S,I,eA,bs,bz⟩:=ce b 3 dq dq;have W:=b.tape bz (bs.g.le (aw _)) D;have Y:=b.s.get;have a8:=W.s.get;simp[Aw.F]at Y a8;obtain⟨fE,gg,hg,gj,hj,_,ey,eb,b6,ef,Q,rfl,_⟩:=W.ld 4 rfl (te:=FG) rfl (j:=y) bu;have sv:eJ B S G=true:=ff (a8.trans Y.symm);have L:=W.st D 4 rfl ey b6 y (dy bk) rfl ⟨_,rfl,λO=>by omega⟩;simp[i,q,n,et,eu,gB,Y,I,eb,b6,ef,sv,aX];exact⟨_,L⟩
 clear b k l4 i q n;rintro h B ⟨⟨d,b⟩,i,q,n,et,eu⟩;have k:=b.s.get;have eI:=b.rb;unfold mS at eI;simp[Aw.F]at k;have hb:=λz=>(dI eI z (A.size+1)).trans (aq rfl);simp[q,n,et,eu,k,eI,hb];exact b.fin e9 D _ _
end
noncomputable section
open Go Go.TI
attribute [-simp] List.map_take List.map_drop List.map_append fw eQ dZ Bool.not_or Bool.not_and
attribute [simp] fq eY
def Js(a:Nat)(d:H)(e:T)(g:List (List Int)):Prop:=∃c,Gr d e 1 c/\dO e≠some a/\iv (λb f=>Gr d b 1 (f.map (T.int .i64))/\dO b≠some a) c g
structure IEv where
 (L:List Int) (b p:Nat) (s:d8) (w:dU) (rv:T) (rs:List (List Int))
def M9(a:IEv)(d:List T)(c:H):Prop:=d=[.ptr a.b 0 0 0,a.s.t,a.w.t,a.rv]/\uJ a.p a.L a.b c/\gF 0 c/\okB a.L/\Js a.b c a.rv a.rs/\a.rs.length=4/\(∀e∈a.rs,e.length<=1000)/\a.s.cells.length=5/\1<=a.s.dX.length/\a.s.fF.dE.length<=98/\a.w.cells.length=5
def Ek(a:IEv)(g:List T)(e:H)(f:T)(d:H):Prop:=∃c:ed,f=c.t/\c.mn.length<=1000/\c.uF.length<=1000/\uJ (a.p+1) a.L a.b d/\Sm a.b e d
def Vy{a:fy}(ht:a.p 99=some sj):rl Tryz.prog cx a 99 []=some (sl (u5.map (T.int .i64))):=gU ht QR () trivial
def LG{i:Nat}(c:i<43):∃a:Int,u5[i]? =some a/\1<=a/\a<=23:=by
 have b:∀a∈u5,1<=a/\a<=23:=dx;exact⟨u5[i]'c,az _,b _ (aF _)⟩
abbrev LU(f c d g e:Int)(a b:T):T:= .agg [dy f,dy c,dy d,dy g,dy e,a,b]
structure PZ(p:Nat)(L:List Int)(b:Nat)(h:H)(s:d8)(w:dU)(h':H)(x:T):Prop where
 tw:r9 p L b (TI.hr h) h'
 g0:h'.get h.size=some (dA 7 0 [s.t])
 g1:h'.get (h.size+1)=some (dA 6 0 [w.t])
 g2:h'.get (h.size+2)=some (dA 7 0 [LU 0 0 0 0 0 dz dz])
 g3:∃ver,h'.get (h.size+3)=some (dA 7 ver [x])
def PZ.call{m h:Nat}{d:List Int}{a:Nat}{e:H}{i:d8}{j:dU}{g f:H}{k:T}(b:PZ m d a e i j g k)(c:Sm a g f)(n:uJ h d a f)(p:a<e.size):PZ h d a e i j f k:=by
 obtain⟨o,l⟩:=b.g3;exact⟨b.tw.call c n,(c.get _ dq).trans b.g0,(c.get _ dq).trans b.g1,(c.get _ dq).trans b.g2,o,(c.get _ dq).trans l⟩
def PZ.put{k:Nat}{h:List Int}{e:Nat}{d:H}{l:d8}{m:dU}{j:H}{x:T}(a:PZ k h e d l m j x)(o:e<d.size)(f:Nat)(g:T):PZ k h e d l m (dT j (d.size+3) (dA 7 f [g])) g:=by
 obtain⟨p,i⟩:=a.g3;have b:=λc=>dI i (dA 7 f [g]) c;exact⟨a.tw.put i dt (by simpa using o) _,by rw[b,ao dq];exact a.g0,by rw[b,ao dq];exact a.g1,by rw[b,ao dq];exact a.g2,f,by rw[b,aq rfl]⟩
def PZ.rd{g:Nat}{d:List Int}{e:Nat}{a:H}{h:d8}{i:dU}{c:H}{j:T}(f:PZ g d e a h i c j)(b:iN):(dT c (a.size+2) b).get (a.size+2)=some b:=(dI f.g2 b (a.size+2)).trans (aq rfl)
def Ds(a:T):Prop:=a.gJ=true/\a.cells=[a]/\∃b:List Int,b.length<=1000/\∀d c,FT d c 1 a (sl (b.map (T.int .i64)))
def Ds.nil:Ds dz:=⟨rfl,rfl,[],dt,λb a=>iU ..⟩
def Ds.sl{a:List Int}(b:a.length<=1000):Ds (TI.sl (a.map (T.int .i64))):=⟨dt,dt,a,b,λb d=>oz _ _ _ λe c=>by obtain⟨f,_,rfl⟩:=List.mem_map.1 c;simp⟩
def acg:(js IEv M9 Ek).Ok Tryz.prog cx 65:=by
 refine p7 (tb:=⟨pt [(99,sj)],ht [(63,kh),(100,js HN yZ rO),(101,js HL yY rN),(102,js Av uc tk)]⟩) ew ej (iQ 618988909108621684749897583 [(3,[(6,11),(7,11),(5,14),(11,14)])] Tryz.func65) (λ_ _=>5) (λi a b aN=>by obtain⟨rfl,_⟩:=aN;simp[Tryz.f65]) ?_;rintro⟨B,h,v,M,E,ap,eo⟩ _ b ⟨rfl,bH,ef,U,dk,eS,bi,eU,dm,dn,eX⟩ K c9;simp only at bH U dk eS bi eU dm dn eX;simp at c9;obtain⟨C,c6,c7,N⟩:=c9;have p:=bH.tp.lt;have fB:(h=b.size)=False:=du;have fC:(h=b.size+1)=False:=du;have fE:(h=b.size+2)=False:=du;have eu:=(((r9.refl ef.hr (bH.eq (f9 b h))).cons (dA 7 0 [M.t])).cons (dA 6 0 [E.t])).cons (dA 7 0 [.agg [dy 0,dy 0,dy 0,dy 0,dy 0,dz,dz]]);obtain⟨c,eB,cb,fA,ey,y⟩:=eu.next (tb:=⟨pt [(99,sj)],ht [(63,kh),(100,js HN yZ rO),(101,js HL yY rN),(102,js Av uc tk)]⟩) dt U 4 dq dq;have b7:=λ{a7:H} {v:Nat} (E:r9 v B h (TI.hr b) a7)=>E.next (tb:=⟨pt [(99,sj)],ht [(63,kh),(100,js HN yZ rO),(101,js HL yY rN),(102,js Av uc tk)]⟩) dt U;obtain⟨k,eC,ce,fv,eA,X⟩:=b7 ey u5.length dx dx;obtain⟨j,cv,e0,e1⟩:=LG (i:=k) (by have:u5.length=43:=rfl;omega);obtain⟨W,av,cp,de,bT,bz⟩:=b7 eA 6 dq dq;obtain⟨bC,eW⟩:∃x:Int,(c:Int)*6=x:=⟨_,rfl⟩;obtain⟨bB,eV⟩:∃x:Int,bC+W=x:=⟨_,rfl⟩;have ec:binop .mul (dy (c:Int)) (dy 6)=some (dy bC):=by rw[Zb,<-jn,ju dq dq,eW]
 have b9:binop .add (dy bC) (dy (W:Int))=some (dy bB):=yB eV dq dq;have fs:eB.size=b.size+3:=by rw[y.size];rfl
 have b6:av.size=b.size+3:=by rw[bz.size,X.size,fs]
 have er:eJ eB eC (b.size+3)=true:=iV (lm _ dq);have et:eJ eC av (b.size+3)=true:=iV (lm _ (by rw[X.size];omega));have eb:=bT.w.ok.low;rw[b6]at eb;have G:∀r,r<b.size+3->r≠h->av.get r=((((TI.hr b).cons (dA 7 0 [M.t])).cons (dA 6 0 [E.t])).cons (dA 7 0 [LU 0 0 0 0 0 dz dz])).get r:=λr a8 an=>(bz.get r an).trans ((X.get r an).trans (y.get r an));have D:PZ (v+1) B h b M E (av.cons (dA 7 1 [LU c j 0 0 bB dz dz])) (LU c j 0 0 bB dz dz):=
  ⟨(bT.le dq).cons _,by rw[dP,ao dq,G _ dq dq];simp,by rw[dP,ao dq,G _ dq dq];simp,by rw[dP,ao dq,G _ dq dq];simp,1,by rw[dP,aq b6.symm]⟩
 simp[Tryz.f65,C,c6,c7,cb,Vy,ce,cp,cv,ec,b9,b6,er,et,eb];clear cb ce cp y X bz eu ey eA bT ec b9 G cv er et;generalize av.cons _=fS at*
 refine kS (λK a7=>(∃z,PZ (v+1) B h b M E a7 (LU c j 0 0 z dz dz))/\dB K 0 (.ptr h 0 0 0)/\dB K 3 ap/\dB K 5 (.ptr b.size 0 0 0)/\dB K 6 (.ptr (b.size+1) 0 0 0)/\dB K 8 (.ptr (b.size+2) 0 0 0)/\dB K 9 (dy c)/\dB K 11 (.ptr (b.size+3) 0 0 0)) (λeR=> ?_) (λeR=> ?_) ?_
 ·obtain⟨A,m⟩:=D.g3;simp[C,N,m];exact⟨_,D.put p _ _⟩
 ·simp[C,N];exact⟨_,D⟩
 clear D C c6 c7 N;rintro K o ⟨⟨z,D⟩,C,N,eN,eO,aA,aE,s⟩;obtain⟨A,m⟩:=D.g3;simp[C,aE,s,m];refine gY YU dt ⟨B,h,v+1,j,c⟩ ⟨rfl,D.tw.g,D.tw.w.ok,U,dw,dw,e0,e1⟩ ?_;rintro _ fi ⟨q,rfl,fL,bu,t1,y⟩;have l:=D.call y t1 p;clear D m;obtain⟨A,m⟩:=l.g3;simp[C,eN,s,m];replace l:=l.put p (A+1) (LU c j q 0 z dz dz);generalize dT fi _ _=Y at*
 clear y t1 m;obtain⟨A,m⟩:=l.g3;have c1:=l.g0;simp[s,m,c1];refine gY YP dt ⟨B,h,v+1,M,j,q⟩ ⟨rfl,l.tw.g,l.tw.w.ok,U,λO=>by have:=bu (.inl O);simp only;omega,dm,dn⟩ ?_;rintro _ fl ⟨n,rfl,t1,y⟩;replace l:=l.call y t1 p;clear m c1;obtain⟨A,m⟩:=l.g3;simp[s,m];replace l:=l.put p (A+1) (LU c j q n z dz dz);generalize dT fl _ _=fm at*
 clear y t1 m;obtain⟨A,m⟩:=l.g3;have eH:=l.g1;obtain⟨L,eM,e4,ca⟩:=dk;have dd:c<L.length:=by rw[ca.length];omega
 obtain⟨bs,di,cy,cL⟩:∃bs∈eo,Gr b L[c] 1 (bs.map (T.int .i64))/\dO L[c]≠some h:=ca.GA (aF dd);have b8:∀o,r9 (v+1) B h (TI.hr b) o->∃R S A Z F,∃(u:List Int) (Y:H),km o p8 ap c=some (.val (.ptr R S c 0) o)/\o.get R=some ⟨1,S,A,Z,false,F⟩/\F[c]? =some L[c]/\hl Tryz.prog cx ⟨pt [(99,sj)],ht [(63,kh),(100,js HN yZ rO),(101,js HL yY rN),(102,js Av uc tk)]⟩ 102 [.ptr h 0 0 0,L[c]] o=some (sl (u.map (T.int .i64)),Y)/\u.length<=1000/\uJ (v+1) B h Y/\Sm h o Y:=λo bN=>by
  have eh:∀(n:T) F,Gr b n 1 F->dO n≠some h->Gr o n 1 F:=λn F g an=>g.mono λr a8=>by
   obtain⟨_,_,_,_,O,_⟩:=g.box a8;exact(bN.w.get r (H.ez O) λe=>an (by rw[<-e];exact a8)).trans (f9 b r)
  obtain⟨R,S,A,Z,F,_,eE,eL,eF⟩:=(eh ap L eM e4).IK (te:=p8) rfl dd;have aN:uc ⟨B,h,v+1,L[c],bs⟩ [.ptr h 0 0 0,L[c]] o:=⟨rfl,eh _ _ cy cL,cL,bN.g,bN.w.ok,U,bi _ di⟩;obtain⟨_,Y,e,O⟩:=DP (tb:=⟨pt [(99,sj)],ht [(63,kh),(100,js HN yZ rO),(101,js HL yY rN),(102,js Av uc tk)]⟩) dt Uq ⟨_,aN⟩;obtain⟨u,rfl,e5,e6,e7⟩:=O _ aN;exact⟨R,S,A,Z,F,u,Y,eE,eL,eF,e,aS e5 (bi _ di),e6,e7⟩
 have eD:(decide (j=5)=false/\(decide (j=3)||decide (j=4))=true/\∃W:Nat,jX q=some W/\W<E.cells.length)\/(decide (j=5)=false/\(decide (j=3)||decide (j=4))=false)\/(decide (j=5)=true):=by
  by_cases J:j=5
  ·exact .inr (.inr (aT J))
  ·by_cases P:j=3\/j=4
   ·exact .inl ⟨aM J,by simpa using P,q.toNat,ei (bu P).1,by have:=bu P;omega⟩
   ·exact .inr (.inl ⟨aM J,du⟩)
 have fin:∀{o:H} {d f:T} (Q:iN),PZ (v+1) B h b M E o (LU c j q n z d f)->Ds d->Ds f->xF b (LU c j q n z d f) (dT o (b.size+2) Q) (Ek ⟨B,h,v,M,E,ap,eo⟩ [.ptr h 0 0 0,M.t,E.t,ap] b):=λQ i ⟨_,_,u,l1,l2⟩ ⟨_,_,bn,e2,e3⟩=>
  (i.tw.put i.g2 dt (by simpa using p) Q).cut ef p (FT.top (V:=λh=>b.size<=h) (d:=1) dq (λ_ O=>O) (.cons (fW ..) (.cons (fW ..) (.cons (fW ..) (.cons (fW ..) (.cons (fW ..) (.cons (l2 ..) (.cons (e3 ..) .nil)))))))) λe8 e9=>⟨⟨c,j,q,n,z,u,bn⟩,rfl,l1,e2,e9,e8⟩
 obtain⟨R,S,fe,Z,F,u,fo,a1,a2,a3,a4,l1,t1,y⟩:=b8 fm l.tw;have bk:=l.call y t1 p;obtain⟨bS,a6⟩:=bk.g3;have ae:=λQ=>(dI a6 Q (b.size+3)).trans (aq rfl);have aX:=cy.cells;rcases eD with⟨J,P,W,eP,de⟩|⟨J,P⟩|J;simp[eO,s,m,eH,J,P,eP,de];refine dW (λal=> ?_) (λal=> ?_);rotate_left
 iterate 2
  ·have I:=bk.put p (bS+1) (LU c j q n z dz (sl (u.map (T.int .i64))));simp[s,m,J,P];refine dW (λal=> ?_) (λal=> ?_)
   ·simp[C,N,aA,aE,s,a1,a2,a3,a4,a6,aX,ae,I.g2,I.rd];exact fin _ I Ds.nil (Ds.sl l1)
   ·simp[aA,s,m,l.g2,l.rd];exact fin _ l Ds.nil Ds.nil
 iterate 2
  ·have I:=bk.put p (bS+1) (LU c j q n z (sl (u.map (T.int .i64))) dz);simp[C,N,aE,s,m,J,a1,a2,a3,a4,a6,aX,ae];obtain⟨R,S,fe,Z,F,bn,gd,a1,a2,a3,a4,l2,t2,X⟩:=b8 _ I.tw;have ds:=I.call X t2 p;obtain⟨fb,c4⟩:=ds.g3;have eI:=λQ=>(dI c4 Q (b.size+3)).trans (aq rfl);have bl:=ds.put p (fb+1) (LU c j q n z (sl (u.map (T.int .i64))) (sl (bn.map (T.int .i64))));replace ae:=ae (dA 7 (bS+1) [LU c j q n z (sl (u.map (T.int .i64))) dz]);generalize dT fo _ _=fY at*
   refine dW (λal=> ?_) (λal=> ?_)
   ·have dv:=bl.g2;have ea:=bl.rd;simp at dv ea;simp[C,N,aA,aE,s,a1,a2,a3,a4,c4,aX,eI,dv,ea];exact fin _ bl (Ds.sl l1) (Ds.sl l2)
   ·simp[aA,s,ae,I.g2,I.rd];exact fin _ I (Ds.sl l1) Ds.nil
def PI{j k:Type}{f:j->k->Prop}:∀{b:List j} {a:List k},b.length=a.length->(∀(e:Nat) c d,b[e]? =some c->a[e]? =some d->f c d)->iv f b a:=by
 intro b;induction b with
 |nil=>intro a h _;cases a with|nil=>exact .nil|cons i a=>simp at h
 |cons p b n=>
  intro a h g;cases a with
  |nil=>simp at h
  |cons i a=>exact .cons (g 0 p i rfl rfl) (n (by simpa using h) λe c d l m=>g (e+1) c d (by simpa using l) (by simpa using m))
structure D3(lo bv:Nat)(h:H)(rs:List (List Int))(o:T)(xs:List T)(es:List T)(ver:Nat):Prop where
 gb:h.get bv=some ⟨1,0,ver,true,false,es⟩
 Mn:lo<=bv
 len:es.length=rs.length
 gr:∀(i:Nat) (e:T) (ns:List Int),es[i]? =some e->rs[i]? =some ns->Gr h e 1 (ns.map (T.int .i64))
 sep:∀(i:Nat) (e:T) (c:Nat),es[i]? =some e->dO e=some c->lo<=c/\c≠bv/\dO o≠some c/\∀(j:Nat) (e':T),es[j]? =some e'->dO e'=some c->i=j
 go:Gr h o 7 xs
 ob:∀c,dO o=some c->lo<=c/\c≠bv
variable {lo bv:Nat}{h h':H}{rs:List (List Int)}{o:T}{xs es:List T}{ver:Nat}
def D3.lt(e:D3 lo bv h rs o xs es ver){a:Nat}{b:T}{c:Nat}(d:es[a]? =some b)(f:dO b=some c):c<h.size:=by
 have g:a<rs.length:=by rw[<-e.len];exact(List.getElem?_eq_some_iff.1 d).1
 obtain⟨_,_,_,_,i,_⟩:=(e.gr a b rs[a] d (az g)).box f;exact H.ez i
def D3.olt(c:D3 lo bv h rs o xs es ver){a:Nat}(b:dO o=some a):a<h.size:=by
 obtain⟨_,_,_,_,d,_⟩:=c.go.box b;exact H.ez d
def D3.kE(a:D3 lo bv h rs o xs es ver)(e:∀b,lo<=b->b<h.size->h'.get b=h.get b):D3 lo bv h' rs o xs es ver:=
 ⟨(e _ a.Mn (H.ez a.gb)).trans a.gb,a.Mn,a.len,λg f j d i=>(a.gr g f j d i).mono λb c=>e b (a.sep g f b d c).1 (a.lt d c),a.sep,a.go.mono λb c=>e b (a.ob b c).1 (a.olt c),a.ob⟩
def D3.rda(a:D3 lo bv h rs o xs es ver){b:Nat}(j:b<lo):Js b h (.arr bv 0 0 rs.length false) rs:=
 ⟨es,by rw[<-a.len];exact .inr ⟨bv,0,ver,true,es,rfl,a.gb,aL⟩,by have:=a.Mn;simp;omega,PI a.len λe c g d f=>⟨a.gr e c g d f,λi=>by have:=(a.sep e c b d i).1;omega⟩⟩
def _root_.Go.TI.Gr.mz{h:H}{a:T}{e:Nat}{es:List T}(c:Gr h a e es)(b:T):TI.mz a 0 [b]=some b:=by
 rcases c with⟨rfl,_⟩|⟨f,i,ver,j,xs,rfl,_⟩<;>exact Ia λg d=>by cases d
def D3.app(a:D3 lo bv h rs o xs es ver){b:Nat}{f:T}{v:List Int}(g:es[b]? =some f)(J:rs[b]? =some v){n:Int}{u:T}{s:H}(x:Xt h f 1 ((v++[n]).map (T.int .i64)) u s)(I:lo<=h.size)(C:Nat):
 D3 lo bv (dT s bv ⟨1,0,C,true,false,es.set b u⟩) (rs.set b (v++[n])) o xs (es.set b u) C/\s.get bv=some ⟨1,0,ver,true,false,es⟩:=by
 obtain⟨G,w,q,K⟩:=x;have E:=H.ez a.gb;have t:b<es.length:=(List.getElem?_eq_some_iff.1 g).1;have r:s.get bv=some ⟨1,0,ver,true,false,es⟩:=(w bv E λe=>(a.sep b f bv g e).2.1 rfl).trans a.gb;refine⟨⟨(dI r _ bv).trans (aq rfl),a.Mn,by simp[a.len],λl p F c j=> ?_,λl p i c d=> ?_,a.go.mono λi d=> ?_,a.ob⟩,r⟩
 ·by_cases e:b=l
  ·subst e;rw[dj t]at c;rw[dj (by rw[<-a.len];exact t)]at j;cases c;cases j;refine G.mono λi d=> ?_;rw[dI r,ao];rintro rfl;rcases q _ d with k|k
   ·exact(a.sep b f _ g k).2.1 rfl
   ·omega
  ·rw[cC e]at c;rw[cC e]at j;refine(a.gr l p F c j).mono λi d=> ?_;have m:=a.sep l p i c d;rw[dI r,ao m.2.1];exact w i (a.lt c d) λk=>e (m.2.2.2 b f g k).symm
 ·by_cases e:b=l
  ·subst e;rw[dj t]at c;cases c;refine⟨?_,?_,?_,λl p c y=> ?_⟩
   ·rcases q _ d with k|k
    ·exact(a.sep b f _ g k).1
    ·omega
   ·rcases q _ d with k|k
    ·exact(a.sep b f _ g k).2.1
    ·omega
   ·rcases q _ d with k|k
    ·exact(a.sep b f _ g k).2.2.1
    ·intro z;have:=a.olt z;omega
   ·by_cases e:b=l
    ·exact e
    ·rw[cC e]at c;rcases q _ d with k|k
     ·exact(a.sep b f _ g k).2.2.2 l p c y
     ·have:=a.lt c y;omega
  ·rw[cC e]at c;have m:=a.sep l p i c d;refine⟨m.1,m.2.1,m.2.2.1,λk D j A=> ?_⟩;by_cases B:b=k
   ·subst B;rw[dj t]at j;cases j;rcases q _ A with z|z
    ·exact m.2.2.2 b f g z
    ·have:=a.lt c d;omega
   ·rw[cC B]at j;exact m.2.2.2 k D j A
 ·rw[dI r,ao (a.ob i d).2];exact w i (a.olt d) λk=>(a.sep b f i g k).2.2.1 d
def D3.out(a:D3 lo bv h rs o xs es ver){j:T}{n:List T}{f:H}(t:Xt h o 7 n j f)(v:lo<=h.size):D3 lo bv f rs j n es ver:=by
 obtain⟨u,k,l,w⟩:=t;have p:=H.ez a.gb;refine⟨(k bv p λs=>(a.ob bv s).2 rfl).trans a.gb,a.Mn,a.len,λg e r d f=>(a.gr g e r d f).mono λc b=>k c (a.lt d b) (a.sep g e c d b).2.2.1,λg e c d b=> ?_,u,λc b=> ?_⟩
 ·have i:=a.sep g e c d b;refine⟨i.1,i.2.1,λq=> ?_,i.2.2.2⟩;rcases l _ q with z|z
  ·exact i.2.2.1 z
  ·have:=a.lt d b;omega
 ·rcases l _ b with z|z
  ·exact a.ob c z
  ·exact⟨dq,dq⟩
end
noncomputable section
open Go Go.TI
attribute [-simp] List.map_take List.map_drop List.map_append fw eQ dZ Bool.not_or Bool.not_and
attribute [simp] fq eY
attribute [-simp] size_cons
structure IPl where
 (L:List Int) (b:Nat) (s:d8) (w:dU) (n:Nat) (early:Bool)
def SS(a:IPl)(d:List T)(c:H):Prop:=d=[.ptr a.b 0 0 0,a.s.t,a.w.t,dy a.n,.bool a.early]/\uJ 0 a.L a.b c/\gF 0 c/\okB a.L/\a.L.length<=400/\a.n<=16/\a.w.dE.length=4/\a.w.cells.length=5/\a.w.fZ.length<=1000/\mV a.w a.s=true/\qt 1000 a.s/\1<=a.s.dX.length
def Nh(a:IPl)(g:List T)(e:H)(f:T)(d:H):Prop:=∃c:List ed,f=sl (c.map ed.t)/\c.length<=a.n/\I4 c/\runs a.w a.s c=true/\uJ 0 a.L a.b d/\Sm a.b e d
def acW(a:ed)(d:H)(c:Nat->Prop):FT d c 2 a.t a.t:=by
 have e:∀b:List Int,FT d c 1 (sl (b.map (T.int .i64))) (sl (b.map (T.int .i64))):=λb=>oz _ _ _ λg f=>by obtain⟨h,_,rfl⟩:=List.mem_map.1 f;simp
 exact .inr (.inr ⟨a.cs,a.cs,rfl,.cons (fW ..) (.cons (fW ..) (.cons (fW ..) (.cons (fW ..) (.cons (fW ..) (.cons (e _) (.cons (e _) .nil)))))),rfl⟩)
def Qt{a:H}(g:gF 0 a)(b c d:iN):(∀e,e<a.size->(dT ((a.cons b).cons c) (a.size+1) d).get e=a.get e)/\(dT ((a.cons b).cons c) (a.size+1) d).get a.size=some b/\(dT ((a.cons b).cons c) (a.size+1) d).get (a.size+1)=some d/\(dT ((a.cons b).cons c) (a.size+1) d).size=a.size+2:=by
 have f:=lY ((g.cons b).cons c).hp (show a.size+1<_ by simp[size_cons]);refine⟨λe h=> ?_,?_,?_,by simp[size_cons]⟩
 ·rw[f,ao dq,dP,ao (by rw[size_cons];omega),dP,ao dq]
 ·rw[f,ao dq,dP,ao (by rw[size_cons];omega),dP,aq rfl]
 ·rw[f,aq rfl]
def r9.two{h:Nat}{f:List Int}{b:Nat}{e a:H}(i:r9 h f b e a)(k:b<e.size)(g d j:iN):r9 h f b e (dT ((a.cons g).cons d) (a.size+1) j):=
 ((i.cons g).cons d).put (c:=a.size+1) (x:=d) (by rw[dP,aq (by rw[size_cons])]) (by have:=i.w.size;omega) k j
def PlC(a:d8):Prop:=a.cells.length=5/\1<=a.dX.length/\a.fF.dE.length<=98/\a.count.length=4
def W8(h:Nat)(d:List Int)(e:Nat)(a:H)(n:dU)(k:d8)(i:Nat)(g:T)(o:List T)(b:H):Prop:=∃c f m l,r9 h d e (TI.hr a) b/\b.get a.size=some (dA 7 l [k.t])/\b.get (a.size+1)=some (dA 6 0 [n.t])/\D3 (a.size+2) (a.size+2) b c g o f m/\a.size+3<=b.size/\c.length=4/\∀j∈c,j.length<=i
def ace:(js IPl SS Nh).Ok Tryz.prog cx 39:=by
 refine p7 (tb:=⟨pt [(66,lj)],ht [(63,kh),(65,js IEv M9 Ek)]⟩) ew ej (iQ 155347004713968546154151135 [(14,[(2,15)])] Tryz.func39) (λ_ _=>1000) (λi a e e6=>by obtain⟨rfl,_⟩:=e6;simp[Tryz.f39]) ?_;rintro⟨V,b,q,h,n,early⟩ _ e ⟨rfl,eo,eM,di,e1,e5,ea,eE,e9,b9,eD,e3⟩ r bB;simp only at eo di e1 e5 ea eE e9 b9 eD e3;simp at bB;obtain⟨B,al,bi,C,W⟩:=bB;have an:=eo.tp.lt;have fS:(b=e.size)=False:=du;have fY:(b=e.size+1)=False:=du;simp[Tryz.f39,al,bi,ea];have cv:q.count.length=4:=by
  unfold mV at b9;simp only[aB,aO]at b9;rw[b9.2,ea]
 generalize bz:(((TI.hr e).cons _).cons _).cons _=bu;have gj:bu.size=e.size+3:=by rw[<-bz];rfl
 have ey:r9 0 V b (TI.hr e) bu:=by rw[<-bz];exact(((r9.refl eM.hr (eo.eq (f9 e b))).cons _).cons _).cons _
 have T:bu.get e.size=some (dA 7 0 [q.t]):=by rw[<-bz];simp
 have ae:bu.get (e.size+1)=some (dA 6 0 [h.t]):=by rw[<-bz];simp
 have eu:D3 (e.size+2) (e.size+2) bu [[],[],[],[]] dz [] [dz,dz,dz,dz] 0:=by
  rw[<-bz];refine⟨dt,au _,rfl,λi u gd al bi=> ?_,λi u c al bi=> ?_,Gr.nil _ _,dt⟩
  ·rcases i with _|_|_|_|i<;>simp at al bi<;>subst al bi<;>exact Gr.nil _ _
  ·rcases i with _|_|_|_|i<;>simp at al<;>subst al<;>simp at bi
 clear bz;have ce:W8 0 V b e h q 0 dz [] bu:=⟨_,_,_,_,ey,T,ae,eu,dq,rfl,dt⟩;refine fh 4 dq (λj r y=>W8 0 V b e h q j dz [] y/\dB r 0 (.ptr b 0 0 0)/\dB r 3 (dy n)/\dB r 4 (.bool early)/\dB r 6 (.ptr e.size 0 0 0)/\dB r 7 (.ptr (e.size+1) 0 0 0)/\dB r 11 dz/\dB r 12 (.arr (e.size+2) 0 0 4 false)/\dB r 22 (dy 4)/\dB r 23 (dy j)) ?_ ?_ dq ⟨ce,by simp[B,C,W]⟩
 ·rintro j r y e4 cp ⟨⟨v,s,D,S,Y,T,ae,X,aE,P,H⟩,B,C,W,E,G,F,J,bk,bl⟩;have cy:j<q.count.length:=dq;have dm:(j:Int)<4:=dq;have fv:(b=e.size+2)=False:=du;have et:W8 0 V b e h q (j+1) dz [] y:=⟨v,s,D,S,Y,T,ae,X,aE,P,λM hr=>Nat.le_succ_of_le (H M hr)⟩;cases early with
  |false=>
   simp[B,C,W,E,G,F,J,bk,bl,dm,cp,et]
  |true=>
  by_cases eA:1<q.count[j]
  ·obtain⟨m,eN,dd,fC,aN,cL⟩:=Y.next (tb:=⟨pt [(66,lj)],ht [(63,kh),(65,js IEv M9 Ek)]⟩) dt di 3 dq dq;simp[T,B,W,E,bk,bl,dm,cy,eA,dd];have L:D3 (e.size+2) (e.size+2) eN v dz [] s D:=X.kE λc o _=>cL.get c dq;have aX:=(cL.get e.size dq).trans T;have a6:=(cL.get (e.size+1) dq).trans ae;have bn:=cL.size;refine dW (λbC=> ?_) (λbC=> ?_)
   ·have O:j<s.length:=by rw[L.len];omega
    have R:j<v.length:=dq;obtain⟨cb,aA,b7,ef,eh,K⟩:=(Xt.refl (L.gr j s[j] v[j] (az O) (az R)) aN.w.ok).RT 1 (by have:=H v[j] (aF R);omega);obtain⟨I,a8⟩:=L.app (az O) (az R) K dq (D+1);have cv:=(L.gr j s[j] v[j] (az O) (az R)).cells;have bN:∀c,dO s[j]=some c->e.size+2<=c:=λc o=>(L.sep j s[j] c (az O) o).1;have c7:=((aN.le (aw _)).xt K (λc ap=>by have:=bN c ap;simp;omega) (by simpa using an)).put a8 dt (by simpa using an) ⟨1,0,D+1,true,false,s.set j cb⟩;have A:∀c,c<e.size+2->(dT aA (e.size+2) ⟨1,0,D+1,true,false,s.set j cb⟩).get c=eN.get c:=λc ap=>by
     rw[dI a8,ao dq];exact K.2.1 c dq λo=>by have:=bN c o;omega
    have c6:=K.2.2.2.sz;simp[L.gb,B,C,W,E,G,F,J,bk,bl,e4,O,cp,cv,b7,ef,eh,a8,(L.gr j s[j] v[j] (az O) (az R)).mz];exact⟨_,_,_,S,c7,(A _ dq).trans aX,(A _ dq).trans a6,I,du,by simp[P],λM hr=>by
     rcases bV hr with k|rfl
     ·exact Nat.le_succ_of_le (H M k)
     ·have:=H v[j] (aF R);simp;omega⟩
   ·simp[B,C,W,E,G,F,J,bk,bl,cp];exact⟨v,s,D,S,aN.le (aw _),aX,a6,L,dq,P,λM hr=>Nat.le_succ_of_le (H M hr)⟩
  ·simp[T,B,C,W,E,G,F,J,bk,bl,dm,cy,cp,eA,et]
 clear ce eu T ae ey B al bi C W;have eB:=b9;unfold mV mr at eB;simp only[aB,aO]at eB;rintro r y ⟨ce,B,C,W,E,G,F,J,bk,bl⟩;simp[bk,bl];refine PP 401 (λj r y=>(∃Q l,W8 j V b e h (ow h q l) (j+4) Q (l.map ed.t) y/\runs h q l=true/\l.length<=n/\I4 l/\qt (1000+j) (ow h q l)/\PlC (ow h q l)/\dB r 11 Q)/\dB r 0 (.ptr b 0 0 0)/\dB r 3 (dy n)/\dB r 6 (.ptr e.size 0 0 0)/\dB r 7 (.ptr (e.size+1) 0 0 0)/\dB r 12 (.arr (e.size+2) 0 0 4 false)) ?_ dq (aw _) ⟨⟨dz,[],ce,rfl,aw _,λu e2=>by simp at e2,eD,?_,by simp[F]⟩,by simp[B,C,E,G,J]⟩
 ·rintro j r y fA ⟨⟨Q,l,⟨v,s,D,S,Y,T,ae,X,aE,P,H⟩,dn,eC,dk,ds,bH,F⟩,B,C,E,G,J⟩;obtain⟨gi,gg,eW,fE⟩:=Y.g;simp[B,C,F,X.go.len,eW];refine dW (λbC=> ?_) (λbC=> ?_)
  ·simp at bC;have fB:j<V.length:=dq;simp[B,E,G,J,T,ae];refine gY acg dt ⟨V,b,j,ow h q l,h,.arr (e.size+2) 0 0 4 false,v⟩ ⟨rfl,Y.g,Y.w.ok,di,by have:=X.rda (b:=b) dq;rw[P]at this;exact this,P,λM hr=>by have:=H M hr;omega,bH.1,bH.2.1,bH.2.2.1,eE⟩ ?_;rintro _ U ⟨u,rfl,eV,dd,t1,bS⟩;simp only at eV dd t1 bS;have aN:=Y.call bS t1;have L:D3 (e.size+2) (e.size+2) U v Q (l.map ed.t) s D:=X.kE λc o _=>bS.get c dq;have aX:=(bS.get e.size dq).trans T;have a6:=(bS.get (e.size+1) dq).trans ae;have bn:=bS.size;have b8:=λ{tb:fy} (ht:tb.p 66=some lj)=>yx ht h (ow h q l) u dq (ds.up dq) dq dq;have eH:(e.size=U.size)=False:=du;have eI:(e.size+1=U.size)=False:=du;have eF:=aN.w.ok.low;have c9:=λca=>aN.two (by simpa using an) (dA 7 1 [u.t]) (dA 7 0 [.agg [dz,dy 0,dz,dz,dz,dz,dz]]) (dA 7 1 [ca]);have N:=λca=>Qt aN.w.ok (dA 7 1 [u.t]) (dA 7 0 [.agg [dz,dy 0,dz,dz,dz,dz,dz]]) (dA 7 1 [ca]);cases o:pw h (ow h q l) u with
   |false=>
    rw[kW o]at b8;simp[B,C,E,G,F,J,aX,a6,eH,eI,eF,b8];obtain⟨A,av,bT,c6⟩:=N sg.t;exact⟨dq,Q,l,⟨v,s,D,S,c9 _,(A _ dq).trans aX,(A _ dq).trans a6,L.kE λc _ o=>A c o,by rw[c6];omega,P,λM hr=>by have:=H M hr;omega⟩,dn,eC,dk,ds.up dq,bH,rfl⟩
   |true=>
    have dv:jA h (ow h q l) u=(jS h (ow h q l) u,true):=by unfold jA;rw[aq o]
    rw[dv]at b8;simp[E,G,aX,a6,eH,eI,eF,b8];have Z:=c9 (jS h (ow h q l) u).t;obtain⟨A,av,bT,c4⟩:=N (jS h (ow h q l) u).t;have a7:=(A e.size dq).trans aX;have bs:=(A (e.size+1) dq).trans a6;have I:D3 (e.size+2) (e.size+2) _ v Q (l.map ed.t) s D:=L.kE λc _ o=>A c o;clear b8 c9 N A;generalize dT _ _ _=aA at*
    simp[av];have eP:W8 (j+1) V b e h (ow h q l) (j+4) Q (l.map ed.t) aA:=⟨v,s,D,S,Z,a7,bs,I,dq,P,H⟩;refine kS (λr c1=>(W8 (j+1) V b e h (ow h q l) (j+1+4) Q (l.map ed.t) c1/\U.size+2<=c1.size/\c1.get U.size=some (dA 7 1 [u.t])/\c1.get (U.size+1)=some (dA 7 1 [(jS h (ow h q l) u).t]))/\dB r 0 (.ptr b 0 0 0)/\dB r 3 (dy n)/\dB r 6 (.ptr e.size 0 0 0)/\dB r 7 (.ptr (e.size+1) 0 0 0)/\dB r 11 Q/\dB r 12 (.arr (e.size+2) 0 0 4 false)/\dB r 14 (.ptr U.size 0 0 0)/\dB r 15 (.ptr (U.size+1) 0 0 0)) (λbC=> ?_) (λbC=> ?_) ?_
    ·obtain⟨z,e8,e7⟩:∃z:Nat,z<4/\jX u.dQ=some z:=by
      have:=fj.1 (tu o).2.1;exact⟨u.dQ.toNat,dq,ei this.1⟩
     have O:z<s.length:=by rw[I.len];omega
     have R:z<v.length:=dq;have cy:z<(ow h q l).count.length:=by have:=bH.2.2.2;omega
     have de:=I.gr z s[z] v[z] (az O) (az R);obtain⟨cb,er,b7,ef,eh,K⟩:=(Xt.refl de Z.w.ok).RT (ow h q l).count[z] (by have:=H v[z] (aF R);omega);obtain⟨eR,a8⟩:=I.app (az O) (az R) K dq (D+1);have cv:=de.cells;have bN:∀c,dO s[z]=some c->e.size+2<=c:=λc o=>(I.sep z s[z] c (az O) o).1;have c7:=(Z.xt K (λc ap=>by have:=bN c ap;simp;omega) (by simpa using an)).put a8 dt (by simpa using an) ⟨1,0,D+1,true,false,s.set z cb⟩;have c6:=K.2.2.2.sz;have eb:=λc (k:dO s[z]=some c)=>L.lt (az O) k;have eL:∀c,c<aA.size->(∀k,dO s[z]=some k->k≠c)->er.get c=aA.get c:=λc aE bn=>K.2.1 c aE λk=>bn c k rfl;have A:∀c,c<aA.size->c≠e.size+2->(∀k,dO s[z]=some k->k≠c)->(dT er (e.size+2) ⟨1,0,D+1,true,false,s.set z cb⟩).get c=aA.get c:=λc aE c4 bn=>by
      rw[dI a8,ao c4];exact eL c aE bn
     have sv:eJ (aA.cons (dA 1 0 [dy (ow h q l).count[z]])) er U.size=true:=ff ((eL _ dq λk o=>by have:=eb k o;omega).trans (by rw[dP,ao dq]));simp[I.gb,B,C,E,G,F,J,av,a7,e7,e8,O,cy,cv,b7,ef,eh,a8,de.mz,sv];refine⟨⟨_,_,_,S,c7,(A _ dq dq λk o=>by have:=bN k o;omega).trans a7,(A _ dq dq λk o=>by have:=bN k o;omega).trans bs,eR,du,by simp[P],λM hr=> ?_⟩,dq,(A _ dq dq λk o=>by have:=eb k o;omega).trans av,(A _ dq dq λk o=>by have:=eb k o;omega).trans bT⟩;rcases bV hr with k|rfl
     ·have:=H M k;omega
     ·have:=H v[z] (aF R);simp;omega
    ·simp[B,C,E,G,F,J];exact⟨⟨v,s,D,S,Z,a7,bs,I,dq,P,λM hr=>by have:=H M hr;omega⟩,dq,av,bT⟩
    ·have fm:∀c,dO Q=some c->c<U.size:=λc=>L.olt;clear eP Z a7 bs I av bT c4 B C E G F J;rintro r eO ⟨⟨⟨v,s,D,S,Z,a7,bs,I,c4,P,H⟩,gk,av,bT⟩,B,C,E,G,F,J,eX,e0⟩;obtain⟨fl,fs,b7,K⟩:=I.go.mJ (cx:=cx) (f:=ed.t) Z.w.ok OT rfl OS rfl dt (λ_=>rfl) u du;have ec:∀c,dO Q=some c->e.size+2<=c:=λc k=>(I.ob c k).1;have A:∀c,c<eO.size->(∀k,dO Q=some k->k≠c)->fs.get c=eO.get c:=λc aE bn=>K.2.1 c aE λk=>bn c k rfl;have t6:=(A _ dq λk o=>by have:=fm k o;omega).trans bT;have b6:=(A e.size dq λk o=>by have:=ec k o;omega).trans a7;have eS:=I.out K dq;have eU:=(Z.xt K (λc ap=>by have:=ec c ap;simp;omega) (by simpa using an)).put b6 dt (by simpa using an) (dA 7 (S+1) [(jS h (ow h q l) u).t]);have bB:ow h q (l++[u])=jS h (ow h q l) u:=by
      show vw _ _ _=_;rw[HH];show(jA h (ow h q l) u).1=_;rw[dv]
     have c6:=K.2.2.2.sz;simp[B,C,E,G,F,J,eX,e0,av,b7,t6,b6];refine⟨dq,fl,l++[u],⟨v,s,D,S+1,eU,?_,?_,eS.kE λc o _=> ?_,du,P,H⟩,?_,?_,?_,?_,?_,rfl⟩
     ·rw[bB,dI b6,aq rfl]
     ·rw[dI b6,ao dq];exact(A (e.size+1) dq λk o=>by have:=ec k o;omega).trans bs
     ·rw[dI b6,ao dq]
     ·rw[Bk,dn];simp[runs,rM,o]
     ·simp;omega
     ·intro x hx;rcases List.mem_append.1 hx with hx|hx
      ·exact dk x hx
      ·simp at hx;subst hx;omega
     ·have:=ds.step h u;rw[dv]at this;rw[bB];exact this
     ·have:=xz h (ow h q l).fF u.dQ u.kind u.obj (kT u);obtain⟨fb,fe,fL,fi⟩:=bH;rw[bB];exact⟨by unfold jS;simp only;split<;>simp[fb],by unfold jS;simp only;split<;>simp[fe],by show(eG ..).1.dE.length<=_;omega,by unfold jS;simp[fi]⟩
  ·simp[F];exact(Y.le (aw _)).cut eM an (X.go.Yh (d:=2) dq (λc ap=>by have:=(X.ob c ap).1;omega) acW) λca fo=>⟨l,rfl,eC,dk,dn,fo,ca⟩
 ·exact(⟨dq,dq,dq,dq⟩:PlC q)
end
noncomputable section
open Go Go.TI
attribute [-simp] List.map_take List.map_drop List.map_append
def Bp:gu:=⟨Int×Nat,λa=>[dy a.1,dy a.2],λa=>True,λa=> .bool (iT a.1 a.2),λa c b=>by simp at b;rw[b.1,show a.2=c.2 by omega]⟩
def Uv:Bp.Ok Tryz.prog cx 112:=by
 refine gX (tb:=⟨pt [],ht []⟩) ew ej (iQ 19 [] Tryz.func112) (λf=>1) (by simp[Bp]) (by simp[Bp,Tryz.f112]) ?_;rintro⟨e,g⟩ _ h a;simp[Bp]at a|-;obtain⟨b,c⟩:=a;by_cases d:0<=e<;>simp[Tryz.f112,b,c,d,iT]
def Pq{c:fy}(ht:c.p 112=some Bp)(a:Int)(b:Nat):rl Tryz.prog cx c 112 [dy a,dy b]=some (.bool (iT a b)):=gU ht Uv (a,b) trivial
def Fs(c:eZ)(b:Int):Bool:=match wO c.jK.count b with|some a=>decide (1<=a)|none=>false
def ta:gu:=⟨eZ×Int,λa=>[a.1.t,dy a.2],λa=>True,λa=> .bool (Fs a.1 a.2),λa c b=>by simp at b;rw[eZ.inj b.1,b.2]⟩
def Lw:ta.Ok Tryz.prog cx 113:=by
 refine gX (tb:=⟨pt [(112,Bp)],ht []⟩) ew ej (iQ 23 [] Tryz.func113) (λi=>1) (by simp[ta]) (by simp[ta,Tryz.f113]) ?_;rintro⟨h,g⟩ _ k d;simp[ta]at d|-;obtain⟨b,c⟩:=d;cases a:iT g h.jK.count.length with
 |false=>simp[Tryz.f113,b,c,Pq,a,Fs,qq a]
 |true=>
  obtain⟨j,e,f⟩:=iu a;simp[Tryz.f113,b,c,Pq,a,Fs,e,f,ei (fj.1 a).1]
def vm{c:fy}(ht:c.p 113=some ta)(b:eZ)(a:Int):rl Tryz.prog cx c 113 [b.t,dy a]=some (.bool (Fs b a)):=gU ht Lw (b,a) trivial
end
noncomputable section
open Go Go.TI
attribute [-simp] List.map_take List.map_drop List.map_append fw eQ dZ Bool.not_or Bool.not_and
attribute [simp] fq eY
def JT:m6 Tryz.prog cx 114 (λa:eZ×Int×Int=>[a.1.t,dy a.2.1,dy a.2.2]) (λa=>a.1.dK.length<=1000000) (λa v=>∃p:Int,v= dy p/\p<a.1.dK.length):=by
 refine jd (tb:=⟨pt [],ht []⟩) ew ej (iQ 20975823 [] Tryz.func114) (λa=>a.1.dK.length+5) (λa b c=>by simp at c;exact aP (eZ.inj c.1) (aP c.2.1 c.2.2)) dt (by simp[Tryz.f114]) ?_;rintro⟨q,w,u⟩ hl d m;simp at hl m;obtain⟨r,e,f⟩:=m;simp[Tryz.f114,r];refine fh q.dK.length dq (λo d c=>∃l,gF 1 c/\c.get 0=some (dA 15 0 [q.t])/\dB d 1 (dy w)/\dB d 2 (dy l)/\dB d 3 (.ptr 0 0 0 0)/\dB d 7 (dy o)) ?_ ?_ dq ⟨u,⟨dt,dt,dt⟩,by simp[e,f]⟩
 ·rintro o d c s n ⟨l,h,i,e,f,j,g⟩;have x:=h.ne (b:=0) dq;simp[i,e,j,g,s];refine dW (λk=> ?_) (λk=> ?_)
  ·simp[f];refine dW (λk=> ?_) (λk=> ?_)
   ·simp[g,h.hp];omega
   ·simp[i,e,f,j,g,n,tU,h]
  ·simp[i,e,f,j,g,n,h]
 ·rintro d c ⟨l,h,i,e,f,j,g⟩;simp[i,j,g,h.hp];omega
def BH:m6 Tryz.prog cx 69 (λa:eZ=>[a.t]) (λa=>a.jK.count.length<=1000000/\a.dK.length<=1000000) (λ_=>DM):=by
 refine jd (tb:=⟨pt [],ht []⟩) ew ej (iQ 268436511 [] Tryz.func69) (λa=>a.jK.count.length+5) (λo p b=>by simp at b;exact eZ.inj b) dt (by simp[Tryz.f69]) ?_;rintro a ⟨hl,q⟩ c j;simp at j;simp[Tryz.f69,j];refine fh a.jK.count.length dq (λl c b=>∃i,gF 1 b/\b.get 0=some (dA 15 0 [a.t])/\dB c 1 (.ptr 0 0 0 0)/\dB c 3 (dy i)/\dB c 4 (dy l)) ?_ ?_ dq ⟨0,⟨dt,dt,dt⟩,dt⟩
 ·rintro l c b k m ⟨i,g,d,e,h,f⟩;simp[d,e,f,k];refine dW (λn=> ?_) (λn=> ?_)
  ·simp[g.hp]
  ·simp[d,e,h,f,k,m,nJ,g]
 ·rintro c b ⟨i,g,d,e,h,f⟩;simp[d,e,h,f,nJ,g.hp]
def HU(b:eZ)(a:dG):Prop:=yK a=true->iT a.cond b.eK.fZ.length=true
def xX:m6 Tryz.prog cx 70 (λa:eZ=>[a.t]) (λa=>a.jK.fF.dE.length<=1000000/\a.jK.fF.dE.length=a.jK.count.length) (λa=>LH (∀m∈a.jK.fF.dE,HU a m)):=by
 refine jd (tb:=⟨pt [(112,Bp)],ht []⟩) ew ej (iQ 162259279247065002620836359716991 [] Tryz.func70) (λa=>a.jK.fF.dE.length+5) (λu b d=>by simp at d;exact eZ.inj d) dt (by simp[Tryz.f70]) ?_;rintro a ⟨hl,v⟩ g o;simp at o;simp[Tryz.f70,o];refine fh a.jK.fF.dE.length dq (λc g d=>gF 1 d/\d.get 0=some (dA 15 0 [a.t])/\dB g 1 (.ptr 0 0 0 0)/\dB g 3 (sl (a.jK.fF.dE.map dG.t))/\dB g 4 (dy c)/\∀m∈a.jK.fF.dE.take c,HU a m) ?_ ?_ dq ⟨⟨dt,dt,dt⟩,dt⟩
 ·rintro c g d n q ⟨f,j,k,h,i,l⟩;have r:a.jK.fF.dE.take (c+1)=a.jK.fF.dE.take c++[a.jK.fF.dE[c]]:=aU n;have w:=f.ne (b:=0) dq;simp[j,k,h,i,n,show c<a.jK.count.length by omega];refine dW (λe=> ?_) (λe=> ?_)
  ·simp[f.hp]
  clear e;simp[j,k,h,i,n,Pq];refine dW (λe=> ?_) (λe=> ?_)
  ·simp[f.hp]
  simp[j,k,h,i,q,f];generalize a.jK.fF.dE[c]=m at*
  rw[r];intro s hu;rcases List.mem_append.1 hu with hu|hu
  ·exact l s hu
  rw[List.mem_singleton.1 hu];intro p;unfold yK at p;rw[p]at e;simpa using e
 ·rintro g d ⟨f,j,k,h,i,l⟩;rw[aL]at l;simp[h,i,f.hp];exact l
def ze:m6 Tryz.prog cx 72 (λa:eZ×Int×List Int=>[a.1.t,dy a.2.1,sl (a.2.2.map (T.int .i64))]) (λa=>a.1.dK.length<=1000000/\iT a.2.1 a.1.jK.count.length=true/\a.2.2.length<=1000000) (λ_=>DM):=by
 refine jd (tb:=⟨pt [(114,JT.jf)],ht []⟩) ew ej (iQ 576460752336982479 [] Tryz.func72) (λa=>a.2.2.length+5) (λa b c=>by simp at c;exact aP (eZ.inj c.1) (aP c.2.1 (jw (λ_ _ c=>by simpa using c) c.2.2))) dt (by simp[Tryz.f72]) ?_;rintro⟨u,y,s⟩ ⟨hl,p,B⟩ h w;simp only at hl p B;simp at w;obtain⟨A,e,d⟩:=w;obtain⟨z,n,_⟩:=iu p;have ht:=ei (fj.1 p).1;simp[Tryz.f72,A];refine fh s.length dq (λr h c=>gF 1 c/\c.get 0=some (dA 15 0 [u.t])/\dB h 1 (dy y)/\dB h 2 (sl (s.map (T.int .i64)))/\dB h 3 (.ptr 0 0 0 0)/\dB h 7 (dy r)) ?_ ?_ dq ⟨⟨dt,dt,dt⟩,by simp[e,d]⟩
 ·rintro r h c q x ⟨g,i,e,d,j,f⟩;have G:=g.ne (b:=0) dq;obtain⟨_,⟨k,rfl,C⟩,m⟩:=JT.use (u,y,IntKind.i64.wrap (s[r]-z)) hl;simp only at m C;simp[i,e,d,j,f,q,ht,n];refine dW (λo=> ?_) (λo=> ?_)
  ·simp[i,e,d,j,f,x,g]
  have D:decide (k<0)=true\/decide (k<0)=false/\jX k=some k.toNat/\∃v,u.dK[k.toNat]? =some v:=by
   by_cases l:k<0
   ·exact .inl (aT l)
   ·exact .inr ⟨aM l,ei dq,_,az dq⟩
  rcases D with l|⟨l,E,v,F⟩
  ·simp[i,e,d,j,f,q,ht,n,tU,m,g.hp,l]
  ·simp[i,e,d,j,f,q,ht,n,tU,m,l,E,F];refine dW (λo=> ?_) (λo=> ?_)
   ·simp[g.hp]
   ·simp[i,e,d,j,f,x,g]
 ·rintro h c ⟨g,i,e,d,j,f⟩;simp[d,f,g.hp]
structure adi(w:eZ):Prop where
 l1:w.jK.fF.dY.length<=1000000
 l2:w.jK.fF.dE.length<=1000000
 l3:∀l∈w.jK.fF.dY,l.eg.length<=1000000
 e:w.jK.fF.dY.length=w.eK.dY.length
 t:∀t∈w.jK.fF.dE,HU w t
 m:∀c∈w.eK.fZ,iT c.kl w.jK.fF.dY.length=true
def Ah:m6 Tryz.prog cx 71 (λc:eZ=>[c.t]) adi (λ_=>DM):=by
 refine jd (tb:=⟨pt [(113,ta)],ht []⟩) ew ej (iQ 5575186465791384471966860632566831987622399 [] Tryz.func71) (λc=>1000005) (λa b g=>by simp at g;exact eZ.inj g) dt (by simp[Tryz.f71]) ?_;rintro c s f O;simp at O;simp[Tryz.f71,O];refine fh c.jK.fF.dY.length (by have:=s.l1;omega) (λj f g=>gF 2 g/\g.get 0=some (dA 15 0 [c.t])/\g.get 1=some (dA 4 1 [c.jK.fF.t])/\dB f 1 (.ptr 0 0 0 0)/\dB f 3 (.ptr 1 0 0 0)/\dB f 4 (dy j)) ?_ ?_ (by have:=s.l1;omega) ⟨⟨dt,dt,dt⟩,dt⟩
 ·rintro j f g E H ⟨h,p,l,d,i,r⟩;have w:=h.ne (b:=0) dq;have F:=h.ne (b:=1) dq;have X:=s.l3 _ (aF E);have S:j<c.eK.dY.length:=by have:=s.e;omega
  simp[p,l,d,i,r,E,w,h.low,vm,S];have U:gF 2 (g.cons (dA 2 1 [c.jK.fF.dY[j].t])):=h.cons _;have Y:2<=g.size:=h.sz;generalize c.jK.fF.dY[j]=o at*
  refine dW (λk=> ?_) (λk=> ?_)
  ·simp[h.hp]
  clear k;simp;refine fh o.eg.length dq (λq f v=>gF 2 v/\g.size<v.size/\v.get 0=some (dA 15 0 [c.t])/\v.get 1=some (dA 4 1 [c.jK.fF.t])/\v.get g.size=some (dA 2 1 [o.t])/\dB f 1 (.ptr 0 0 0 0)/\dB f 3 (.ptr 1 0 0 0)/\dB f 4 (dy j)/\dB f 5 (.ptr g.size 0 0 0)/\dB f 6 (dy q)) ?_ ?_ dq ⟨U,dt,by simp[p,l,d,i,r,w,F]⟩
  ·rintro q f v R P ⟨C,K,x,G,y,d,i,r,z,A⟩;have T:=kP (a:=q) (b:=1) dq dq;have I:decide (0<q)=false/\True/\(∃D:Int,D=D)\/decide (0<q)=true/\jX ((q:Int)-1)=some (q-1)/\∃D,o.eg[q-1]? =some D:=by
    by_cases u:0<q
    ·refine .inr ⟨aT u,?_,_,az dq⟩;rw[show(q:Int)-1=((q-1:Nat):Int)by omega];exact ei dq
    ·exact .inl ⟨aM u,trivial,0,rfl⟩
   rcases I with⟨u,_,D,J⟩|⟨u,M,D,J⟩
   ·simp[x,y,d,z,A,R,vm,u];refine dW (λk=> ?_) (λk=> ?_)
    ·simp[C.hp]
    ·simp[x,G,y,d,i,r,z,A,P,C,K]
   ·simp[x,y,d,z,A,R,vm,u,M,J,T];refine dW (λk=> ?_) (λk=> ?_)
    ·simp[C.hp]
    ·simp[x,G,y,d,i,r,z,A,P,C,K]
  ·rintro f v ⟨C,K,x,G,y,d,i,r,z,A⟩;simp[x,G,y,d,i,r,z,A,H,C]
 ·rintro f g ⟨h,p,l,d,i,r⟩;simp[p,l,d,i,r,vm];refine dW (λk=> ?_) (λk=> ?_)
  ·simp[h.hp]
  clear k;simp;refine fh c.jK.fF.dE.length (by have:=s.l2;omega) (λj f g=>gF 2 g/\g.get 0=some (dA 15 0 [c.t])/\g.get 1=some (dA 4 1 [c.jK.fF.t])/\dB f 1 (.ptr 0 0 0 0)/\dB f 3 (.ptr 1 0 0 0)/\dB f 7 (dy j)) ?_ ?_ (by have:=s.l2;omega) ⟨h,by simp[p,l,d,i]⟩
  ·rintro j f g E H ⟨h,p,l,d,i,B⟩;have w:=h.ne (b:=0) dq;have F:=h.ne (b:=1) dq;have ht:=s.t _ (aF E);simp[p,l,d,i,B,E,w,h.low,vm];refine dW (λk=> ?_) (λk=> ?_)
   ·simp[h.hp]
   clear k;have I:yK c.jK.fF.dE[j]=false/\True/\True/\(∃n:iF,n=n/\∃o:dV,o=o)\/yK c.jK.fF.dE[j]=true/\jX c.jK.fF.dE[j].cond=some c.jK.fF.dE[j].cond.toNat/\True/\(∃n,c.eK.fZ[c.jK.fF.dE[j].cond.toNat]? =some n/\jX n.kl=some n.kl.toNat/\∃o,c.jK.fF.dY[n.kl.toNat]? =some o):=by
    cases u:yK c.jK.fF.dE[j]
    ·exact .inl ⟨rfl,trivial,trivial,default,rfl,default,rfl⟩
    ·have d:=ht u;obtain⟨n,Q,_⟩:=iu d;have N:=s.m n (ax Q);obtain⟨o,hl,_⟩:=iu N;exact .inr ⟨rfl,ei (fj.1 d).1,trivial,n,Q,ei (fj.1 N).1,o,hl⟩
   unfold yK at I;rcases I with⟨L,_,_,n,_,o,_⟩|⟨L,M,_,n,J,V,o,W⟩
   ·simp[p,l,d,i,B,w,F,L,H,h.cons]
   ·simp[p,l,d,i,B,w,F,L,M,J,V,W];refine dW (λk=> ?_) (λk=> ?_)
    ·simp[h.hp]
    ·simp[p,l,d,i,B,w,F,H,h.cons]
  ·rintro f g ⟨h,p,l,d,i,B⟩;simp[l,i,B,h.hp]
structure aaC(w:eZ):Prop where
 c:w.jK.count.length<=1000
 ev:w.dK.length<=1000000
 l:w.jK.fF.dY.length<=1000
 t:w.jK.fF.dE.length<=1000
 d:w.jK.fF.done.length<=1000
 f:w.jK.dX.length<=1000
 r:∀l∈w.jK.fF.dY,l.eg.length<=1000
 sm:qt 1000 w.jK
 wb:jO w.eK=true
 es:I4 w.dK
def Do:m6 Tryz.prog cx 40 (λd:eZ=>[d.t]) (λd=>aaC d/\mV d.eK d.jK=true/\d.dK.length<=16) (λ_=>DM):=by
 refine jd (tb:=⟨pt [(67,uT),(68,t8),(69,BH.jf),(70,xX.jf),(71,Ah.jf),(66,lj),(72,ze.jf)],ht []⟩) ew ej (iQ 324518553667945246868126660821503 [] Tryz.func40) (λd=>1000005) (λa b g=>by simp at g;exact eZ.inj g) dt (by simp[Tryz.f40]) ?_;rintro d ⟨i,O,b6⟩ k M;simp at M;have P:=O;unfold mV at P;simp only[aB,aO]at P;obtain⟨⟨⟨bl,_⟩,bT⟩,bk⟩:=P;have H:=bl;unfold mr at H;simp only[aB,aO]at H;obtain⟨b7,b8,b9,ca,cb,ce⟩:=qG i.wb;have bn:∀n∈d.eK.fZ,iT n.kl d.jK.fF.dY.length=true:=λn a8=>by
  rw[H.1.1.2];exact List.all_eq_true.1 H.1.1.1 n a8
 have Y:d.eK.fZ.length<=1099511627776:=dq;have al:jO d.eK=true:=i.wb;obtain⟨_,⟨bC,rfl⟩,W⟩:=BH.use d ⟨by have:=i.c;omega,i.ev⟩;obtain⟨_,⟨aA,rfl,a7⟩,X⟩:=xX.use d ⟨by have:=i.t;omega,dq⟩;cases aA with
 |false=>simp[Tryz.f40,M,yv,Fm,al,O,W,X,Y]
 |true=>
 obtain⟨_,⟨bH,rfl⟩,aE⟩:=Ah.use d ⟨by have:=i.l;omega,by have:=i.t;omega,λl s=>by have:=i.r l s;omega,dq,a7 rfl,bn⟩;simp[Tryz.f40,M,yv,Fm,al,O,W,X,aE,Y];refine dW (λu=> ?_) (λu=> ?_)
 ·simp
 clear u;simp;refine fh d.jK.dX.length (by have:=i.f;omega) (λe k g=>gF 1 g/\g.get 0=some (dA 15 0 [d.t])/\dB k 1 (.ptr 0 0 0 0)/\dB k 3 (dy e)) ?_ ?_ (by have:=i.f;omega) ⟨⟨dt,dt,dt⟩,dt⟩
 ·rintro e k g B N ⟨o,v,j,E⟩;have bi:e<d.jK.fF.done.length:=dq;simp[v,j,E,B,bi];refine dW (λu=> ?_) (λu=> ?_)
  ·simp[o.hp]
  ·simp[v,j,E,N,o]
 rintro k g ⟨o,v,j,E⟩;have bu:=o.ne (b:=0) dq;simp[v,j,E,o.low];obtain⟨J,bN⟩:∃J,g.size=J:=⟨_,rfl⟩;have bS:1<=J:=by have:=o.sz;omega
 refine fh d.dK.length dq (λe k h=>∃I m,qt (1000+e) m/\gF 1 h/\g.size<h.size/\h.get 0=some (dA 15 0 [d.t])/\h.get g.size=some (dA 7 I [m.t])/\dB k 1 (.ptr 0 0 0 0)/\dB k 4 (.ptr g.size 0 0 0)/\dB k 5 (dy e)) ?_ ?_ dq ⟨1,d.jK,i.sm,o.cons _,dt,by simp[v,j,bu]⟩
 ·rintro e k h B N ⟨I,m,S,q,bs,w,D,j,F,y⟩;have an:=q.ne (b:=0) dq;have ap:(g.size=h.size)=False:=du;have G:=i.es d.dK[e] (aF B);have x:=λ{tb:fy} (ht:tb.p 66=some lj)=>yx ht d.eK m d.dK[e] dq (S.up dq) G.1 G.2;have R:gF 1 ((h.cons (dA 7 1 [d.dK[e].t])).cons (dA 7 0 [T.agg [T.dF [] false,T.int .i64 0,T.dF [] false,T.dF [] false,T.dF [] false,T.dF [] false,T.dF [] false]])):=(q.cons _).cons _;have C:=lY R.hp (show h.size+1<_ by simp);cases s:pw d.eK m d.dK[e]with
  |false=>
   rw[kW s]at x;simp[w,D,j,F,y,B,an,ap,q.low,x,q.hp]
  |true=>
   have Z:jA d.eK m d.dK[e]=(jS d.eK m d.dK[e],true):=by unfold jA;rw[aq s]
   have bB:qt (1000+(e+1)) (jS d.eK m d.dK[e]):=by have:=S.step d.eK d.dK[e];rw[Z]at this;exact this
   rw[Z]at x;have ae:iT d.dK[e].dQ d.jK.count.length=true:=by
    unfold pw at s;simp only[aB]at s;rw[bk];exact s.1.1.1.1.1.1.1.1.2
   obtain⟨_,⟨r1,rfl⟩,K⟩:=ze.use (d,d.dK[e].dQ,d.dK[e].mn) ⟨dw,ae,G.1⟩;obtain⟨_,⟨r2,rfl⟩,L⟩:=ze.use (d,d.dK[e].dQ,d.dK[e].uF) ⟨dw,ae,G.2⟩;simp only at K L;simp[w,D,j,F,y,B,an,ap,q.low,x,K,L,C];generalize A:dT _ (h.size+1) _=z;have Q:gF 1 z:=by rw[<-A];exact R.put _ _
   have cp:z.size=h.size+1+1:=by rw[<-A];simp
   have U:∀n,n≠h.size+1->n≠h.size->z.get n=h.get n:=λn av bz=>by rw[<-A,C,ao av];simp[av,bz]
   have aN:=(U 0 dq dq).trans w;have aX:=(U g.size dq dq).trans D;have a6:z.get (h.size+1)=some (dA 7 1 [(jS d.eK m d.dK[e]).t]):=by rw[<-A,C,aq rfl]
   clear A C R x K L;refine dW (λu=> ?_) (λu=> ?_)
   ·simp[Q.hp]
   ·simp[aX,a6,j,F,y,N];have V:=lY Q.hp (show g.size<z.size by omega);exact⟨I+1,_,bB,Q.put _ _,dq,(V _ 0).trans ((ao dq).trans aN),(V _ g.size).trans (aq rfl)⟩
 ·rintro k h ⟨I,m,S,q,bs,w,D,j,F,y⟩;simp[w,j,y,q.hp]
end
noncomputable section
open Go Go.TI
attribute [-simp] List.map_take List.map_drop List.map_append fw eQ dZ Bool.not_or Bool.not_and
attribute [simp] fq eY
attribute [-simp] size_cons
def FE.fits{a:d8}(h:FE a):mV jc a=true:=by
 obtain⟨b,c,d,e,f,g⟩:=h.n;unfold mV mr;rw[b,c,d,e,f,g];decide
def FE.sm{d:d8}(b:FE d):qt 1000 d:=by
 obtain⟨g,h,i,j,k,l⟩:=b.n;refine⟨dq,λa hl=>by have:=(b.r a hl).1;omega,λa hl=> ?_,λe f=>by have:=b.c e f;omega⟩;have:=(b.r a hl).1
 match hr:a.eg with
 | []=>exact List.Pairwise.nil
 | [x]=>exact List.pairwise_singleton _ _
 |x::o::m=>rw[hr]at this;simp at this
def FE.ask{c:d8}(b:FE c){a:List ed}(hl:a.length<=16)(d:I4 a)(e:Int):aaC ⟨jc,e,c,a⟩:=by
 obtain⟨f,g,h,i,j,k⟩:=b.n;exact⟨dw,dw,dw,dw,dw,dw,λa hl=>by have:=(b.r a hl).1;omega,b.sm,Ib,d⟩
def FE.win{d:d8}(c:FE d){b:List ed}(hl:b.length<=16)(e:I4 b)(hr:runs jc d b=true)(f:Int):kL ⟨jc,f,d,b⟩:=
 ⟨⟨hl,(by decide:jc.dE.length<=4),hr,c.sm.a⟩,Ib,c.sm,e,λb hl=>(c.r b hl).2⟩
def TZ(b:Int):kL ⟨jc,b,jF jc,[]⟩:=
 ⟨⟨dt,(by decide:jc.dE.length<=4),rfl,rJ _⟩,Ib,(tV jc dx).up dq,λc a=>by simp at a,uN 4 jc⟩
abbrev wT(c:Int)(a:d8)(b:T):T:= .agg [sl (jc.cells.map ge.t),sl (jc.dY.map io.t),sl (jc.fZ.map iF.t),sl (jc.dX.map T.str),sl (jc.dE.map T.str),sl (jc.iq.map ir.t),dy c,sl (a.fF.dY.map dV.t),dy a.fF.tx,sl (a.fF.done.map T.bool),sl (a.fF.dE.map dG.t),sl (a.cells.map (T.int .i64)),sl (a.dX.map (T.int .i64)),sl (a.count.map (T.int .i64)),b]
structure TE(L:List Int)(s:d8)(n:Int)(e:T)(y:H):Prop where
 g0:y.get 0=some (dA 15 0 [.agg [dz,dz,dz,dz,dz,dz,dy 0,dz,dy 0,dz,dz,dz,dz,dz,dz]])
 g2:∃ver,y.get 2=some (dA 15 ver [wT n s e])
 tp:uJ 0 L 1 y
 ok:gF 3 y
def TE.tape{b:List Int}{g:d8}{f:Int}{e:T}{h d:H}(c:TE b g f e h)(j:uJ 0 b 1 d)(a:Sm 1 h d):TE b g f e d:=by
 obtain⟨k,i⟩:=c.g2;exact⟨(a.get 0 dq).trans c.g0,⟨k,(a.get 2 dq).trans i⟩,j,a.ok.hp,a.ok.low,by rw[a.size];exact c.ok.sz⟩
def TE.put{i:List Int}{d:d8}{n:Int}{k:T}{j:H}(a:TE i d n k j)(h:Nat)(g:Int)(f:T):TE i d g f (dT j 2 (dA 15 h [wT g d f])):=by
 have e:=lY (b:=2) a.ok.hp (by have:=a.ok.sz;omega) (dA 15 h [wT g d f]);exact⟨(e 0).trans ((ao dq).trans a.g0),⟨h,(e 2).trans (aq rfl)⟩,a.tp.eq ((e 1).trans (ao dq)),a.ok.put _ _⟩
def Sa(b:T):Prop:=∃a:eZ,b=a.t/\kL a
def Em:m6 Tryz.prog cx 18 (λr:List Int×Nat=>[sl (r.1.map (T.int .u8)),dy r.2]) (λr=>okB r.1/\r.2<=16) (λ_=>Sa):=by
 refine jd (tb:=⟨pt [(37,Ed),(41,nW),(40,Do.jf)],ht [(38,js IBg S8 Io),(39,js IPl SS Nh)]⟩) ew ej (iQ 1125900913478003 [] Tryz.func18) (λ_=>10) (λr b y=>by simp at y;exact aP (jw (λ_ _ y=>by simpa using y) y.1) (by have:=y.2;omega)) dt (by simp[Tryz.f18]) ?_;rintro⟨D,B⟩ ⟨H,S⟩ e P;simp only at H S;simp at P;obtain⟨q,h⟩:=P;simp[Tryz.f18,q];refine kS (λe k=>(∃i:List Int,okB i/\i.length<=400/\dB e 0 (sl (i.map (T.int .u8))))/\k=hE.cons (dA 15 0 [.agg [dz,dz,dz,dz,dz,dz,dy 0,dz,dy 0,dz,dz,dz,dz,dz,dz]])/\dB e 1 (dy B)/\dB e 4 (.ptr 0 0 0 0)) (λA=> ?_) (λA=> ?_) ?_
 ·simp at A;simp[q,h,show 400<=D.length by omega];refine⟨D.take 400,⟨du,λx aE=>H.2 x (bw aE)⟩,du,rfl⟩
 ·simp at A;simp[q,h];exact⟨D,H,dq,rfl⟩
 rintro e _ ⟨⟨i,O,an,q⟩,rfl,h,l⟩;simp[q,Ku];generalize u:((hE.cons _).cons _).cons _=w;have bu:w.size=3:=by rw[<-u];rfl
 have a7:gF 0 w:=by rw[<-u];exact⟨dt,by simp[size_cons],dt⟩
 have a8:w.get 0=some (dA 15 0 [.agg [dz,dz,dz,dz,dz,dz,dy 0,dz,dy 0,dz,dz,dz,dz,dz,dz]]):=by rw[<-u];simp[size_cons]
 have bi:w.get 1=some (dA 2 0 [.agg [sl (i.map (T.int .u8)),dy 0]]):=by rw[<-u];simp[size_cons]
 have bk:w.get 2=some (dA 15 1 [.agg [sl (jc.cells.map ge.t),sl (jc.dY.map io.t),sl (jc.fZ.map iF.t),sl (jc.dX.map T.str),sl (jc.dE.map T.str),sl (jc.iq.map ir.t),dy 0,dz,dy 0,dz,dz,dz,dz,dz,dz]]):=by rw[<-u];simp[size_cons]
 clear u;refine gY ach dt ⟨i,1⟩ ⟨rfl,⟨0,0,bi,dt⟩,a7,O⟩ ?_;rintro _ k ⟨g,rfl,j,t1,o⟩;simp only at t1 o;have bn:=(o.get 2 dq).trans bk;have bl:=(o.get 0 dq).trans a8;have cb:k.size=3:=by rw[o.size,bu]
 have al:=λd=>(lY (b:=2) o.ok.hp dq d 2).trans (aq rfl);simp[bn,al];have C:TE i g 0 dz (dT k 2 (dA 15 2 [wT 0 g dz])):=by
  have v:=lY (b:=2) o.ok.hp dq (dA 15 2 [wT 0 g dz]);exact⟨(v 0).trans ((ao dq).trans bl),⟨2,(v 2).trans (aq rfl)⟩,t1.eq ((v 1).trans (ao dq)),gF.put ⟨o.ok.hp,o.ok.low,dq⟩ _ _⟩
 generalize dT k 2 _=Y at*
 refine fh 4 dq (λm e k=>(∃f:Int,TE i g f dz k/\0<=f/\f<=4*m)/\dB e 1 (dy B)/\dB e 4 (.ptr 0 0 0 0)/\dB e 5 (.ptr 1 0 0 0)/\dB e 6 (.ptr 2 0 0 0)/\dB e 26 (sl (g.count.map (T.int .i64)))/\dB e 27 (dy 4)/\dB e 28 (dy m)) ?_ ?_ dq ⟨⟨0,C,dq,dq⟩,by simp[h,l,j.n.2.2.2.2.2]⟩
 ·clear C q h l;rintro m e k bH ap ⟨⟨f,a,aN,aX⟩,h,l,G,z,N,E,F⟩;have av:(m:Int)<4:=dq;have R:m<g.count.length:=by have:=j.n.2.2.2.2.2;omega
  obtain⟨K,s⟩:=a.g2;have bC:=j.c g.count[m] (aF R);have W:binop .add (dy f) (dy g.count[m])=some (dy (f+g.count[m])):=yB rfl dq dq;simp[h,l,G,z,N,E,F,av,R,s,W,ap];exact⟨_,a.put _ _ _,dq,dq⟩
 clear C q h l;rintro e k ⟨⟨f,a,aN,aX⟩,h,l,G,z,N,E,F⟩;obtain⟨K,s⟩:=a.g2;have a6:min (B:Int) 16=B:=dq;simp[h,G,z,E,F,s,a6];obtain⟨bS,bT,b6,b7,b8,b9⟩:=j.n;refine gY ace dt ⟨i,1,g,jc,B,true⟩ ⟨rfl,a.tp,⟨a.ok.hp,a.ok.low,aw _⟩,O,an,S,(by decide:jc.dE.length=4),(by decide:jc.cells.length=5),(by decide:jc.fZ.length<=1000),j.fits,j.sm,dw⟩ ?_;rintro _ ca ⟨I,rfl,hl,Q,hr,t2,V⟩;simp only at hl hr t2 V;replace a:=a.tape t2 V;clear s;obtain⟨K,s⟩:=a.g2;have bz:=a.put (K+1) f (sl (I.map ed.t));have M:=λd=>(lY (b:=2) a.ok.hp (by have:=a.ok.sz;omega) d 2).trans (aq rfl);have aA:kL ⟨jc,f,g,I⟩:=j.win dq Q hr f;obtain⟨_,⟨bB,rfl⟩,ae⟩:=Do.use ⟨jc,f,g,I⟩ ⟨j.ask dq Q f,j.fits,dw⟩;simp[z,s,M,ae];have v:=λd X=>lY (b:=2) a.ok.hp (by have:=a.ok.sz;omega) d X;have L:=λd=>(v d 0).trans ((ao dq).trans a.g0);have Iu:=λd=>a.ok.put 2 d;have bs:=λd=>(Iu d).sz;have U:=λd J=>(lY (b:=0) (Iu d).hp (by have:=bs d;omega) J 0).trans (aq rfl);have bN:=λd J=>((Iu d).put 0 J).hp;refine dW (λA=> ?_) (λA=> ?_)
 ·have Z:=λ{tb:fy} (ht:tb.p 41=some nW)=>Cu ht jc dx dx dx dx;simp[l,Ku,Z,L,U];exact⟨⟨⟨jc,0,jF jc,[]⟩,rfl,TZ 0⟩,a.ok.hp⟩
 ·simp[l,z,M,L,U];exact⟨⟨_,rfl,aA⟩,a.ok.hp⟩
end
noncomputable section
open Go Go.TI
attribute [-simp] List.map_take List.map_drop List.map_append fw eQ dZ Bool.not_or Bool.not_and
attribute [simp] fq eY
def tX:gu:=⟨Bool,λa=>[.bool a],λ_=>True,λa=> dy (if a then 1 else 0),λc a b=>by simp at b;rw[b]⟩
def NB:tX.Ok Tryz.prog cx 250:=by
 refine gX (tb:=⟨pt [],ht []⟩) ew ej (iQ 13 [] Tryz.func250) (λ_=>5) (by simp[tX]) (by simp[tX,Tryz.f250]) ?_;rintro b _ c a;cases b<;>(simp[tX]at a|-;simp[Tryz.f250,a])
def Kw{b:fy}(ht:b.p 250=some tX)(a:Bool):rl Tryz.prog cx b 250 [.bool a]=some (dy (if a then 1 else 0)):=gU ht NB a trivial
def UQ(c:T):Prop:=∃(b:Int) (a:Bool),c= .tuple [dy b,.bool a]
def Ey(b:Int)(a:Bool):UQ (.tuple [dy b,.bool a]):=⟨b,a,rfl⟩
def Yy{b:ak}{c a:Int}(e:¬a=0):binop .quo (.int b c) (.int b a)=some (.int b (b.wrap (c.tdiv a))):=by
 have d:Qg a 0=false:=by rw[xp];simp[e]
 unfold binop;simp[wq,d]
def acy{a:ak}{b:Int}:unop .neg (.int a b)=some (.int a (a.wrap (0-b))):=by
 show pi a (0-b)=_;simp
def Gb:m6 Tryz.prog cx 233 (λa:Int×Int=>[dy a.1,dy a.2]) (λ_=>True) (λ_=>UQ):=by
 refine jd (tb:=⟨pt [(250,tX)],ht []⟩) ew ej (iQ 2291 [] Tryz.func233) (λ_=>5) (λa e b=>by simp at b;exact aP b.1 b.2) dt (by simp[Tryz.f233]) ?_;rintro⟨f,a⟩ _ g c;simp at c;simp[Tryz.f233,c]
 repeat' (refine dW (λd=> ?_) (λd=> ?_)<;>simp[d,c,Kw,Ey,acy])
def DA:m6 Tryz.prog cx 235 (λa:Int×Int×Int=>[dy a.1,dy a.2.1,dy a.2.2]) (λ_=>True) (λ_=>UQ):=by
 refine jd (tb:=⟨pt [(250,tX)],ht []⟩) ew ej (iQ 9690595855641090246329287 [] Tryz.func235) (λ_=>5) (λa e b=>by simp at b;exact aP b.1 (aP b.2.1 b.2.2)) dt (by simp[Tryz.f235]) ?_;rintro⟨g,a,e⟩ _ h c;simp at c;simp[Tryz.f235,c]
 repeat' (refine dW (λd=> ?_) (λd=> ?_)<;>simp[d,c,Kw,Ey,nJ,tU,Zb])
 all_goals (have f:¬e=0:=by simpa using d)
 all_goals simp [Yy f,yQ f,Ey]
def xe:m6 Tryz.prog cx 234 (λa:Int=>[dy a]) (λ_=>True) (λ_=>DJ):=by
 refine jd (tb:=⟨pt [],ht []⟩) ew ej (iQ 261 [] Tryz.func234) (λ_=>5) (λa e d=>by simpa using d) dt (by simp[Tryz.f234]) ?_;rintro a _ f b;simp at b;simp[Tryz.f234,b]
 repeat' (refine dW (λc=> ?_) (λc=> ?_)<;>simp[c,b])
end
end Go.Proofs.YtmaeadedikngoaaGreatDoor
