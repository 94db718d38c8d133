/- Texts X11 to W05. -/
import Derived.Test.YtmaeadedikngoaaGreatDoorA22
import Derived.Test.YtmaeadedikngoaaGreatDoorA24
set_option linter.all false
set_option maxRecDepth 100000
set_option maxHeartbeats 8000000
namespace Go.Proofs.YtmaeadedikngoaaGreatDoor
noncomputable section
open Go Go.TI
attribute [-simp] List.map_take List.map_drop List.map_append fG fg ei Bool.not_or Bool.not_and
attribute [simp] fF fh
attribute [-simp] size_cons
structure IBg where
 (L:List Int) (b:Nat)
def UD(a:IBg)(d:List T)(c:H):Prop:=d=[.ptr a.b 0 0 0,js.t]/\vm 0 a.L a.b c/\ig 0 c/\okB a.L
structure GQ(s:ej):Prop where
 n:s.fM.em.length=3/\s.fM.done.length=1/\s.fM.dK.length=4/\s.cells.length=5/\s.eg.length=1/\s.count.length=4
 c:∀c∈s.count,0<=c/\c<=4
 r:∀l∈s.fM.em,l.eJ.length<=1/\∀x∈l.eJ,0<=x/\x<4
def Jr(a:IBg)(g:List T)(e:H)(f:T)(c:H):Prop:=∃d:ej,f=d.t/\GQ d/\vm 0 a.L a.b c/\Sm a.b e c
def Q2{e:Type}{f:e->T}{R:T->T->Prop}{P:e->Prop}:∀{c:List T},(∀b∈c,∃a,R b (f a)/\P a)->∃d:List e,iB R c (d.map f)/\∀a∈d,P a:=by
 intro c;induction c with
 |nil=>intro _;exact⟨[],.nil,dA⟩
 |cons b c k=>
  intro g;obtain⟨a,hr,j⟩:=g b dA;obtain⟨d,hl,h⟩:=k λb i=>g b (by simp[i]);exact⟨a::d,.cons hr hl,by simpa[j]using h⟩
def zk.fin{w:List Int}{p:Nat}{g n:H}{bp:Nat}{d:A6}(b:zk w p g bp d n)(a8:ig 0 g)(G:p<g.size)(k:iZ)(ae:List T):yh g (.agg [d.c 0,dE d.tx,d.c 2,d.c 3,d.c 4,d.c 5,d.c 6]) (dY n (g.size+1) k) (Jr ⟨w,p⟩ ae g):=by
 have D:=λe=>dP b.rb k e;have l:∀(f u:Nat),d.F[f]? =some (d.c f,some (u,d.E f))->Gr (dY n (g.size+1) k) (d.c f) u (d.E f)/\∀e,dS (d.c f)=some e->g.size<=e:=λf u I=>by
  have C:=λe (o:dS (d.c f)=some e)=>b.fp e (b.s.By (ax I) o);exact⟨(b.s.gr f I).mono λe o=>by rw[D,ao (by have:=C e o;omega)],λe o=>by have:=C e o;omega⟩
 obtain⟨Y,a0,p0⟩:=Q2 (f:=ed.t) (R:=FT (dY n (g.size+1) k) (λe=>g.size<=e) 3) (P:=λm=>m.eJ.length<=1/\∀a∈m.eJ,0<=a/\a<4) λi j=>by
  obtain⟨Q,bC,rfl,aX⟩:=b.pr 0 i j;rcases aX with rfl|⟨a,v,rfl,r,bs,bu,bz,bB⟩
  ·exact⟨⟨Q,[]⟩,.inr (.inr ⟨_,_,rfl,.cons (fQ ..) (.cons (jh ..) .nil),rfl⟩),dA⟩
  ·have a6:a≠g.size+1:=λh=>by rw[h,b.rb]at r;simp[nD]at r
   have aN:Gr (dY n (g.size+1) k) (.arr a 0 0 1 false) 1 ([v].map (T.int .i64)):= .inr ⟨a,0,0,true,[dE v],rfl,by rw[D,ao a6];exact r,rfl⟩;exact⟨⟨Q,[v]⟩,.inr (.inr ⟨_,_,rfl,.cons (fQ ..) (.cons (aN.ft (d:=1) (λe h=>by simp at h;omega) (.cons (fQ ..) .nil)) .nil),rfl⟩),dB⟩
 obtain⟨U,x,_⟩:=uK (f:=T.bool) (P:=λ_=>True) λi j=>by
  obtain⟨a,h⟩:=b.pr 2 i j;exact⟨a,h,trivial⟩
 obtain⟨Z,y,_⟩:=uK (f:=dN.t) (P:=λ_=>True) λi j=>by
  obtain⟨a,h⟩:=b.pr 3 i j;exact⟨a,h,trivial⟩
 obtain⟨S,z,_⟩:=uK (f:=T.int .i64) (P:=λ_=>True) λi j=>by
  obtain⟨a,h,_⟩:=b.pr 4 i j;exact⟨a,h,trivial⟩
 obtain⟨W,A,_⟩:=uK (f:=T.int .i64) (P:=λ_=>True) λi j=>by
  obtain⟨a,h,_⟩:=b.pr 5 i j;exact⟨a,h,trivial⟩
 obtain⟨X,B,p6⟩:=uK (f:=T.int .i64) (P:=λO=>0<=O/\O<=4) λi j=>by
  obtain⟨a,h,bi⟩:=b.pr 6 i j;exact⟨a,h,bi rfl⟩
 have l0:=b.ln 0;have l2:=b.ln 2;have l3:=b.ln 3;have l4:=b.ln 4;have l5:=b.ln 5;have l6:=b.ln 6;have lk:=a0.length;rw[x]at l2;rw[y]at l3;rw[z]at l4;rw[A]at l5;rw[B]at l6;simp[YD]at l0 l2 l3 l4 l5 l6 lk;obtain⟨a7,al⟩:=l 0 2 rfl;obtain⟨J,an⟩:=l 2 1 rfl;obtain⟨K,ap⟩:=l 3 3 rfl;obtain⟨L,av⟩:=l 4 1 rfl;obtain⟨M,aA⟩:=l 5 1 rfl;obtain⟨N,aE⟩:=l 6 1 rfl;rw[x]at J;rw[y]at K;rw[z]at L;rw[A]at M;rw[B]at N;have q:∀m:List Int,iB (FT (dY n (g.size+1) k) (λe=>g.size<=e) 3) (m.map (T.int .i64)) (m.map (T.int .i64)):=λm=>wQ λa=>fQ ..;exact(b.tw.put b.rb dA (by simpa using G) k).cut a8 G (FT.top (V:=λe=>g.size<=e) (d:=4) dz (λ_ h=>h) (.cons (a7.ft al a0) (.cons (fQ ..) (.cons (J.ft an (wQ λa=>LW ..)) (.cons (K.ft ap (wQ λa=> .inr (.inr ⟨a.cs,a.cs,rfl,.cons (fQ ..) (.cons (fQ ..) (.cons (LW ..) .nil)),rfl⟩))) (.cons (L.ft av (q _)) (.cons (M.ft aA (q _)) (.cons (N.ft aE (q _)) .nil)))))))) λbk bn=>
  ⟨⟨⟨Y,d.tx,U,Z⟩,S,W,X⟩,rfl,⟨⟨dC,l2,l3,l4,l5,l6⟩,p6,p0⟩,bn,bk⟩
def adZ:(jw IBg UD Jr).Ok Tryz.prog cx 38:=by
 refine qN (tb:=⟨pt [],ht [(63,kH),(41,jw d8 Ju Jj),(64,jw TO p8 ow)]⟩) fa eQ (iR 39027670543808336620727472465805308762228731 [(10,[(1,4)]),(11,[(2,5)]),(27,[(1,3)]),(31,[(1,4)])] Tryz.func38) (λ_ _=>10) (λy a A eB=>by obtain⟨rfl,_⟩:=eB;simp[Tryz.f38]) ?_;rintro⟨V,r⟩ _ A ⟨rfl,eO,fi,bi⟩ h e9;simp only at eO bi;simp at e9;obtain⟨i,er⟩:=e9;have D:=eO.tp.lt;have hH:(r=A.size)=False:=dB;have hI:(r=A.size+1)=False:=dB;have bp:=((sY.refl fi.hr (eO.eq (gh A r))).cons (dG 6 0 [js.t])).cons nD;simp[Tryz.f38,er];generalize c4:((TI.hr A).cons _).cons _=X;replace bp:sY 0 V r (TI.hr A) X:=by rw[<-c4];exact bp
 have hO:X.size=A.size+2:=by rw[<-c4];simp[size_cons]
 have fA:X.get (A.size+1)=some nD:=by rw[<-c4];simp[nD,size_cons]
 clear c4;refine iq aan dA js ⟨rfl,bp.w.ok,dD,dD,dD,dD⟩ ?_;rintro _ ap ⟨eR,eS,eU,eV,eW,eX,rfl,k,hK,bS,eh,c9,b7⟩;have hN:=c9.sz;have eE:=c9.low;simp[eE,(bS.gr 6 rfl).len (cx:=cx)];have ha:∀C,Fp ap k C->C≠r:=λC U O=>by have:=eh C U;omega
 generalize bN:ap.cons _=ca;have eF:ig 0 ca:=by rw[<-bN];exact ig.cons ⟨c9.hp,eE,aw _⟩ _
 have aA:∀C,ca.get C=if C=ap.size then some (dG 7 1 [.agg [eR,dE (-1),eS,eU,eV,eW,eX]])else ap.get C:=λC=>by rw[<-bN,dV]
 have fB:ca.size=ap.size+1:=by rw[<-bN,size_cons]
 clear bN;have eM:=λC (U:Fp ap k C)=>bS.fp C U;obtain⟨ds,dk⟩:∃ds,zk V r A ap.size ds ca:=by
  refine⟨⟨1,-1,λp=>if p=0 then eR else if p=2 then eS else if p=3 then eU else if p=4 then eV else if p=5 then eW else eX,λp=>if p=0 then(List.replicate 3 ()).map yq else if p=2 then [false].map T.bool else if p=3 then(zp 4).map dN.t else if p=4 then [0,1,0,0,0].map (T.int .i64)else if p=6 then(List.replicate 4 0).map (T.int .i64)else(List.replicate 1 0).map (T.int .i64)⟩,?_,⟨⟨eF,dB,λC U c6=> ?_,?_⟩,?_⟩,?_,?_,λp=> ?_,λp e J=> ?_⟩
  ·exact bS.copy eF (by rw[aA,aq rfl];rfl) λC U=>by rw[aA,ao (by have:=eM C U;omega)]
  ·have U:C<A.size:=by simpa using U
   exact(aA C).trans ((ao dz).trans ((b7 C dz).trans (bp.w.get C (by simpa using U) c6)))
  ·exact bp.w.tp.eq ((aA r).trans ((ao dz).trans (b7 r dz)))
  ·exact bp.g.eq ((aA r).trans ((ao dz).trans (b7 r dz)))
  ·intro C U;rcases(bS.copy eF (by rw[aA,aq rfl];rfl) λC U=>by rw[aA,ao (by have:=eM C U;omega)]:nW ca ap.size 7 1 _)with⟨_,gv,_,_⟩;rcases U with rfl|⟨x,eD,v,gV,O⟩
   ·omega
   ·rw[gv]at eD;simp only[ar]at eD;subst eD;have:=eh C (.inr ⟨_,bS.get,v,gV,O⟩);omega
  ·exact(aA _).trans ((ao dz).trans ((b7 _ dz).trans fA))
  ·unfold YD;by_cases b8:p=0
   ·subst b8;rfl
   by_cases a6:p=2
   ·subst a6;rfl
   by_cases b9:p=3
   ·subst b9;rfl
   by_cases fl:p=4
   ·subst fl;rfl
   by_cases fo:p=6
   ·subst fo;rfl
   simp[b8,a6,b9,fl,fo]
  ·unfold Tx;by_cases b8:p=0
   ·subst b8;simp at J;subst J;exact⟨_,_,rfl,.inl rfl⟩
   by_cases a6:p=2
   ·subst a6;simp at J;subst J;exact⟨_,rfl⟩
   by_cases b9:p=3
   ·subst b9;simp only[ao (show¬(3:Nat)=0 by decide),ao (show¬(3:Nat)=2 by decide),aq]at J|-;obtain⟨t,_,rfl⟩:=List.mem_map.1 J;exact⟨t,rfl⟩
   simp only[ao b8,ao a6,ao b9]at J|-;have:∃l:List Int,e∈l.map (T.int .i64)/\(p=6->l=List.replicate 4 0):=by
    split at J
    ·exact⟨_,J,λO=>by omega⟩
    split at J
    ·exact⟨_,J,λ_=>rfl⟩
    ·exact⟨_,J,λO=>by omega⟩
   obtain⟨l,hl,c1⟩:=this;obtain⟨Q,c6,rfl⟩:=List.mem_map.1 hl;refine⟨Q,rfl,λO=> ?_⟩;rw[c1 O]at c6;simp at c6;omega
 clear bS eh c9 b7 eE ha aA fB eM bp fA;have fB:A.size+2<=ap.size:=dz;generalize ap.size=G at*
 refine fy 4 dz (λy h B=>(∃d,zk V r A G d B)/\dH h 0 (.ptr r 0 0 0)/\dH h 4 (.ptr (A.size+1) 0 0 0)/\dH h 5 (.ptr G 0 0 0)/\dH h 15 (dE 4)/\dH h 16 (dE y)) ?_ ?_ dz ⟨⟨ds,dk⟩,by simp[i,show(js.dK.length:Int)=4 from rfl]⟩
 ·clear dk i er;rintro y h B bu aX ⟨⟨d,b⟩,i,q,n,Z,ae⟩;have gI:(y:Int)<4:=dz;obtain⟨p,bT,I,fe,a7,R⟩:=(b.cons (dG 1 0 [dE 2,dE 2,dE 2,dE 2,dE 0,dE 1,dE 3,dE 4,dE 5])).tw.next (tb:=⟨pt [],ht [(63,kH),(41,jw d8 Ju Jj),(64,jw TO p8 ow)]⟩) dA bi 9 dz dz;have hP:=b.NE;have ce:=(b.cons _).tape R (a7.g.le (aw _)) D;have e5:=(R.get B.size dz).trans (by rw[dV,aq rfl]);obtain⟨fs,e4⟩:∃fs:Int,∀fe,([dE 2,dE 2,dE 2,dE 2,dE 0,dE 1,dE 3,dE 4,dE 5]:List T)[p]'fe= dE fs:=by
   rcases(by omega:p=0\/p=1\/p=2\/p=3\/p=4\/p=5\/p=6\/p=7\/p=8)with rfl|rfl|rfl|rfl|rfl|rfl|rfl|rfl|rfl<;>exact⟨_,λ_=>rfl⟩
  have gQ:p<9:=dz;simp[i,Z,ae,gI,I,e5,e4,gQ];refine ll (λh hq=>bT=hq/\(∃eN,dH h 7 (dE eN))/\dH h 0 (.ptr r 0 0 0)/\dH h 4 (.ptr (A.size+1) 0 0 0)/\dH h 5 (.ptr G 0 0 0)/\dH h 6 (dE y)/\dH h 15 (dE 4)/\dH h 16 (dE y)) (λN=>by simp[i,q,n,Z,ae]) (λN=>by simp[i,q,n,Z,ae]) ?_;clear I e5 e4 a7 R i q n Z ae;rintro h _ ⟨rfl,⟨eN,gw⟩,i,q,n,c1,Z,ae⟩;have k:=ce.s.get;simp[A6.F]at k;obtain⟨bB,cp,dd,cL,de,_,av,al,M,an,t,rfl⟩:=ce.ld 3 rfl (te:=AE) rfl (j:=y) bu;have bn:=ce.st D 3 rfl av M y (dN.t ⟨eN,0,false⟩) rfl ⟨_,rfl⟩;simp[n,c1,gw,k,al,M,an];clear ce k al M an av;generalize d.N1 3 _=dv at bn;generalize dY bT _ _=di at*
  refine ee (λN=> ?_) (λN=> ?_)
  ·obtain⟨bk,S,I,eA,bs,bz⟩:=bn.tw.next (tb:=⟨pt [],ht [(63,kH),(41,jw d8 Ju Jj),(64,jw TO p8 ow)]⟩) dA bi 3 dz dz;have W:=bn.tape bz (bs.g.le (aw _)) D;have Y:=bn.s.get;have a8:=W.s.get;simp[A6.F]at Y a8;obtain⟨bB,cp,dd,cL,de,_,av,al,M,an,Q,rfl,_⟩:=W.ld 6 rfl (te:=Dw) rfl (j:=y) bu;have fS:binop .add (dE 1) (dE (bk:Int))=some (dE (1+bk)):=zf rfl dz dz;have sv:fc di S G=true:=fk (a8.trans Y.symm);have L:=W.st D 6 rfl av M y (dE (1+bk)) rfl ⟨_,rfl,λ_=>by omega⟩;generalize gy:dY S bB _=hs at L;generalize dv.N1 6 _=hA at L;obtain⟨gZ,hv,gg,hD,fL,hf⟩:=L.tw.next (tb:=⟨pt [],ht [(63,kH),(41,jw d8 Ju Jj),(64,jw TO p8 ow)]⟩) dA bi 4 dz dz;have dm:=L.tape hf (fL.g.le (aw _)) D;have eo:=L.s.get;have e6:=dm.s.get;simp[A6.F]at eo e6;obtain⟨hy,hB,hL,hC,hM,_,gz,gd,e7,gi,t,rfl⟩:=dm.ld 3 rfl (te:=AE) rfl (j:=y) bu;have hg:fc hs hv G=true:=fk (e6.trans eo.symm);have fE:=dm.st D 3 rfl gz e7 y (dN.t ⟨t.iL,t.cond,decide ((gZ:Int)=3)⟩) rfl ⟨_,rfl⟩;simp[i,q,n,c1,Z,ae,Y,I,fS,al,M,an,sv,gy,eo,gg,gd,e7,gi,hg,aX];exact⟨_,fE⟩
  ·simp[i,q,n,Z,ae,aX];exact⟨dv,bn⟩
 clear dk i er;rintro h B ⟨⟨d,b⟩,i,q,n,Z,ae⟩;have k:=b.s.get;simp[A6.F]at k;have l0:=b.ln 0;simp[n,Z,ae,k,(b.s.gr 0 rfl).len (cx:=cx),l0,YD];refine fy 3 dz (λy h B=>(∃d,zk V r A G d B)/\dH h 0 (.ptr r 0 0 0)/\dH h 4 (.ptr (A.size+1) 0 0 0)/\dH h 5 (.ptr G 0 0 0)/\dH h 63 (dE 3)/\dH h 64 (dE y)) ?_ ?_ dz ⟨⟨d,b⟩,by simp[i,q,n]⟩
 ·clear b k l0 i q n Z ae;rintro y h B bu aX ⟨⟨d,b⟩,i,q,n,aE,aN⟩;have gE:(y:Int)<3:=dz;have k:=b.s.get;simp[A6.F]at k;simp[i,n,aE,aN,gE,k];obtain⟨K,bH,e8⟩:=uK (f:=T.int .i64) (P:=λQ=>0<=Q/\Q<=4) λe J=>by
   obtain⟨Q,eH,a6⟩:=b.pr 6 e J;exact⟨Q,eH,a6 rfl⟩
  have b6:K.length=4:=by rw[<-aG (f:=T.int .i64),<-bH];exact b.ln 6
  have bC:=b.s.gr 6 rfl;rw[bH]at bC;have c7:dS (d.c 6)≠some r:=λO=>by have:=b.fp r (b.s.By (f:=(d.c 6,some (1,d.E 6))) (by simp[A6.F]) O);omega
  refine iq K8 dA ⟨V,r,0,d.c 0,dE d.tx,d.c 2,d.c 3,d.c 4,d.c 5,d.c 6,K⟩ ⟨rfl,b.tw.g,b.tw.w.ok,bi,dC,bC,c7,dA⟩ ?_;rintro _ bT ⟨u,rfl,fv,eP,t1,R⟩;replace b:=b.tape R t1 D;simp only[b6]at eP;clear bC c7 bH b6 e8 k t1 R;simp;refine ee (λN=> ?_) (λN=> ?_)
  ·simp[i,q,n,aE,aN,aX];exact⟨d,b⟩
  obtain⟨m,rfl⟩:∃m:Nat,u=m:=⟨u.toNat,by simp at N;omega⟩;have gS:m<4:=dz;clear N fv eP;by_cases gB:y=2
  ·subst gB;have e0:binop .add (dE 2) (dE 1)=some (dE 3):=by simpa using aX
   obtain⟨bk,S,I,eA,bs,bz⟩:=b.tw.next (tb:=⟨pt [],ht [(63,kH),(41,jw d8 Ju Jj),(64,jw TO p8 ow)]⟩) dA bi 2 dz dz;replace b:=b.tape bz (bs.g.le (aw _)) D;simp[i,I];have dn:=b.cons (dG 1 0 [dE m]);obtain⟨bB,cp,dd,cL,de,_,av,al,M,an,o,eL,rfl,eC⟩:=b.ld 0 rfl (te:=GV) rfl (j:=2) dD;obtain⟨fX,gj,hh,gm,hn,_,fb,ea,cX,ec,hc,hJ,rfl,hF⟩:=dn.ld 0 rfl (te:=GV) rfl (j:=2) dD;have k:=b.s.get;have gp:=dn.s.get;simp[A6.F]at k gp;refine ee (λN=> ?_) (λN=> ?_)
   ·have hb:¬Fp (S.cons (dG 1 0 [dE m])) G S.size:=λO=>by
     have e:(S.cons (dG 1 0 [dE m])).get G=S.get G:=by rw[dV,ao (by have:=b.s.lt;omega)]
     rw[iW e]at O;have:=b.s.fp _ O;omega
    have L:=dn.st D 0 rfl fb cX 2 (.agg [dE hc,.arr S.size 0 0 1 false]) rfl ⟨_,_,rfl,.inr ⟨S.size,m,rfl,by rw[dV,aq rfl],dz,dz,hb,by have:=b.NE;omega⟩⟩;have hG:(G=S.size)=False:=by have:=b.s.lt;simp;omega
    simp[i,q,n,aE,aN,k,ea,cX,ec,e0];exact⟨_,L⟩
   ·have L:=b.st D 0 rfl av M 2 (.agg [dE m,eL]) rfl ⟨_,_,rfl,eC⟩;simp[i,q,n,aE,aN,k,al,M,an,e0];exact⟨_,L⟩
  ·obtain⟨bB,cp,dd,cL,de,_,av,al,M,an,o,eL,rfl,eC⟩:=b.ld 0 rfl (te:=GV) rfl (j:=y) bu;obtain⟨fX,gj,hh,gm,hn,_,fb,ea,cX,ec,t,rfl⟩:=b.ld 3 rfl (te:=AE) rfl (j:=m) gS;have k:=b.s.get;simp[A6.F]at k;have L:=b.st D 0 rfl av M y (.agg [dE m,eL]) rfl ⟨_,_,rfl,eC⟩;simp[n,show¬(y:Int)=2 by omega,k,ea,cX,ec];refine ee (λN=> ?_) (λN=> ?_)
   ·simp[i,q,n,aE,aN,aX];exact⟨d,b⟩
   ·simp[i,q,n,aE,aN,k,al,M,an,aX];exact⟨_,L⟩
 clear b k l0 i q n Z ae;rintro h B ⟨⟨d,b⟩,i,q,n,aE,aN⟩;have cb:=λ{B:H} {d:A6} (b:zk V r A G d B)=>b.tw.next (tb:=⟨pt [],ht [(63,kH),(41,jw d8 Ju Jj),(64,jw TO p8 ow)]⟩) dA bi;have fC:∀{B:H} {d:A6},zk V r A G d B->∃K:List Int,p8 ⟨V,r,0,d.c 0,dE d.tx,d.c 2,d.c 3,d.c 4,d.c 5,d.c 6,K⟩ [.ptr r 0 0 0,.agg [d.c 0,dE d.tx,d.c 2,d.c 3,d.c 4,d.c 5,d.c 6]] B/\K.length=4:=λ{B d} b=>by
  obtain⟨K,bH,e8⟩:=uK (f:=T.int .i64) (P:=λQ=>0<=Q/\Q<=4) λe J=>by
   obtain⟨Q,eH,a6⟩:=b.pr 6 e J;exact⟨Q,eH,a6 rfl⟩
  have b6:K.length=4:=by rw[<-aG (f:=T.int .i64),<-bH];exact b.ln 6
  have bC:=b.s.gr 6 rfl;rw[bH]at bC;have c7:dS (d.c 6)≠some r:=λO=>by have:=b.fp r (b.s.By (f:=(d.c 6,some (1,d.E 6))) (by simp[A6.F]) O);omega
  exact⟨K,⟨rfl,b.tw.g,b.tw.w.ok,bi,dC,bC,c7,dA⟩,b6⟩
 obtain⟨gX,bT,I,gP,a7,R⟩:=cb b 3 dz dz;replace b:=b.tape R (a7.g.le (aw _)) D;simp[i,aE,aN,I];clear I a7 R;refine ll (λh B=>(∃d,zk V r A G d B)/\dH h 0 (.ptr r 0 0 0)/\dH h 4 (.ptr (A.size+1) 0 0 0)/\dH h 5 (.ptr G 0 0 0)) (λN=> ?_) (λN=> ?_) ?_
 ·have k:=b.s.get;simp[A6.F]at k;obtain⟨K,eB,b6⟩:=fC b;simp[i,n,k];refine iq K8 dA _ eB ?_;rintro _ di ⟨u,rfl,fv,eP,t1,R⟩;replace b:=b.tape R t1 D;have k:=b.s.get;simp[A6.F]at k;have bn:=b.tx D u;simp[i,q,n,k];exact⟨_,bn⟩
 ·simp[i,q,n];exact⟨d,b⟩
 clear b i q n aE aN;rintro h B ⟨⟨d,b⟩,i,q,n⟩;obtain⟨gX,bT,I,gP,a7,R⟩:=cb b 3 dz dz;replace b:=b.tape R (a7.g.le (aw _)) D;simp[i,I];clear I a7 R;refine ll (λh B=>(∃d,zk V r A G d B)/\dH h 0 (.ptr r 0 0 0)/\dH h 4 (.ptr (A.size+1) 0 0 0)/\dH h 5 (.ptr G 0 0 0)) (λN=> ?_) (λN=> ?_) ?_
 ·have k:=b.s.get;simp[A6.F]at k;obtain⟨bB,cp,dd,cL,de,_,av,al,M,an,o,rfl⟩:=b.ld 2 rfl (te:=Y8) rfl (j:=0) dD;replace b:=b.st D 2 rfl av M 0 (.bool true) rfl ⟨_,rfl⟩;generalize bN:dY bT bB _=di at b;generalize d.N1 2 _=dv at b;obtain⟨bk,S,I,eA,bs,bz⟩:=cb b 3 dz dz;have W:=b.tape bz (bs.g.le (aw _)) D;have Y:=b.s.get;have a8:=W.s.get;simp[A6.F]at Y a8;obtain⟨fY,gk,hj,gn,ho,_,ey,eb,bX,ef,Q,rfl,_⟩:=W.ld 5 rfl (te:=GR) rfl (j:=0) dD;have sv:fc di S G=true:=fk (a8.trans Y.symm);have L:=W.st D 5 rfl ey bX 0 (dE bk) rfl ⟨_,rfl,λO=>by omega⟩;simp[i,q,n,k,al,M,an,bN,Y,I,eb,bX,ef,sv];exact⟨_,L⟩
 ·simp[i,q,n];exact⟨d,b⟩
 clear b i q n;rintro h B ⟨⟨d,b⟩,i,q,n⟩;have k:=b.s.get;simp[A6.F]at k;have l4:=b.ln 4;simp[n,k,(b.s.gr 4 rfl).len (cx:=cx),l4,YD];refine fy 5 dz (λy h B=>(∃d,zk V r A G d B)/\dH h 0 (.ptr r 0 0 0)/\dH h 4 (.ptr (A.size+1) 0 0 0)/\dH h 5 (.ptr G 0 0 0)/\dH h 142 (dE 5)/\dH h 143 (dE y)) ?_ ?_ dz ⟨⟨d,b⟩,by simp[i,q,n]⟩
 ·clear b k l4 i q n;rintro y h B bu aX ⟨⟨d,b⟩,i,q,n,et,eu⟩;have gM:(y:Int)<5:=dz;obtain⟨bk,S,I,eA,bs,bz⟩:=cb b 3 dz dz;have W:=b.tape bz (bs.g.le (aw _)) D;have Y:=b.s.get;have a8:=W.s.get;simp[A6.F]at Y a8;obtain⟨fY,gk,hj,gn,ho,_,ey,eb,bX,ef,Q,rfl,_⟩:=W.ld 4 rfl (te:=GR) rfl (j:=y) bu;have sv:fc B S G=true:=fk (a8.trans Y.symm);have L:=W.st D 4 rfl ey bX y (dE bk) rfl ⟨_,rfl,λO=>by omega⟩;simp[i,q,n,et,eu,gM,Y,I,eb,bX,ef,sv,aX];exact⟨_,L⟩
 clear b k l4 i q n;rintro h B ⟨⟨d,b⟩,i,q,n,et,eu⟩;have k:=b.s.get;have eI:=b.rb;unfold nD at eI;simp[A6.F]at k;have hd:=λz=>(dP eI z (A.size+1)).trans (aq rfl);simp[q,n,et,eu,k,eI,hd];exact b.fin fi D _ _
end
noncomputable section
open Go Go.TI
attribute [-simp] List.map_take List.map_drop List.map_append fG fg ei Bool.not_or Bool.not_and
attribute [simp] fF fh
def Xz(a:Nat)(d:H)(e:T)(g:List (List Int)):Prop:=∃c,Gr d e 1 c/\dS e≠some a/\iB (λb f=>Gr d b 1 (f.map (T.int .i64))/\dS b≠some a) c g
structure IEv where
 (L:List Int) (b p:Nat) (s:ej) (w:d8) (rv:T) (rs:List (List Int))
def On(a:IEv)(d:List T)(c:H):Prop:=d=[.ptr a.b 0 0 0,a.s.t,a.w.t,a.rv]/\vm a.p a.L a.b c/\ig 0 c/\okB a.L/\Xz a.b c a.rv a.rs/\a.rs.length=4/\(∀e∈a.rs,e.length<=1000)/\a.s.cells.length=5/\1<=a.s.eg.length/\a.s.fM.dK.length<=98/\a.w.cells.length=5
def Ft(a:IEv)(g:List T)(e:H)(f:T)(d:H):Prop:=∃c:ez,f=c.t/\c.mN.length<=1000/\c.vh.length<=1000/\vm (a.p+1) a.L a.b d/\Sm a.b e d
def Xh{a:fJ}(ht:a.p 99=some tg):rl Tryz.prog cx a 99 []=some (sl (vS.map (T.int .i64))):=im ht Sf () trivial
def MY{i:Nat}(c:i<43):∃a:Int,vS[i]? =some a/\1<=a/\a<=23:=by
 have b:∀a∈vS,1<=a/\a<=23:=dD;exact⟨vS[i]'c,az _,b _ (aC _)⟩
abbrev Na(f c d g e:Int)(a b:T):T:= .agg [dE f,dE c,dE d,dE g,dE e,a,b]
structure Rn(p:Nat)(L:List Int)(b:Nat)(h:H)(s:ej)(w:d8)(h':H)(x:T):Prop where
 tw:sY p L b (TI.hr h) h'
 g0:h'.get h.size=some (dG 7 0 [s.t])
 g1:h'.get (h.size+1)=some (dG 6 0 [w.t])
 g2:h'.get (h.size+2)=some (dG 7 0 [Na 0 0 0 0 0 dF dF])
 g3:∃ver,h'.get (h.size+3)=some (dG 7 ver [x])
def Rn.call{m h:Nat}{d:List Int}{a:Nat}{e:H}{i:ej}{j:d8}{g f:H}{k:T}(b:Rn m d a e i j g k)(c:Sm a g f)(n:vm h d a f)(p:a<e.size):Rn h d a e i j f k:=by
 obtain⟨o,l⟩:=b.g3;exact⟨b.tw.call c n,(c.get _ dz).trans b.g0,(c.get _ dz).trans b.g1,(c.get _ dz).trans b.g2,o,(c.get _ dz).trans l⟩
def Rn.put{k:Nat}{h:List Int}{e:Nat}{d:H}{l:ej}{m:d8}{j:H}{x:T}(a:Rn k h e d l m j x)(o:e<d.size)(f:Nat)(g:T):Rn k h e d l m (dY j (d.size+3) (dG 7 f [g])) g:=by
 obtain⟨p,i⟩:=a.g3;have b:=λc=>dP i (dG 7 f [g]) c;exact⟨a.tw.put i dA (by simpa using o) _,by rw[b,ao dz];exact a.g0,by rw[b,ao dz];exact a.g1,by rw[b,ao dz];exact a.g2,f,by rw[b,aq rfl]⟩
def Rn.rd{g:Nat}{d:List Int}{e:Nat}{a:H}{h:ej}{i:d8}{c:H}{j:T}(f:Rn g d e a h i c j)(b:iZ):(dY c (a.size+2) b).get (a.size+2)=some b:=(dP f.g2 b (a.size+2)).trans (aq rfl)
def Ds(a:T):Prop:=a.il=true/\a.cells=[a]/\∃b:List Int,b.length<=1000/\∀d c,FT d c 1 a (sl (b.map (T.int .i64)))
def Ds.nil:Ds dF:=⟨rfl,rfl,[],dA,λb a=>jh ..⟩
def Ds.sl{a:List Int}(b:a.length<=1000):Ds (TI.sl (a.map (T.int .i64))):=⟨dA,dA,a,b,λb d=>pj _ _ _ λe c=>by obtain⟨f,_,rfl⟩:=List.mem_map.1 c;simp⟩
def adY:(jw IEv On Ft).Ok Tryz.prog cx 65:=by
 refine qN (tb:=⟨pt [(99,tg)],ht [(63,kH),(100,jw IN zR sM),(101,jw IL zQ sL),(102,jw A5 uD t8)]⟩) fa eQ (iR 618988909108621684749897583 [(3,[(6,11),(7,11),(5,14),(11,14)])] Tryz.func65) (λ_ _=>5) (λi a b aN=>by obtain⟨rfl,_⟩:=aN;simp[Tryz.f65]) ?_;rintro⟨B,h,v,M,E,ap,eo⟩ _ b ⟨rfl,bH,ef,U,dk,eS,bi,eU,dm,dn,eX⟩ K c9;simp only at bH U dk eS bi eU dm dn eX;simp at c9;obtain⟨C,c6,c7,N⟩:=c9;have p:=bH.tp.lt;have fS:(h=b.size)=False:=dB;have fX:(h=b.size+1)=False:=dB;have fY:(h=b.size+2)=False:=dB;have eu:=(((sY.refl ef.hr (bH.eq (gh b h))).cons (dG 7 0 [M.t])).cons (dG 6 0 [E.t])).cons (dG 7 0 [.agg [dE 0,dE 0,dE 0,dE 0,dE 0,dF,dF]]);obtain⟨c,eB,ca,fL,ey,y⟩:=eu.next (tb:=⟨pt [(99,tg)],ht [(63,kH),(100,jw IN zR sM),(101,jw IL zQ sL),(102,jw A5 uD t8)]⟩) dA U 4 dz dz;have b6:=λ{a7:H} {v:Nat} (E:sY v B h (TI.hr b) a7)=>E.next (tb:=⟨pt [(99,tg)],ht [(63,kH),(100,jw IN zR sM),(101,jw IL zQ sL),(102,jw A5 uD t8)]⟩) dA U;obtain⟨k,eC,cb,fE,eA,X⟩:=b6 ey vS.length dD dD;obtain⟨j,cp,e0,e4⟩:=MY (i:=k) (by have:vS.length=43:=rfl;omega);obtain⟨W,av,ce,de,bT,bz⟩:=b6 eA 6 dz dz;obtain⟨bC,eW⟩:∃x:Int,(c:Int)*6=x:=⟨_,rfl⟩;obtain⟨bB,eV⟩:∃x:Int,bC+W=x:=⟨_,rfl⟩;have ec:binop .mul (dE (c:Int)) (dE 6)=some (dE bC):=by rw[aaJ,<-jF,jI dz dz,eW]
 have b8:binop .add (dE bC) (dE (W:Int))=some (dE bB):=zf eV dz dz;have fC:eB.size=b.size+3:=by rw[y.size];rfl
 have bX:av.size=b.size+3:=by rw[bz.size,X.size,fC]
 have er:fc eB eC (b.size+3)=true:=jd (lz _ dz);have et:fc eC av (b.size+3)=true:=jd (lz _ (by rw[X.size];omega));have eb:=bT.w.ok.low;rw[bX]at eb;have G:∀r,r<b.size+3->r≠h->av.get r=((((TI.hr b).cons (dG 7 0 [M.t])).cons (dG 6 0 [E.t])).cons (dG 7 0 [Na 0 0 0 0 0 dF dF])).get r:=λr a8 an=>(bz.get r an).trans ((X.get r an).trans (y.get r an));have D:Rn (v+1) B h b M E (av.cons (dG 7 1 [Na c j 0 0 bB dF dF])) (Na c j 0 0 bB dF dF):=
  ⟨(bT.le dz).cons _,by rw[dV,ao dz,G _ dz dz];simp,by rw[dV,ao dz,G _ dz dz];simp,by rw[dV,ao dz,G _ dz dz];simp,1,by rw[dV,aq bX.symm]⟩
 simp[Tryz.f65,C,c6,c7,ca,Xh,cb,ce,cp,ec,b8,bX,er,et,eb];clear ca cb ce y X bz eu ey eA bT ec b8 G cp er et;generalize av.cons _=gg at*
 refine ll (λK a7=>(∃z,Rn (v+1) B h b M E a7 (Na c j 0 0 z dF dF))/\dH K 0 (.ptr h 0 0 0)/\dH K 3 ap/\dH K 5 (.ptr b.size 0 0 0)/\dH K 6 (.ptr (b.size+1) 0 0 0)/\dH K 8 (.ptr (b.size+2) 0 0 0)/\dH K 9 (dE c)/\dH K 11 (.ptr (b.size+3) 0 0 0)) (λeR=> ?_) (λeR=> ?_) ?_
 ·obtain⟨A,m⟩:=D.g3;simp[C,N,m];exact⟨_,D.put p _ _⟩
 ·simp[C,N];exact⟨_,D⟩
 clear D C c6 c7 N;rintro K o ⟨⟨z,D⟩,C,N,eN,eO,aA,aE,s⟩;obtain⟨A,m⟩:=D.g3;simp[C,aE,s,m];refine iq aar dA ⟨B,h,v+1,j,c⟩ ⟨rfl,D.tw.g,D.tw.w.ok,U,dC,dC,e0,e4⟩ ?_;rintro _ fs ⟨q,rfl,gd,bu,t1,y⟩;have l:=D.call y t1 p;clear D m;obtain⟨A,m⟩:=l.g3;simp[C,eN,s,m];replace l:=l.put p (A+1) (Na c j q 0 z dF dF);generalize dY fs _ _=Y at*
 clear y t1 m;obtain⟨A,m⟩:=l.g3;have c1:=l.g0;simp[s,m,c1];refine iq aam dA ⟨B,h,v+1,M,j,q⟩ ⟨rfl,l.tw.g,l.tw.w.ok,U,λO=>by have:=bu (.inl O);simp only;omega,dm,dn⟩ ?_;rintro _ fv ⟨n,rfl,t1,y⟩;replace l:=l.call y t1 p;clear m c1;obtain⟨A,m⟩:=l.g3;simp[s,m];replace l:=l.put p (A+1) (Na c j q n z dF dF);generalize dY fv _ _=fA at*
 clear y t1 m;obtain⟨A,m⟩:=l.g3;have eH:=l.g1;obtain⟨L,eM,e7,b9⟩:=dk;have dd:c<L.length:=by rw[b9.length];omega
 obtain⟨bs,di,cL,cX⟩:∃bs∈eo,Gr b L[c] 1 (bs.map (T.int .i64))/\dS L[c]≠some h:=b9.HO (aC dd);have b7:∀o,sY (v+1) B h (TI.hr b) o->∃R S A Z F,∃(u:List Int) (Y:H),kK o nH ap c=some (.val (.ptr R S c 0) o)/\o.get R=some ⟨1,S,A,Z,false,F⟩/\F[c]? =some L[c]/\hl Tryz.prog cx ⟨pt [(99,tg)],ht [(63,kH),(100,jw IN zR sM),(101,jw IL zQ sL),(102,jw A5 uD t8)]⟩ 102 [.ptr h 0 0 0,L[c]] o=some (sl (u.map (T.int .i64)),Y)/\u.length<=1000/\vm (v+1) B h Y/\Sm h o Y:=λo bN=>by
  have eh:∀(n:T) F,Gr b n 1 F->dS n≠some h->Gr o n 1 F:=λn F g an=>g.mono λr a8=>by
   obtain⟨_,_,_,_,O,_⟩:=g.box a8;exact(bN.w.get r (H.ew O) λe=>an (by rw[<-e];exact a8)).trans (gh b r)
  obtain⟨R,S,A,Z,F,_,eE,eL,eF⟩:=(eh ap L eM e7).JS (te:=nH) rfl dd;have aN:uD ⟨B,h,v+1,L[c],bs⟩ [.ptr h 0 0 0,L[c]] o:=⟨rfl,eh _ _ cL cX,cX,bN.g,bN.w.ok,U,bi _ di⟩;obtain⟨_,Y,e,O⟩:=ET (tb:=⟨pt [(99,tg)],ht [(63,kH),(100,jw IN zR sM),(101,jw IL zQ sL),(102,jw A5 uD t8)]⟩) dA VT ⟨_,aN⟩;obtain⟨u,rfl,e8,e9,fb⟩:=O _ aN;exact⟨R,S,A,Z,F,u,Y,eE,eL,eF,e,aS e8 (bi _ di),e9,fb⟩
 have eD:(decide (j=5)=false/\(decide (j=3)||decide (j=4))=true/\∃W:Nat,kj q=some W/\W<E.cells.length)\/(decide (j=5)=false/\(decide (j=3)||decide (j=4))=false)\/(decide (j=5)=true):=by
  by_cases J:j=5
  ·exact .inr (.inr (aY J))
  ·by_cases P:j=3\/j=4
   ·exact .inl ⟨aP J,by simpa using P,q.toNat,eK (bu P).1,by have:=bu P;omega⟩
   ·exact .inr (.inl ⟨aP J,dB⟩)
 have fin:∀{o:H} {d f:T} (Q:iZ),Rn (v+1) B h b M E o (Na c j q n z d f)->Ds d->Ds f->yh b (Na c j q n z d f) (dY o (b.size+2) Q) (Ft ⟨B,h,v,M,E,ap,eo⟩ [.ptr h 0 0 0,M.t,E.t,ap] b):=λQ i ⟨_,_,u,l1,l2⟩ ⟨_,_,bp,e5,e6⟩=>
  (i.tw.put i.g2 dA (by simpa using p) Q).cut ef p (FT.top (V:=λh=>b.size<=h) (d:=1) dz (λ_ O=>O) (.cons (fQ ..) (.cons (fQ ..) (.cons (fQ ..) (.cons (fQ ..) (.cons (fQ ..) (.cons (l2 ..) (.cons (e6 ..) .nil)))))))) λfe fi=>⟨⟨c,j,q,n,z,u,bp⟩,rfl,l1,e5,fi,fe⟩
 obtain⟨R,S,fo,Z,F,u,fB,a1,a2,a3,a4,l1,t1,y⟩:=b7 fA l.tw;have bk:=l.call y t1 p;obtain⟨bS,a6⟩:=bk.g3;have ae:=λQ=>(dP a6 Q (b.size+3)).trans (aq rfl);have aX:=cL.cells;rcases eD with⟨J,P,W,eP,de⟩|⟨J,P⟩|J;simp[eO,s,m,eH,J,P,eP,de];refine ee (λal=> ?_) (λal=> ?_);rotate_left
 iterate 2
  ·have I:=bk.put p (bS+1) (Na c j q n z dF (sl (u.map (T.int .i64))));simp[s,m,J,P];refine ee (λal=> ?_) (λal=> ?_)
   ·simp[C,N,aA,aE,s,a1,a2,a3,a4,a6,aX,ae,I.g2,I.rd];exact fin _ I Ds.nil (Ds.sl l1)
   ·simp[aA,s,m,l.g2,l.rd];exact fin _ l Ds.nil Ds.nil
 iterate 2
  ·have I:=bk.put p (bS+1) (Na c j q n z (sl (u.map (T.int .i64))) dF);simp[C,N,aE,s,m,J,a1,a2,a3,a4,a6,aX,ae];obtain⟨R,S,fo,Z,F,bp,gj,a1,a2,a3,a4,l2,t2,X⟩:=b7 _ I.tw;have ds:=I.call X t2 p;obtain⟨fl,c4⟩:=ds.g3;have eI:=λQ=>(dP c4 Q (b.size+3)).trans (aq rfl);have bn:=ds.put p (fl+1) (Na c j q n z (sl (u.map (T.int .i64))) (sl (bp.map (T.int .i64))));replace ae:=ae (dG 7 (bS+1) [Na c j q n z (sl (u.map (T.int .i64))) dF]);generalize dY fB _ _=gi at*
   refine ee (λal=> ?_) (λal=> ?_)
   ·have dv:=bn.g2;have ea:=bn.rd;simp at dv ea;simp[C,N,aA,aE,s,a1,a2,a3,a4,c4,aX,eI,dv,ea];exact fin _ bn (Ds.sl l1) (Ds.sl l2)
   ·simp[aA,s,ae,I.g2,I.rd];exact fin _ I (Ds.sl l1) Ds.nil
def Q4{j k:Type}{f:j->k->Prop}:∀{b:List j} {a:List k},b.length=a.length->(∀(e:Nat) c d,b[e]? =some c->a[e]? =some d->f c d)->iB f b a:=by
 intro b;induction b with
 |nil=>intro a h _;cases a with|nil=>exact .nil|cons i a=>simp at h
 |cons p b n=>
  intro a h g;cases a with
  |nil=>simp at h
  |cons i a=>exact .cons (g 0 p i rfl rfl) (n (by simpa using h) λe c d l m=>g (e+1) c d (by simpa using l) (by simpa using m))
structure E7(lo bv:Nat)(h:H)(rs:List (List Int))(o:T)(xs:List T)(es:List T)(ver:Nat):Prop where
 gb:h.get bv=some ⟨1,0,ver,true,false,es⟩
 NF:lo<=bv
 len:es.length=rs.length
 gr:∀(i:Nat) (e:T) (ns:List Int),es[i]? =some e->rs[i]? =some ns->Gr h e 1 (ns.map (T.int .i64))
 sep:∀(i:Nat) (e:T) (c:Nat),es[i]? =some e->dS e=some c->lo<=c/\c≠bv/\dS o≠some c/\∀(j:Nat) (e':T),es[j]? =some e'->dS e'=some c->i=j
 go:Gr h o 7 xs
 ob:∀c,dS o=some c->lo<=c/\c≠bv
variable {lo bv:Nat}{h h':H}{rs:List (List Int)}{o:T}{xs es:List T}{ver:Nat}
def E7.lt(e:E7 lo bv h rs o xs es ver){a:Nat}{b:T}{c:Nat}(d:es[a]? =some b)(f:dS b=some c):c<h.size:=by
 have g:a<rs.length:=by rw[<-e.len];exact(List.getElem?_eq_some_iff.1 d).1
 obtain⟨_,_,_,_,i,_⟩:=(e.gr a b rs[a] d (az g)).box f;exact H.ew i
def E7.olt(c:E7 lo bv h rs o xs es ver){a:Nat}(b:dS o=some a):a<h.size:=by
 obtain⟨_,_,_,_,d,_⟩:=c.go.box b;exact H.ew d
def E7.kY(a:E7 lo bv h rs o xs es ver)(e:∀b,lo<=b->b<h.size->h'.get b=h.get b):E7 lo bv h' rs o xs es ver:=
 ⟨(e _ a.NF (H.ew a.gb)).trans a.gb,a.NF,a.len,λg f j d i=>(a.gr g f j d i).mono λb c=>e b (a.sep g f b d c).1 (a.lt d c),a.sep,a.go.mono λb c=>e b (a.ob b c).1 (a.olt c),a.ob⟩
def E7.rda(a:E7 lo bv h rs o xs es ver){b:Nat}(j:b<lo):Xz b h (.arr bv 0 0 rs.length false) rs:=
 ⟨es,by rw[<-a.len];exact .inr ⟨bv,0,ver,true,es,rfl,a.gb,aO⟩,by have:=a.NF;simp;omega,Q4 a.len λe c g d f=>⟨a.gr e c g d f,λi=>by have:=(a.sep e c b d i).1;omega⟩⟩
def _root_.Go.TI.Gr.mr{h:H}{a:T}{e:Nat}{es:List T}(c:Gr h a e es)(b:T):TI.mr a 0 [b]=some b:=by
 rcases c with⟨rfl,_⟩|⟨f,i,ver,j,xs,rfl,_⟩<;>exact BZ λg d=>by cases d
def E7.app(a:E7 lo bv h rs o xs es ver){b:Nat}{f:T}{v:List Int}(g:es[b]? =some f)(J:rs[b]? =some v){n:Int}{u:T}{s:H}(x:Xt h f 1 ((v++[n]).map (T.int .i64)) u s)(I:lo<=h.size)(C:Nat):
 E7 lo bv (dY s bv ⟨1,0,C,true,false,es.set b u⟩) (rs.set b (v++[n])) o xs (es.set b u) C/\s.get bv=some ⟨1,0,ver,true,false,es⟩:=by
 obtain⟨G,w,q,K⟩:=x;have E:=H.ew a.gb;have t:b<es.length:=(List.getElem?_eq_some_iff.1 g).1;have r:s.get bv=some ⟨1,0,ver,true,false,es⟩:=(w bv E λe=>(a.sep b f bv g e).2.1 rfl).trans a.gb;refine⟨⟨(dP r _ bv).trans (aq rfl),a.NF,by simp[a.len],λl p F c j=> ?_,λl p i c d=> ?_,a.go.mono λi d=> ?_,a.ob⟩,r⟩
 ·by_cases e:b=l
  ·subst e;rw[dw t]at c;rw[dw (by rw[<-a.len];exact t)]at j;cases c;cases j;refine G.mono λi d=> ?_;rw[dP r,ao];rintro rfl;rcases q _ d with k|k
   ·exact(a.sep b f _ g k).2.1 rfl
   ·omega
  ·rw[cI e]at c;rw[cI e]at j;refine(a.gr l p F c j).mono λi d=> ?_;have m:=a.sep l p i c d;rw[dP r,ao m.2.1];exact w i (a.lt c d) λk=>e (m.2.2.2 b f g k).symm
 ·by_cases e:b=l
  ·subst e;rw[dw t]at c;cases c;refine⟨?_,?_,?_,λl p c y=> ?_⟩
   ·rcases q _ d with k|k
    ·exact(a.sep b f _ g k).1
    ·omega
   ·rcases q _ d with k|k
    ·exact(a.sep b f _ g k).2.1
    ·omega
   ·rcases q _ d with k|k
    ·exact(a.sep b f _ g k).2.2.1
    ·intro z;have:=a.olt z;omega
   ·by_cases e:b=l
    ·exact e
    ·rw[cI e]at c;rcases q _ d with k|k
     ·exact(a.sep b f _ g k).2.2.2 l p c y
     ·have:=a.lt c y;omega
  ·rw[cI e]at c;have m:=a.sep l p i c d;refine⟨m.1,m.2.1,m.2.2.1,λk D j A=> ?_⟩;by_cases B:b=k
   ·subst B;rw[dw t]at j;cases j;rcases q _ A with z|z
    ·exact m.2.2.2 b f g z
    ·have:=a.lt c d;omega
   ·rw[cI B]at j;exact m.2.2.2 k D j A
 ·rw[dP r,ao (a.ob i d).2];exact w i (a.olt d) λk=>(a.sep b f i g k).2.2.1 d
def E7.out(a:E7 lo bv h rs o xs es ver){j:T}{n:List T}{f:H}(t:Xt h o 7 n j f)(v:lo<=h.size):E7 lo bv f rs j n es ver:=by
 obtain⟨u,k,l,w⟩:=t;have p:=H.ew a.gb;refine⟨(k bv p λs=>(a.ob bv s).2 rfl).trans a.gb,a.NF,a.len,λg e r d f=>(a.gr g e r d f).mono λc b=>k c (a.lt d b) (a.sep g e c d b).2.2.1,λg e c d b=> ?_,u,λc b=> ?_⟩
 ·have i:=a.sep g e c d b;refine⟨i.1,i.2.1,λq=> ?_,i.2.2.2⟩;rcases l _ q with z|z
  ·exact i.2.2.1 z
  ·have:=a.lt d b;omega
 ·rcases l _ b with z|z
  ·exact a.ob c z
  ·exact⟨dz,dz⟩
end
noncomputable section
open Go Go.TI
attribute [-simp] List.map_take List.map_drop List.map_append fG fg ei Bool.not_or Bool.not_and
attribute [simp] fF fh
attribute [-simp] size_cons
structure IPl where
 (L:List Int) (b:Nat) (s:ej) (w:d8) (n:Nat) (early:Bool)
def Uu(a:IPl)(d:List T)(c:H):Prop:=d=[.ptr a.b 0 0 0,a.s.t,a.w.t,dE a.n,.bool a.early]/\vm 0 a.L a.b c/\ig 0 c/\okB a.L/\a.L.length<=400/\a.n<=16/\a.w.dK.length=4/\a.w.cells.length=5/\a.w.gW.length<=1000/\nJ a.w a.s=true/\rg 1000 a.s/\1<=a.s.eg.length
def Oy(a:IPl)(g:List T)(e:H)(f:T)(d:H):Prop:=∃c:List ez,f=sl (c.map ez.t)/\c.length<=a.n/\Kb c/\runs a.w a.s c=true/\vm 0 a.L a.b d/\Sm a.b e d
def aeE(a:ez)(d:H)(c:Nat->Prop):FT d c 2 a.t a.t:=by
 have e:∀b:List Int,FT d c 1 (sl (b.map (T.int .i64))) (sl (b.map (T.int .i64))):=λb=>pj _ _ _ λg f=>by obtain⟨h,_,rfl⟩:=List.mem_map.1 f;simp
 exact .inr (.inr ⟨a.cs,a.cs,rfl,.cons (fQ ..) (.cons (fQ ..) (.cons (fQ ..) (.cons (fQ ..) (.cons (fQ ..) (.cons (e _) (.cons (e _) .nil)))))),rfl⟩)
def RL{a:H}(g:ig 0 a)(b c d:iZ):(∀e,e<a.size->(dY ((a.cons b).cons c) (a.size+1) d).get e=a.get e)/\(dY ((a.cons b).cons c) (a.size+1) d).get a.size=some b/\(dY ((a.cons b).cons c) (a.size+1) d).get (a.size+1)=some d/\(dY ((a.cons b).cons c) (a.size+1) d).size=a.size+2:=by
 have f:=mM ((g.cons b).cons c).hp (show a.size+1<_ by simp[size_cons]);refine⟨λe h=> ?_,?_,?_,by simp[size_cons]⟩
 ·rw[f,ao dz,dV,ao (by rw[size_cons];omega),dV,ao dz]
 ·rw[f,ao dz,dV,ao (by rw[size_cons];omega),dV,aq rfl]
 ·rw[f,aq rfl]
def sY.two{h:Nat}{f:List Int}{b:Nat}{e a:H}(i:sY h f b e a)(k:b<e.size)(g d j:iZ):sY h f b e (dY ((a.cons g).cons d) (a.size+1) j):=
 ((i.cons g).cons d).put (c:=a.size+1) (x:=d) (by rw[dV,aq (by rw[size_cons])]) (by have:=i.w.size;omega) k j
def PlC(a:ej):Prop:=a.cells.length=5/\1<=a.eg.length/\a.fM.dK.length<=98/\a.count.length=4
def YH(h:Nat)(d:List Int)(e:Nat)(a:H)(n:d8)(k:ej)(i:Nat)(g:T)(o:List T)(b:H):Prop:=∃c f m l,sY h d e (TI.hr a) b/\b.get a.size=some (dG 7 l [k.t])/\b.get (a.size+1)=some (dG 6 0 [n.t])/\E7 (a.size+2) (a.size+2) b c g o f m/\a.size+3<=b.size/\c.length=4/\∀j∈c,j.length<=i
def adW:(jw IPl Uu Oy).Ok Tryz.prog cx 39:=by
 refine qN (tb:=⟨pt [(66,lQ)],ht [(63,kH),(65,jw IEv On Ft)]⟩) fa eQ (iR 155347004713968546154151135 [(14,[(2,15)])] Tryz.func39) (λ_ _=>1000) (λi a e e9=>by obtain⟨rfl,_⟩:=e9;simp[Tryz.f39]) ?_;rintro⟨V,b,q,h,n,early⟩ _ e ⟨rfl,eo,eM,di,e4,e8,ea,eE,fi,b8,eD,e6⟩ r bB;simp only at eo di e4 e8 ea eE fi b8 eD e6;simp at bB;obtain⟨B,al,bi,C,W⟩:=bB;have an:=eo.tp.lt;have gg:(b=e.size)=False:=dB;have gi:(b=e.size+1)=False:=dB;simp[Tryz.f39,al,bi,ea];have cp:q.count.length=4:=by
  unfold nJ at b8;simp only[aB,aK]at b8;rw[b8.2,ea]
 generalize bz:(((TI.hr e).cons _).cons _).cons _=bu;have gn:bu.size=e.size+3:=by rw[<-bz];rfl
 have ey:sY 0 V b (TI.hr e) bu:=by rw[<-bz];exact(((sY.refl eM.hr (eo.eq (gh e b))).cons _).cons _).cons _
 have T:bu.get e.size=some (dG 7 0 [q.t]):=by rw[<-bz];simp
 have ae:bu.get (e.size+1)=some (dG 6 0 [h.t]):=by rw[<-bz];simp
 have eu:E7 (e.size+2) (e.size+2) bu [[],[],[],[]] dF [] [dF,dF,dF,dF] 0:=by
  rw[<-bz];refine⟨dA,au _,rfl,λi u gj al bi=> ?_,λi u c al bi=> ?_,Gr.nil _ _,dA⟩
  ·rcases i with _|_|_|_|i<;>simp at al bi<;>subst al bi<;>exact Gr.nil _ _
  ·rcases i with _|_|_|_|i<;>simp at al<;>subst al<;>simp at bi
 clear bz;have cb:YH 0 V b e h q 0 dF [] bu:=⟨_,_,_,_,ey,T,ae,eu,dz,rfl,dA⟩;refine fy 4 dz (λj r y=>YH 0 V b e h q j dF [] y/\dH r 0 (.ptr b 0 0 0)/\dH r 3 (dE n)/\dH r 4 (.bool early)/\dH r 6 (.ptr e.size 0 0 0)/\dH r 7 (.ptr (e.size+1) 0 0 0)/\dH r 11 dF/\dH r 12 (.arr (e.size+2) 0 0 4 false)/\dH r 22 (dE 4)/\dH r 23 (dE j)) ?_ ?_ dz ⟨cb,by simp[B,C,W]⟩
 ·rintro j r y e7 ce ⟨⟨v,s,D,S,Y,T,ae,X,aE,P,H⟩,B,C,W,E,G,F,J,bk,bn⟩;have cL:j<q.count.length:=dz;have dm:(j:Int)<4:=dz;have fE:(b=e.size+2)=False:=dB;have et:YH 0 V b e h q (j+1) dF [] y:=⟨v,s,D,S,Y,T,ae,X,aE,P,λM hr=>Nat.le_succ_of_le (H M hr)⟩;cases early with
  |false=>
   simp[B,C,W,E,G,F,J,bk,bn,dm,ce,et]
  |true=>
  by_cases eA:1<q.count[j]
  ·obtain⟨m,eN,dd,fX,aN,cX⟩:=Y.next (tb:=⟨pt [(66,lQ)],ht [(63,kH),(65,jw IEv On Ft)]⟩) dA di 3 dz dz;simp[T,B,W,E,bk,bn,dm,cL,eA,dd];have L:E7 (e.size+2) (e.size+2) eN v dF [] s D:=X.kY λc o _=>cX.get c dz;have aX:=(cX.get e.size dz).trans T;have a6:=(cX.get (e.size+1) dz).trans ae;have bp:=cX.size;refine ee (λbC=> ?_) (λbC=> ?_)
   ·have O:j<s.length:=by rw[L.len];omega
    have R:j<v.length:=dz;obtain⟨ca,aA,b6,ef,eh,K⟩:=(Xt.refl (L.gr j s[j] v[j] (az O) (az R)) aN.w.ok).TB 1 (by have:=H v[j] (aC R);omega);obtain⟨I,a8⟩:=L.app (az O) (az R) K dz (D+1);have cp:=(L.gr j s[j] v[j] (az O) (az R)).cells;have bN:∀c,dS s[j]=some c->e.size+2<=c:=λc o=>(L.sep j s[j] c (az O) o).1;have c7:=((aN.le (aw _)).xt K (λc ap=>by have:=bN c ap;simp;omega) (by simpa using an)).put a8 dA (by simpa using an) ⟨1,0,D+1,true,false,s.set j ca⟩;have A:∀c,c<e.size+2->(dY aA (e.size+2) ⟨1,0,D+1,true,false,s.set j ca⟩).get c=eN.get c:=λc ap=>by
     rw[dP a8,ao dz];exact K.2.1 c dz λo=>by have:=bN c o;omega
    have c6:=K.2.2.2.sz;simp[L.gb,B,C,W,E,G,F,J,bk,bn,e7,O,ce,cp,b6,ef,eh,a8,(L.gr j s[j] v[j] (az O) (az R)).mr];exact⟨_,_,_,S,c7,(A _ dz).trans aX,(A _ dz).trans a6,I,dB,by simp[P],λM hr=>by
     rcases cg hr with k|rfl
     ·exact Nat.le_succ_of_le (H M k)
     ·have:=H v[j] (aC R);simp;omega⟩
   ·simp[B,C,W,E,G,F,J,bk,bn,ce];exact⟨v,s,D,S,aN.le (aw _),aX,a6,L,dz,P,λM hr=>Nat.le_succ_of_le (H M hr)⟩
  ·simp[T,B,C,W,E,G,F,J,bk,bn,dm,cL,ce,eA,et]
 clear cb eu T ae ey B al bi C W;have eB:=b8;unfold nJ mQ at eB;simp only[aB,aK]at eB;rintro r y ⟨cb,B,C,W,E,G,F,J,bk,bn⟩;simp[bk,bn];refine Rb 401 (λj r y=>(∃Q l,YH j V b e h (o9 h q l) (j+4) Q (l.map ez.t) y/\runs h q l=true/\l.length<=n/\Kb l/\rg (1000+j) (o9 h q l)/\PlC (o9 h q l)/\dH r 11 Q)/\dH r 0 (.ptr b 0 0 0)/\dH r 3 (dE n)/\dH r 6 (.ptr e.size 0 0 0)/\dH r 7 (.ptr (e.size+1) 0 0 0)/\dH r 12 (.arr (e.size+2) 0 0 4 false)) ?_ dz (aw _) ⟨⟨dF,[],cb,rfl,aw _,λu e5=>by simp at e5,eD,?_,by simp[F]⟩,by simp[B,C,E,G,J]⟩
 ·rintro j r y fL ⟨⟨Q,l,⟨v,s,D,S,Y,T,ae,X,aE,P,H⟩,dn,eC,dk,ds,bH,F⟩,B,C,E,G,J⟩;obtain⟨gm,gk,eW,fY⟩:=Y.g;simp[B,C,F,X.go.len,eW];refine ee (λbC=> ?_) (λbC=> ?_)
  ·simp at bC;have fS:j<V.length:=dz;simp[B,E,G,J,T,ae];refine iq adY dA ⟨V,b,j,o9 h q l,h,.arr (e.size+2) 0 0 4 false,v⟩ ⟨rfl,Y.g,Y.w.ok,di,by have:=X.rda (b:=b) dz;rw[P]at this;exact this,P,λM hr=>by have:=H M hr;omega,bH.1,bH.2.1,bH.2.2.1,eE⟩ ?_;rintro _ U ⟨u,rfl,eV,dd,t1,bS⟩;simp only at eV dd t1 bS;have aN:=Y.call bS t1;have L:E7 (e.size+2) (e.size+2) U v Q (l.map ez.t) s D:=X.kY λc o _=>bS.get c dz;have aX:=(bS.get e.size dz).trans T;have a6:=(bS.get (e.size+1) dz).trans ae;have bp:=bS.size;have b7:=λ{tb:fJ} (ht:tb.p 66=some lQ)=>za ht h (o9 h q l) u dz (ds.up dz) dz dz;have eH:(e.size=U.size)=False:=dB;have eI:(e.size+1=U.size)=False:=dB;have eF:=aN.w.ok.low;have c9:=λb9=>aN.two (by simpa using an) (dG 7 1 [u.t]) (dG 7 0 [.agg [dF,dE 0,dF,dF,dF,dF,dF]]) (dG 7 1 [b9]);have N:=λb9=>RL aN.w.ok (dG 7 1 [u.t]) (dG 7 0 [.agg [dF,dE 0,dF,dF,dF,dF,dF]]) (dG 7 1 [b9]);cases o:qd h (o9 h q l) u with
   |false=>
    rw[lI o]at b7;simp[B,C,E,G,F,J,aX,a6,eH,eI,eF,b7];obtain⟨A,av,bT,c6⟩:=N ta.t;exact⟨dz,Q,l,⟨v,s,D,S,c9 _,(A _ dz).trans aX,(A _ dz).trans a6,L.kY λc _ o=>A c o,by rw[c6];omega,P,λM hr=>by have:=H M hr;omega⟩,dn,eC,dk,ds.up dz,bH,rfl⟩
   |true=>
    have dv:jO h (o9 h q l) u=(j9 h (o9 h q l) u,true):=by unfold jO;rw[aq o]
    rw[dv]at b7;simp[E,G,aX,a6,eH,eI,eF,b7];have Z:=c9 (j9 h (o9 h q l) u).t;obtain⟨A,av,bT,c4⟩:=N (j9 h (o9 h q l) u).t;have a7:=(A e.size dz).trans aX;have bs:=(A (e.size+1) dz).trans a6;have I:E7 (e.size+2) (e.size+2) _ v Q (l.map ez.t) s D:=L.kY λc _ o=>A c o;clear b7 c9 N A;generalize dY _ _ _=aA at*
    simp[av];have eP:YH (j+1) V b e h (o9 h q l) (j+4) Q (l.map ez.t) aA:=⟨v,s,D,S,Z,a7,bs,I,dz,P,H⟩;refine ll (λr c1=>(YH (j+1) V b e h (o9 h q l) (j+1+4) Q (l.map ez.t) c1/\U.size+2<=c1.size/\c1.get U.size=some (dG 7 1 [u.t])/\c1.get (U.size+1)=some (dG 7 1 [(j9 h (o9 h q l) u).t]))/\dH r 0 (.ptr b 0 0 0)/\dH r 3 (dE n)/\dH r 6 (.ptr e.size 0 0 0)/\dH r 7 (.ptr (e.size+1) 0 0 0)/\dH r 11 Q/\dH r 12 (.arr (e.size+2) 0 0 4 false)/\dH r 14 (.ptr U.size 0 0 0)/\dH r 15 (.ptr (U.size+1) 0 0 0)) (λbC=> ?_) (λbC=> ?_) ?_
    ·obtain⟨z,fe,fb⟩:∃z:Nat,z<4/\kj u.dT=some z:=by
      have:=fq.1 (rn o).2.1;exact⟨u.dT.toNat,dz,eK this.1⟩
     have O:z<s.length:=by rw[I.len];omega
     have R:z<v.length:=dz;have cL:z<(o9 h q l).count.length:=by have:=bH.2.2.2;omega
     have de:=I.gr z s[z] v[z] (az O) (az R);obtain⟨ca,er,b6,ef,eh,K⟩:=(Xt.refl de Z.w.ok).TB (o9 h q l).count[z] (by have:=H v[z] (aC R);omega);obtain⟨eR,a8⟩:=I.app (az O) (az R) K dz (D+1);have cp:=de.cells;have bN:∀c,dS s[z]=some c->e.size+2<=c:=λc o=>(I.sep z s[z] c (az O) o).1;have c7:=(Z.xt K (λc ap=>by have:=bN c ap;simp;omega) (by simpa using an)).put a8 dA (by simpa using an) ⟨1,0,D+1,true,false,s.set z ca⟩;have c6:=K.2.2.2.sz;have eb:=λc (k:dS s[z]=some c)=>L.lt (az O) k;have eL:∀c,c<aA.size->(∀k,dS s[z]=some k->k≠c)->er.get c=aA.get c:=λc aE bp=>K.2.1 c aE λk=>bp c k rfl;have A:∀c,c<aA.size->c≠e.size+2->(∀k,dS s[z]=some k->k≠c)->(dY er (e.size+2) ⟨1,0,D+1,true,false,s.set z ca⟩).get c=aA.get c:=λc aE c4 bp=>by
      rw[dP a8,ao c4];exact eL c aE bp
     have sv:fc (aA.cons (dG 1 0 [dE (o9 h q l).count[z]])) er U.size=true:=fk ((eL _ dz λk o=>by have:=eb k o;omega).trans (by rw[dV,ao dz]));simp[I.gb,B,C,E,G,F,J,av,a7,fb,fe,O,cL,cp,b6,ef,eh,a8,de.mr,sv];refine⟨⟨_,_,_,S,c7,(A _ dz dz λk o=>by have:=bN k o;omega).trans a7,(A _ dz dz λk o=>by have:=bN k o;omega).trans bs,eR,dB,by simp[P],λM hr=> ?_⟩,dz,(A _ dz dz λk o=>by have:=eb k o;omega).trans av,(A _ dz dz λk o=>by have:=eb k o;omega).trans bT⟩;rcases cg hr with k|rfl
     ·have:=H M k;omega
     ·have:=H v[z] (aC R);simp;omega
    ·simp[B,C,E,G,F,J];exact⟨⟨v,s,D,S,Z,a7,bs,I,dz,P,λM hr=>by have:=H M hr;omega⟩,dz,av,bT⟩
    ·have fA:∀c,dS Q=some c->c<U.size:=λc=>L.olt;clear eP Z a7 bs I av bT c4 B C E G F J;rintro r eO ⟨⟨⟨v,s,D,S,Z,a7,bs,I,c4,P,H⟩,gp,av,bT⟩,B,C,E,G,F,J,eX,e0⟩;obtain⟨fv,fC,b6,K⟩:=I.go.nd (cx:=cx) (f:=ez.t) Z.w.ok Qm rfl Qj rfl dA (λ_=>rfl) u dB;have ec:∀c,dS Q=some c->e.size+2<=c:=λc k=>(I.ob c k).1;have A:∀c,c<eO.size->(∀k,dS Q=some k->k≠c)->fC.get c=eO.get c:=λc aE bp=>K.2.1 c aE λk=>bp c k rfl;have t6:=(A _ dz λk o=>by have:=fA k o;omega).trans bT;have bX:=(A e.size dz λk o=>by have:=ec k o;omega).trans a7;have eS:=I.out K dz;have eU:=(Z.xt K (λc ap=>by have:=ec c ap;simp;omega) (by simpa using an)).put bX dA (by simpa using an) (dG 7 (S+1) [(j9 h (o9 h q l) u).t]);have bB:o9 h q (l++[u])=j9 h (o9 h q l) u:=by
      show wi _ _ _=_;rw[IG];show(jO h (o9 h q l) u).1=_;rw[dv]
     have c6:=K.2.2.2.sz;simp[B,C,E,G,F,J,eX,e0,av,b6,t6,bX];refine⟨dz,fv,l++[u],⟨v,s,D,S+1,eU,?_,?_,eS.kY λc o _=> ?_,dB,P,H⟩,?_,?_,?_,?_,?_,rfl⟩
     ·rw[bB,dP bX,aq rfl]
     ·rw[dP bX,ao dz];exact(A (e.size+1) dz λk o=>by have:=ec k o;omega).trans bs
     ·rw[dP bX,ao dz]
     ·rw[B1,dn];simp[runs,qG,o]
     ·simp;omega
     ·intro x hx;rcases List.mem_append.1 hx with hx|hx
      ·exact dk x hx
      ·simp at hx;subst hx;omega
     ·have:=ds.step h u;rw[dv]at this;rw[bB];exact this
     ·have:=yd h (o9 h q l).fM u.dT u.kind u.obj (lq u);obtain⟨fl,fo,gd,fs⟩:=bH;rw[bB];exact⟨by unfold j9;simp only;split<;>simp[fl],by unfold j9;simp only;split<;>simp[fo],by show(ff ..).1.dK.length<=_;omega,by unfold j9;simp[fs]⟩
  ·simp[F];exact(Y.le (aw _)).cut eM an (X.go.ZP (d:=2) dz (λc ap=>by have:=(X.ob c ap).1;omega) aeE) λb9 fB=>⟨l,rfl,eC,dk,dn,fB,b9⟩
 ·exact(⟨dz,dz,dz,dz⟩:PlC q)
end
noncomputable section
open Go Go.TI
attribute [-simp] List.map_take List.map_drop List.map_append
def B6:hU:=⟨Int×Nat,λa=>[dE a.1,dE a.2],λa=>True,λa=> .bool (je a.1 a.2),λa c b=>by simp at b;rw[b.1,show a.2=c.2 by omega]⟩
def VY:B6.Ok Tryz.prog cx 112:=by
 refine iv (tb:=⟨pt [],ht []⟩) fa eQ (iR 19 [] Tryz.func112) (λf=>1) (by simp[B6]) (by simp[B6,Tryz.f112]) ?_;rintro⟨e,g⟩ _ h a;simp[B6]at a|-;obtain⟨b,c⟩:=a;by_cases d:0<=e<;>simp[Tryz.f112,b,c,d,je]
def QM{c:fJ}(ht:c.p 112=some B6)(a:Int)(b:Nat):rl Tryz.prog cx c 112 [dE a,dE b]=some (.bool (je a b)):=im ht VY (a,b) trivial
def GD(c:eZ)(b:Int):Bool:=match wV c.jY.count b with|some a=>decide (1<=a)|none=>false
def tW:hU:=⟨eZ×Int,λa=>[a.1.t,dE a.2],λa=>True,λa=> .bool (GD a.1 a.2),λa c b=>by simp at b;rw[eZ.inj b.1,b.2]⟩
def MM:tW.Ok Tryz.prog cx 113:=by
 refine iv (tb:=⟨pt [(112,B6)],ht []⟩) fa eQ (iR 23 [] Tryz.func113) (λi=>1) (by simp[tW]) (by simp[tW,Tryz.f113]) ?_;rintro⟨h,g⟩ _ k d;simp[tW]at d|-;obtain⟨b,c⟩:=d;cases a:je g h.jY.count.length with
 |false=>simp[Tryz.f113,b,c,QM,a,GD,rf a]
 |true=>
  obtain⟨j,e,f⟩:=iI a;simp[Tryz.f113,b,c,QM,a,GD,e,f,eK (fq.1 a).1]
def we{c:fJ}(ht:c.p 113=some tW)(b:eZ)(a:Int):rl Tryz.prog cx c 113 [b.t,dE a]=some (.bool (GD b a)):=im ht MM (b,a) trivial
end
noncomputable section
open Go Go.TI
attribute [-simp] List.map_take List.map_drop List.map_append fG fg ei Bool.not_or Bool.not_and
attribute [simp] fF fh
def K3:nO Tryz.prog cx 114 (λa:eZ×Int×Int=>[a.1.t,dE a.2.1,dE a.2.2]) (λa=>a.1.dO.length<=1000000) (λa v=>∃p:Int,v= dE p/\p<a.1.dO.length):=by
 refine jt (tb:=⟨pt [],ht []⟩) fa eQ (iR 20975823 [] Tryz.func114) (λa=>a.1.dO.length+5) (λa b c=>by simp at c;exact aR (eZ.inj c.1) (aR c.2.1 c.2.2)) dA (by simp[Tryz.f114]) ?_;rintro⟨q,w,u⟩ hl d m;simp at hl m;obtain⟨r,e,f⟩:=m;simp[Tryz.f114,r];refine fy q.dO.length dz (λo d c=>∃l,ig 1 c/\c.get 0=some (dG 15 0 [q.t])/\dH d 1 (dE w)/\dH d 2 (dE l)/\dH d 3 (.ptr 0 0 0 0)/\dH d 7 (dE o)) ?_ ?_ dz ⟨u,⟨dA,dA,dA⟩,by simp[e,f]⟩
 ·rintro o d c s n ⟨l,h,i,e,f,j,g⟩;have x:=h.ne (b:=0) dz;simp[i,e,j,g,s];refine ee (λk=> ?_) (λk=> ?_)
  ·simp[f];refine ee (λk=> ?_) (λk=> ?_)
   ·simp[g,h.hp];omega
   ·simp[i,e,f,j,g,n,uu,h]
  ·simp[i,e,f,j,g,n,h]
 ·rintro d c ⟨l,h,i,e,f,j,g⟩;simp[i,j,g,h.hp];omega
def Co:nO Tryz.prog cx 69 (λa:eZ=>[a.t]) (λa=>a.jY.count.length<=1000000/\a.dO.length<=1000000) (λ_=>ER):=by
 refine jt (tb:=⟨pt [],ht []⟩) fa eQ (iR 268436511 [] Tryz.func69) (λa=>a.jY.count.length+5) (λo p b=>by simp at b;exact eZ.inj b) dA (by simp[Tryz.f69]) ?_;rintro a ⟨hl,q⟩ c j;simp at j;simp[Tryz.f69,j];refine fy a.jY.count.length dz (λl c b=>∃i,ig 1 b/\b.get 0=some (dG 15 0 [a.t])/\dH c 1 (.ptr 0 0 0 0)/\dH c 3 (dE i)/\dH c 4 (dE l)) ?_ ?_ dz ⟨0,⟨dA,dA,dA⟩,dA⟩
 ·rintro l c b k m ⟨i,g,d,e,h,f⟩;simp[d,e,f,k];refine ee (λn=> ?_) (λn=> ?_)
  ·simp[g.hp]
  ·simp[d,e,h,f,k,m,ou,g]
 ·rintro c b ⟨i,g,d,e,h,f⟩;simp[d,e,h,f,ou,g.hp]
def IV(b:eZ)(a:dN):Prop:=zm a=true->je a.cond b.fj.gW.length=true
def yC:nO Tryz.prog cx 70 (λa:eZ=>[a.t]) (λa=>a.jY.fM.dK.length<=1000000/\a.jY.fM.dK.length=a.jY.count.length) (λa=>MZ (∀m∈a.jY.fM.dK,IV a m)):=by
 refine jt (tb:=⟨pt [(112,B6)],ht []⟩) fa eQ (iR 162259279247065002620836359716991 [] Tryz.func70) (λa=>a.jY.fM.dK.length+5) (λu b d=>by simp at d;exact eZ.inj d) dA (by simp[Tryz.f70]) ?_;rintro a ⟨hl,v⟩ g o;simp at o;simp[Tryz.f70,o];refine fy a.jY.fM.dK.length dz (λc g d=>ig 1 d/\d.get 0=some (dG 15 0 [a.t])/\dH g 1 (.ptr 0 0 0 0)/\dH g 3 (sl (a.jY.fM.dK.map dN.t))/\dH g 4 (dE c)/\∀m∈a.jY.fM.dK.take c,IV a m) ?_ ?_ dz ⟨⟨dA,dA,dA⟩,dA⟩
 ·rintro c g d n q ⟨f,j,k,h,i,l⟩;have r:a.jY.fM.dK.take (c+1)=a.jY.fM.dK.take c++[a.jY.fM.dK[c]]:=aZ n;have w:=f.ne (b:=0) dz;simp[j,k,h,i,n,show c<a.jY.count.length by omega];refine ee (λe=> ?_) (λe=> ?_)
  ·simp[f.hp]
  clear e;simp[j,k,h,i,n,QM];refine ee (λe=> ?_) (λe=> ?_)
  ·simp[f.hp]
  simp[j,k,h,i,q,f];generalize a.jY.fM.dK[c]=m at*
  rw[r];intro s hu;rcases List.mem_append.1 hu with hu|hu
  ·exact l s hu
  rw[List.mem_singleton.1 hu];intro p;unfold zm at p;rw[p]at e;simpa using e
 ·rintro g d ⟨f,j,k,h,i,l⟩;rw[aO]at l;simp[h,i,f.hp];exact l
def z9:nO Tryz.prog cx 72 (λa:eZ×Int×List Int=>[a.1.t,dE a.2.1,sl (a.2.2.map (T.int .i64))]) (λa=>a.1.dO.length<=1000000/\je a.2.1 a.1.jY.count.length=true/\a.2.2.length<=1000000) (λ_=>ER):=by
 refine jt (tb:=⟨pt [(114,K3.jv)],ht []⟩) fa eQ (iR 576460752336982479 [] Tryz.func72) (λa=>a.2.2.length+5) (λa b c=>by simp at c;exact aR (eZ.inj c.1) (aR c.2.1 (jD (λ_ _ c=>by simpa using c) c.2.2))) dA (by simp[Tryz.f72]) ?_;rintro⟨u,y,s⟩ ⟨hl,p,B⟩ h w;simp only at hl p B;simp at w;obtain⟨A,e,d⟩:=w;obtain⟨z,n,_⟩:=iI p;have ht:=eK (fq.1 p).1;simp[Tryz.f72,A];refine fy s.length dz (λr h c=>ig 1 c/\c.get 0=some (dG 15 0 [u.t])/\dH h 1 (dE y)/\dH h 2 (sl (s.map (T.int .i64)))/\dH h 3 (.ptr 0 0 0 0)/\dH h 7 (dE r)) ?_ ?_ dz ⟨⟨dA,dA,dA⟩,by simp[e,d]⟩
 ·rintro r h c q x ⟨g,i,e,d,j,f⟩;have G:=g.ne (b:=0) dz;obtain⟨_,⟨k,rfl,C⟩,m⟩:=K3.use (u,y,IntKind.i64.wrap (s[r]-z)) hl;simp only at m C;simp[i,e,d,j,f,q,ht,n];refine ee (λo=> ?_) (λo=> ?_)
  ·simp[i,e,d,j,f,x,g]
  have D:decide (k<0)=true\/decide (k<0)=false/\kj k=some k.toNat/\∃v,u.dO[k.toNat]? =some v:=by
   by_cases l:k<0
   ·exact .inl (aY l)
   ·exact .inr ⟨aP l,eK dz,_,az dz⟩
  rcases D with l|⟨l,E,v,F⟩
  ·simp[i,e,d,j,f,q,ht,n,uu,m,g.hp,l]
  ·simp[i,e,d,j,f,q,ht,n,uu,m,l,E,F];refine ee (λo=> ?_) (λo=> ?_)
   ·simp[g.hp]
   ·simp[i,e,d,j,f,x,g]
 ·rintro h c ⟨g,i,e,d,j,f⟩;simp[d,f,g.hp]
structure aeX(w:eZ):Prop where
 l1:w.jY.fM.em.length<=1000000
 l2:w.jY.fM.dK.length<=1000000
 l3:∀l∈w.jY.fM.em,l.eJ.length<=1000000
 e:w.jY.fM.em.length=w.fj.em.length
 t:∀t∈w.jY.fM.dK,IV w t
 m:∀c∈w.fj.gW,je c.kJ w.jY.fM.em.length=true
def AR:nO Tryz.prog cx 71 (λc:eZ=>[c.t]) aeX (λ_=>ER):=by
 refine jt (tb:=⟨pt [(113,tW)],ht []⟩) fa eQ (iR 5575186465791384471966860632566831987622399 [] Tryz.func71) (λc=>1000005) (λa b g=>by simp at g;exact eZ.inj g) dA (by simp[Tryz.f71]) ?_;rintro c s f O;simp at O;simp[Tryz.f71,O];refine fy c.jY.fM.em.length (by have:=s.l1;omega) (λj f g=>ig 2 g/\g.get 0=some (dG 15 0 [c.t])/\g.get 1=some (dG 4 1 [c.jY.fM.t])/\dH f 1 (.ptr 0 0 0 0)/\dH f 3 (.ptr 1 0 0 0)/\dH f 4 (dE j)) ?_ ?_ (by have:=s.l1;omega) ⟨⟨dA,dA,dA⟩,dA⟩
 ·rintro j f g E H ⟨h,p,l,d,i,r⟩;have w:=h.ne (b:=0) dz;have F:=h.ne (b:=1) dz;have X:=s.l3 _ (aC E);have S:j<c.fj.em.length:=by have:=s.e;omega
  simp[p,l,d,i,r,E,w,h.low,we,S];have U:ig 2 (g.cons (dG 2 1 [c.jY.fM.em[j].t])):=h.cons _;have Y:2<=g.size:=h.sz;generalize c.jY.fM.em[j]=o at*
  refine ee (λk=> ?_) (λk=> ?_)
  ·simp[h.hp]
  clear k;simp;refine fy o.eJ.length dz (λq f v=>ig 2 v/\g.size<v.size/\v.get 0=some (dG 15 0 [c.t])/\v.get 1=some (dG 4 1 [c.jY.fM.t])/\v.get g.size=some (dG 2 1 [o.t])/\dH f 1 (.ptr 0 0 0 0)/\dH f 3 (.ptr 1 0 0 0)/\dH f 4 (dE j)/\dH f 5 (.ptr g.size 0 0 0)/\dH f 6 (dE q)) ?_ ?_ dz ⟨U,dA,by simp[p,l,d,i,r,w,F]⟩
  ·rintro q f v R P ⟨C,K,x,G,y,d,i,r,z,A⟩;have T:=kF (a:=q) (b:=1) dz dz;have I:decide (0<q)=false/\True/\(∃D:Int,D=D)\/decide (0<q)=true/\kj ((q:Int)-1)=some (q-1)/\∃D,o.eJ[q-1]? =some D:=by
    by_cases u:0<q
    ·refine .inr ⟨aY u,?_,_,az dz⟩;rw[show(q:Int)-1=((q-1:Nat):Int)by omega];exact eK dz
    ·exact .inl ⟨aP u,trivial,0,rfl⟩
   rcases I with⟨u,_,D,J⟩|⟨u,M,D,J⟩
   ·simp[x,y,d,z,A,R,we,u];refine ee (λk=> ?_) (λk=> ?_)
    ·simp[C.hp]
    ·simp[x,G,y,d,i,r,z,A,P,C,K]
   ·simp[x,y,d,z,A,R,we,u,M,J,T];refine ee (λk=> ?_) (λk=> ?_)
    ·simp[C.hp]
    ·simp[x,G,y,d,i,r,z,A,P,C,K]
  ·rintro f v ⟨C,K,x,G,y,d,i,r,z,A⟩;simp[x,G,y,d,i,r,z,A,H,C]
 ·rintro f g ⟨h,p,l,d,i,r⟩;simp[p,l,d,i,r,we];refine ee (λk=> ?_) (λk=> ?_)
  ·simp[h.hp]
  clear k;simp;refine fy c.jY.fM.dK.length (by have:=s.l2;omega) (λj f g=>ig 2 g/\g.get 0=some (dG 15 0 [c.t])/\g.get 1=some (dG 4 1 [c.jY.fM.t])/\dH f 1 (.ptr 0 0 0 0)/\dH f 3 (.ptr 1 0 0 0)/\dH f 7 (dE j)) ?_ ?_ (by have:=s.l2;omega) ⟨h,by simp[p,l,d,i]⟩
  ·rintro j f g E H ⟨h,p,l,d,i,B⟩;have w:=h.ne (b:=0) dz;have F:=h.ne (b:=1) dz;have ht:=s.t _ (aC E);simp[p,l,d,i,B,E,w,h.low,we];refine ee (λk=> ?_) (λk=> ?_)
   ·simp[h.hp]
   clear k;have I:zm c.jY.fM.dK[j]=false/\True/\True/\(∃n:iU,n=n/\∃o:ed,o=o)\/zm c.jY.fM.dK[j]=true/\kj c.jY.fM.dK[j].cond=some c.jY.fM.dK[j].cond.toNat/\True/\(∃n,c.fj.gW[c.jY.fM.dK[j].cond.toNat]? =some n/\kj n.kJ=some n.kJ.toNat/\∃o,c.jY.fM.em[n.kJ.toNat]? =some o):=by
    cases u:zm c.jY.fM.dK[j]
    ·exact .inl ⟨rfl,trivial,trivial,default,rfl,default,rfl⟩
    ·have d:=ht u;obtain⟨n,Q,_⟩:=iI d;have N:=s.m n (ax Q);obtain⟨o,hl,_⟩:=iI N;exact .inr ⟨rfl,eK (fq.1 d).1,trivial,n,Q,eK (fq.1 N).1,o,hl⟩
   unfold zm at I;rcases I with⟨L,_,_,n,_,o,_⟩|⟨L,M,_,n,J,V,o,W⟩
   ·simp[p,l,d,i,B,w,F,L,H,h.cons]
   ·simp[p,l,d,i,B,w,F,L,M,J,V,W];refine ee (λk=> ?_) (λk=> ?_)
    ·simp[h.hp]
    ·simp[p,l,d,i,B,w,F,H,h.cons]
  ·rintro f g ⟨h,p,l,d,i,B⟩;simp[l,i,B,h.hp]
structure acb(w:eZ):Prop where
 c:w.jY.count.length<=1000
 ev:w.dO.length<=1000000
 l:w.jY.fM.em.length<=1000
 t:w.jY.fM.dK.length<=1000
 d:w.jY.fM.done.length<=1000
 f:w.jY.eg.length<=1000
 r:∀l∈w.jY.fM.em,l.eJ.length<=1000
 sm:rg 1000 w.jY
 wb:j3 w.fj=true
 es:Kb w.dO
def Ev:nO Tryz.prog cx 40 (λd:eZ=>[d.t]) (λd=>acb d/\nJ d.fj d.jY=true/\d.dO.length<=16) (λ_=>ER):=by
 refine jt (tb:=⟨pt [(67,vJ),(68,uC),(69,Co.jv),(70,yC.jv),(71,AR.jv),(66,lQ),(72,z9.jv)],ht []⟩) fa eQ (iR 324518553667945246868126660821503 [] Tryz.func40) (λd=>1000005) (λa b g=>by simp at g;exact eZ.inj g) dA (by simp[Tryz.f40]) ?_;rintro d ⟨i,O,bX⟩ k M;simp at M;have P:=O;unfold nJ at P;simp only[aB,aK]at P;obtain⟨⟨⟨bn,_⟩,bT⟩,bk⟩:=P;have H:=bn;unfold mQ at H;simp only[aB,aK]at H;obtain⟨b6,b7,b8,b9,ca,cb⟩:=rG i.wb;have bp:∀n∈d.fj.gW,je n.kJ d.jY.fM.em.length=true:=λn a8=>by
  rw[H.1.1.2];exact List.all_eq_true.1 H.1.1.1 n a8
 have Y:d.fj.gW.length<=1099511627776:=dz;have al:j3 d.fj=true:=i.wb;obtain⟨_,⟨bC,rfl⟩,W⟩:=Co.use d ⟨by have:=i.c;omega,i.ev⟩;obtain⟨_,⟨aA,rfl,a7⟩,X⟩:=yC.use d ⟨by have:=i.t;omega,dz⟩;cases aA with
 |false=>simp[Tryz.f40,M,y8,Gy,al,O,W,X,Y]
 |true=>
 obtain⟨_,⟨bH,rfl⟩,aE⟩:=AR.use d ⟨by have:=i.l;omega,by have:=i.t;omega,λl s=>by have:=i.r l s;omega,dz,a7 rfl,bp⟩;simp[Tryz.f40,M,y8,Gy,al,O,W,X,aE,Y];refine ee (λu=> ?_) (λu=> ?_)
 ·simp
 clear u;simp;refine fy d.jY.eg.length (by have:=i.f;omega) (λe k g=>ig 1 g/\g.get 0=some (dG 15 0 [d.t])/\dH k 1 (.ptr 0 0 0 0)/\dH k 3 (dE e)) ?_ ?_ (by have:=i.f;omega) ⟨⟨dA,dA,dA⟩,dA⟩
 ·rintro e k g B N ⟨o,v,j,E⟩;have bi:e<d.jY.fM.done.length:=dz;simp[v,j,E,B,bi];refine ee (λu=> ?_) (λu=> ?_)
  ·simp[o.hp]
  ·simp[v,j,E,N,o]
 rintro k g ⟨o,v,j,E⟩;have bu:=o.ne (b:=0) dz;simp[v,j,E,o.low];obtain⟨J,bN⟩:∃J,g.size=J:=⟨_,rfl⟩;have bS:1<=J:=by have:=o.sz;omega
 refine fy d.dO.length dz (λe k h=>∃I m,rg (1000+e) m/\ig 1 h/\g.size<h.size/\h.get 0=some (dG 15 0 [d.t])/\h.get g.size=some (dG 7 I [m.t])/\dH k 1 (.ptr 0 0 0 0)/\dH k 4 (.ptr g.size 0 0 0)/\dH k 5 (dE e)) ?_ ?_ dz ⟨1,d.jY,i.sm,o.cons _,dA,by simp[v,j,bu]⟩
 ·rintro e k h B N ⟨I,m,S,q,bs,w,D,j,F,y⟩;have an:=q.ne (b:=0) dz;have ap:(g.size=h.size)=False:=dB;have G:=i.es d.dO[e] (aC B);have x:=λ{tb:fJ} (ht:tb.p 66=some lQ)=>za ht d.fj m d.dO[e] dz (S.up dz) G.1 G.2;have R:ig 1 ((h.cons (dG 7 1 [d.dO[e].t])).cons (dG 7 0 [T.agg [T.dM [] false,T.int .i64 0,T.dM [] false,T.dM [] false,T.dM [] false,T.dM [] false,T.dM [] false]])):=(q.cons _).cons _;have C:=mM R.hp (show h.size+1<_ by simp);cases s:qd d.fj m d.dO[e]with
  |false=>
   rw[lI s]at x;simp[w,D,j,F,y,B,an,ap,q.low,x,q.hp]
  |true=>
   have Z:jO d.fj m d.dO[e]=(j9 d.fj m d.dO[e],true):=by unfold jO;rw[aq s]
   have bB:rg (1000+(e+1)) (j9 d.fj m d.dO[e]):=by have:=S.step d.fj d.dO[e];rw[Z]at this;exact this
   rw[Z]at x;have ae:je d.dO[e].dT d.jY.count.length=true:=by
    unfold qd at s;simp only[aB]at s;rw[bk];exact s.1.1.1.1.1.1.1.1.2
   obtain⟨_,⟨r1,rfl⟩,K⟩:=z9.use (d,d.dO[e].dT,d.dO[e].mN) ⟨dC,ae,G.1⟩;obtain⟨_,⟨r2,rfl⟩,L⟩:=z9.use (d,d.dO[e].dT,d.dO[e].vh) ⟨dC,ae,G.2⟩;simp only at K L;simp[w,D,j,F,y,B,an,ap,q.low,x,K,L,C];generalize A:dY _ (h.size+1) _=z;have Q:ig 1 z:=by rw[<-A];exact R.put _ _
   have ce:z.size=h.size+1+1:=by rw[<-A];simp
   have U:∀n,n≠h.size+1->n≠h.size->z.get n=h.get n:=λn av bz=>by rw[<-A,C,ao av];simp[av,bz]
   have aN:=(U 0 dz dz).trans w;have aX:=(U g.size dz dz).trans D;have a6:z.get (h.size+1)=some (dG 7 1 [(j9 d.fj m d.dO[e]).t]):=by rw[<-A,C,aq rfl]
   clear A C R x K L;refine ee (λu=> ?_) (λu=> ?_)
   ·simp[Q.hp]
   ·simp[aX,a6,j,F,y,N];have V:=mM Q.hp (show g.size<z.size by omega);exact⟨I+1,_,bB,Q.put _ _,dz,(V _ 0).trans ((ao dz).trans aN),(V _ g.size).trans (aq rfl)⟩
 ·rintro k h ⟨I,m,S,q,bs,w,D,j,F,y⟩;simp[w,j,y,q.hp]
end
noncomputable section
open Go Go.TI
attribute [-simp] List.map_take List.map_drop List.map_append fG fg ei Bool.not_or Bool.not_and
attribute [simp] fF fh
attribute [-simp] size_cons
def GQ.fits{a:ej}(h:GQ a):nJ js a=true:=by
 obtain⟨b,c,d,e,f,g⟩:=h.n;unfold nJ mQ;rw[b,c,d,e,f,g];decide
def GQ.sm{d:ej}(b:GQ d):rg 1000 d:=by
 obtain⟨g,h,i,j,k,l⟩:=b.n;refine⟨dz,λa hl=>by have:=(b.r a hl).1;omega,λa hl=> ?_,λe f=>by have:=b.c e f;omega⟩;have:=(b.r a hl).1
 match hr:a.eJ with
 | []=>exact List.Pairwise.nil
 | [x]=>exact List.pairwise_singleton _ _
 |x::o::m=>rw[hr]at this;simp at this
def GQ.ask{c:ej}(b:GQ c){a:List ez}(hl:a.length<=16)(d:Kb a)(e:Int):acb ⟨js,e,c,a⟩:=by
 obtain⟨f,g,h,i,j,k⟩:=b.n;exact⟨dC,dC,dC,dC,dC,dC,λa hl=>by have:=(b.r a hl).1;omega,b.sm,Jc,d⟩
def GQ.win{d:ej}(c:GQ d){b:List ez}(hl:b.length<=16)(e:Kb b)(hr:runs js d b=true)(f:Int):kq ⟨js,f,d,b⟩:=
 ⟨⟨hl,(by decide:js.dK.length<=4),hr,c.sm.a⟩,Jc,c.sm,e,λb hl=>(c.r b hl).2⟩
def Vq(b:Int):kq ⟨js,b,jT js,[]⟩:=
 ⟨⟨dA,(by decide:js.dK.length<=4),rfl,sH _⟩,Jc,(uv js dD).up dz,λc a=>by simp at a,vy 4 js⟩
abbrev wT(c:Int)(a:ej)(b:T):T:= .agg [sl (js.cells.map ij.t),sl (js.em.map iF.t),sl (js.gW.map iU.t),sl (js.eg.map T.str),sl (js.dK.map T.str),sl (js.iG.map iH.t),dE c,sl (a.fM.em.map ed.t),dE a.fM.tx,sl (a.fM.done.map T.bool),sl (a.fM.dK.map dN.t),sl (a.cells.map (T.int .i64)),sl (a.eg.map (T.int .i64)),sl (a.count.map (T.int .i64)),b]
structure U3(L:List Int)(s:ej)(n:Int)(e:T)(y:H):Prop where
 g0:y.get 0=some (dG 15 0 [.agg [dF,dF,dF,dF,dF,dF,dE 0,dF,dE 0,dF,dF,dF,dF,dF,dF]])
 g2:∃ver,y.get 2=some (dG 15 ver [wT n s e])
 tp:vm 0 L 1 y
 ok:ig 3 y
def U3.tape{b:List Int}{g:ej}{f:Int}{e:T}{h d:H}(c:U3 b g f e h)(j:vm 0 b 1 d)(a:Sm 1 h d):U3 b g f e d:=by
 obtain⟨k,i⟩:=c.g2;exact⟨(a.get 0 dz).trans c.g0,⟨k,(a.get 2 dz).trans i⟩,j,a.ok.hp,a.ok.low,by rw[a.size];exact c.ok.sz⟩
def U3.put{i:List Int}{d:ej}{n:Int}{k:T}{j:H}(a:U3 i d n k j)(h:Nat)(g:Int)(f:T):U3 i d g f (dY j 2 (dG 15 h [wT g d f])):=by
 have e:=mM (b:=2) a.ok.hp (by have:=a.ok.sz;omega) (dG 15 h [wT g d f]);exact⟨(e 0).trans ((ao dz).trans a.g0),⟨h,(e 2).trans (aq rfl)⟩,a.tp.eq ((e 1).trans (ao dz)),a.ok.put _ _⟩
def TV(b:T):Prop:=∃a:eZ,b=a.t/\kq a
def Fw:nO Tryz.prog cx 18 (λr:List Int×Nat=>[sl (r.1.map (T.int .u8)),dE r.2]) (λr=>okB r.1/\r.2<=16) (λ_=>TV):=by
 refine jt (tb:=⟨pt [(37,Fh),(41,oN),(40,Ev.jv)],ht [(38,jw IBg UD Jr),(39,jw IPl Uu Oy)]⟩) fa eQ (iR 1125900913478003 [] Tryz.func18) (λ_=>10) (λr b y=>by simp at y;exact aR (jD (λ_ _ y=>by simpa using y) y.1) (by have:=y.2;omega)) dA (by simp[Tryz.f18]) ?_;rintro⟨D,B⟩ ⟨H,S⟩ e P;simp only at H S;simp at P;obtain⟨q,h⟩:=P;simp[Tryz.f18,q];refine ll (λe k=>(∃i:List Int,okB i/\i.length<=400/\dH e 0 (sl (i.map (T.int .u8))))/\k=hE.cons (dG 15 0 [.agg [dF,dF,dF,dF,dF,dF,dE 0,dF,dE 0,dF,dF,dF,dF,dF,dF]])/\dH e 1 (dE B)/\dH e 4 (.ptr 0 0 0 0)) (λA=> ?_) (λA=> ?_) ?_
 ·simp at A;simp[q,h,show 400<=D.length by omega];refine⟨D.take 400,⟨dB,λx aE=>H.2 x (bF aE)⟩,dB,rfl⟩
 ·simp at A;simp[q,h];exact⟨D,H,dz,rfl⟩
 rintro e _ ⟨⟨i,O,an,q⟩,rfl,h,l⟩;simp[q,LD];generalize u:((hE.cons _).cons _).cons _=w;have bu:w.size=3:=by rw[<-u];rfl
 have a7:ig 0 w:=by rw[<-u];exact⟨dA,by simp[size_cons],dA⟩
 have a8:w.get 0=some (dG 15 0 [.agg [dF,dF,dF,dF,dF,dF,dE 0,dF,dE 0,dF,dF,dF,dF,dF,dF]]):=by rw[<-u];simp[size_cons]
 have bi:w.get 1=some (dG 2 0 [.agg [sl (i.map (T.int .u8)),dE 0]]):=by rw[<-u];simp[size_cons]
 have bk:w.get 2=some (dG 15 1 [.agg [sl (js.cells.map ij.t),sl (js.em.map iF.t),sl (js.gW.map iU.t),sl (js.eg.map T.str),sl (js.dK.map T.str),sl (js.iG.map iH.t),dE 0,dF,dE 0,dF,dF,dF,dF,dF,dF]]):=by rw[<-u];simp[size_cons]
 clear u;refine iq adZ dA ⟨i,1⟩ ⟨rfl,⟨0,0,bi,dA⟩,a7,O⟩ ?_;rintro _ k ⟨g,rfl,j,t1,o⟩;simp only at t1 o;have bp:=(o.get 2 dz).trans bk;have bn:=(o.get 0 dz).trans a8;have ca:k.size=3:=by rw[o.size,bu]
 have al:=λd=>(mM (b:=2) o.ok.hp dz d 2).trans (aq rfl);simp[bp,al];have C:U3 i g 0 dF (dY k 2 (dG 15 2 [wT 0 g dF])):=by
  have v:=mM (b:=2) o.ok.hp dz (dG 15 2 [wT 0 g dF]);exact⟨(v 0).trans ((ao dz).trans bn),⟨2,(v 2).trans (aq rfl)⟩,t1.eq ((v 1).trans (ao dz)),ig.put ⟨o.ok.hp,o.ok.low,dz⟩ _ _⟩
 generalize dY k 2 _=Y at*
 refine fy 4 dz (λm e k=>(∃f:Int,U3 i g f dF k/\0<=f/\f<=4*m)/\dH e 1 (dE B)/\dH e 4 (.ptr 0 0 0 0)/\dH e 5 (.ptr 1 0 0 0)/\dH e 6 (.ptr 2 0 0 0)/\dH e 26 (sl (g.count.map (T.int .i64)))/\dH e 27 (dE 4)/\dH e 28 (dE m)) ?_ ?_ dz ⟨⟨0,C,dz,dz⟩,by simp[h,l,j.n.2.2.2.2.2]⟩
 ·clear C q h l;rintro m e k bH ap ⟨⟨f,a,aN,aX⟩,h,l,G,z,N,E,F⟩;have av:(m:Int)<4:=dz;have R:m<g.count.length:=by have:=j.n.2.2.2.2.2;omega
  obtain⟨K,s⟩:=a.g2;have bC:=j.c g.count[m] (aC R);have W:binop .add (dE f) (dE g.count[m])=some (dE (f+g.count[m])):=zf rfl dz dz;simp[h,l,G,z,N,E,F,av,R,s,W,ap];exact⟨_,a.put _ _ _,dz,dz⟩
 clear C q h l;rintro e k ⟨⟨f,a,aN,aX⟩,h,l,G,z,N,E,F⟩;obtain⟨K,s⟩:=a.g2;have a6:min (B:Int) 16=B:=dz;simp[h,G,z,E,F,s,a6];obtain⟨bS,bT,bX,b6,b7,b8⟩:=j.n;refine iq adW dA ⟨i,1,g,js,B,true⟩ ⟨rfl,a.tp,⟨a.ok.hp,a.ok.low,aw _⟩,O,an,S,(by decide:js.dK.length=4),(by decide:js.cells.length=5),(by decide:js.gW.length<=1000),j.fits,j.sm,dC⟩ ?_;rintro _ b9 ⟨I,rfl,hl,Q,hr,t2,V⟩;simp only at hl hr t2 V;replace a:=a.tape t2 V;clear s;obtain⟨K,s⟩:=a.g2;have bz:=a.put (K+1) f (sl (I.map ez.t));have M:=λd=>(mM (b:=2) a.ok.hp (by have:=a.ok.sz;omega) d 2).trans (aq rfl);have aA:kq ⟨js,f,g,I⟩:=j.win dz Q hr f;obtain⟨_,⟨bB,rfl⟩,ae⟩:=Ev.use ⟨js,f,g,I⟩ ⟨j.ask dz Q f,j.fits,dC⟩;simp[z,s,M,ae];have v:=λd X=>mM (b:=2) a.ok.hp (by have:=a.ok.sz;omega) d X;have L:=λd=>(v d 0).trans ((ao dz).trans a.g0);have Jz:=λd=>a.ok.put 2 d;have bs:=λd=>(Jz d).sz;have U:=λd J=>(mM (b:=0) (Jz d).hp (by have:=bs d;omega) J 0).trans (aq rfl);have bN:=λd J=>((Jz d).put 0 J).hp;refine ee (λA=> ?_) (λA=> ?_)
 ·have Z:=λ{tb:fJ} (ht:tb.p 41=some oN)=>Dc ht js dD dD dD dD;simp[l,LD,Z,L,U];exact⟨⟨⟨js,0,jT js,[]⟩,rfl,Vq 0⟩,a.ok.hp⟩
 ·simp[l,z,M,L,U];exact⟨⟨_,rfl,aA⟩,a.ok.hp⟩
end
noncomputable section
open Go Go.TI
attribute [-simp] List.map_take List.map_drop List.map_append fG fg ei Bool.not_or Bool.not_and
attribute [simp] fF fh
def uz:hU:=⟨Bool,λa=>[.bool a],λ_=>True,λa=> dE (if a then 1 else 0),λc a b=>by simp at b;rw[b]⟩
def OU:uz.Ok Tryz.prog cx 250:=by
 refine iv (tb:=⟨pt [],ht []⟩) fa eQ (iR 13 [] Tryz.func250) (λ_=>5) (by simp[uz]) (by simp[uz,Tryz.f250]) ?_;rintro b _ c a;cases b<;>(simp[uz]at a|-;simp[Tryz.f250,a])
def LF{b:fJ}(ht:b.p 250=some uz)(a:Bool):rl Tryz.prog cx b 250 [.bool a]=some (dE (if a then 1 else 0)):=im ht OU a trivial
def Wl(c:T):Prop:=∃(b:Int) (a:Bool),c= .tuple [dE b,.bool a]
def FM(b:Int)(a:Bool):Wl (.tuple [dE b,.bool a]):=⟨b,a,rfl⟩
def Z6{b:ak}{c a:Int}(e:¬a=0):binop .quo (.int b c) (.int b a)=some (.int b (b.wrap (c.tdiv a))):=by
 have d:Rz a 0=false:=by rw[xW];simp[e]
 unfold binop;simp[wS,d]
def aeg{a:ak}{b:Int}:unop .neg (.int a b)=some (.int a (a.wrap (0-b))):=by
 show pY a (0-b)=_;simp
def Hq:nO Tryz.prog cx 233 (λa:Int×Int=>[dE a.1,dE a.2]) (λ_=>True) (λ_=>Wl):=by
 refine jt (tb:=⟨pt [(250,uz)],ht []⟩) fa eQ (iR 2291 [] Tryz.func233) (λ_=>5) (λa e b=>by simp at b;exact aR b.1 b.2) dA (by simp[Tryz.f233]) ?_;rintro⟨f,a⟩ _ g c;simp at c;simp[Tryz.f233,c]
 repeat' (refine ee (λd=> ?_) (λd=> ?_)<;>simp[d,c,LF,FM,aeg])
def EG:nO Tryz.prog cx 235 (λa:Int×Int×Int=>[dE a.1,dE a.2.1,dE a.2.2]) (λ_=>True) (λ_=>Wl):=by
 refine jt (tb:=⟨pt [(250,uz)],ht []⟩) fa eQ (iR 9690595855641090246329287 [] Tryz.func235) (λ_=>5) (λa e b=>by simp at b;exact aR b.1 (aR b.2.1 b.2.2)) dA (by simp[Tryz.f235]) ?_;rintro⟨g,a,e⟩ _ h c;simp at c;simp[Tryz.f235,c]
 repeat' (refine ee (λd=> ?_) (λd=> ?_)<;>simp[d,c,LF,FM,ou,uu,aaJ])
 all_goals (have f:¬e=0:=by simpa using d)
 all_goals simp [Z6 f,DD f,FM]
def xL:nO Tryz.prog cx 234 (λa:Int=>[dE a]) (λ_=>True) (λ_=>EQ):=by
 refine jt (tb:=⟨pt [],ht []⟩) fa eQ (iR 261 [] Tryz.func234) (λ_=>5) (λa e d=>by simpa using d) dA (by simp[Tryz.f234]) ?_;rintro a _ f b;simp at b;simp[Tryz.f234,b]
 repeat' (refine ee (λc=> ?_) (λc=> ?_)<;>simp[c,b])
end
end Go.Proofs.YtmaeadedikngoaaGreatDoor
