/- W06x -/
import Derived.Test.YtbappgeamhmmbaaGreatDoorA26
set_option linter.all false
set_option maxRecDepth 100000
set_option maxHeartbeats 0
namespace Go.Proofs.YtbappgeamhmmbaaGreatDoor
noncomputable section
open Go Go.TI Tryz
attribute [-simp] List.map_take List.map_drop List.map_append fj ez TI.d8 Bool.not_or Bool.not_and
attribute [simp] fh eG
def eT(a:Int×T):T:= .agg [.int .i64 a.1,a.2]
def abF{e:H}{c:Nat->Prop}{g:Int}{b d f:Nat}{a:List fD}(h:c b)(j:e.jf (.arr b d 0 f false)=some (a.map fD.t)):FT e c 4 (eT (g,.arr b d 0 f false)) (fy.t ⟨g,a⟩):=by
 have i:∀a:List fD,ir (FT e c 2) (a.map fD.t) (a.map fD.t):=λa=>by
  induction a with
  |nil=>exact .nil
  |cons l a k=>exact .cons (.inr (.inr ⟨_,_,rfl,.cons (fZ ..) (.cons (fZ ..) (.cons (fZ ..) (.cons (fZ ..) (.cons (fZ ..) (.cons (fZ ..) .nil))))),rfl⟩)) k
 exact .inr (.inr ⟨_,_,rfl,.cons (fZ ..) (.cons (.inr (.inl ⟨b,d,0,f,false,_,_,rfl,h,j,i a,rfl⟩)) .nil),rfl⟩)
def PcS(W:dR)(a:H)(f:Nat):Prop:=∃g e,∃b:List (Int×T),∃d:List fy,m9 a 2 7 g [(sl (W.cells.map fW.t),none),(sl (W.dW.map ig.t),none),(sl (W.fV.map iA.t),none),(sl (W.dU.map T.str),none),(sl (W.dC.map T.str),none),(sl (W.io.map ik.t),none),(e,some (2,b.map eT))]/\
 ir (FT a (λc=>2<c/\c<a.size/\¬Fp a 2 c) 4) (b.map eT) (d.map fy.t)/\b.length=f/\∀h∈d,h.iY.length<=10000001
def OL{h:H}{w:Nat}{x:iI}(f:h.get w=some x)(g:∀b∈eY x.eg,dM b=none)(c:Nat)(e:Fp h w c):c=w:=by
 rcases e with a|⟨j,d,b,i,a⟩
 ·exact a
 ·rw[f]at d;cases d;rw[g b i]at a;simp at a
structure Kp(h h':H):Prop where
 sz:h.size<h'.size
 get:∀b,b<h.size->h'.get b=h.get b
 fp:∀b,Fp h' h.size b->h.size<=b
def Kp.step{c f g:H}(b:Kp c f)(e:Step c.size f g):Kp c g:=
 ⟨bp b.sz e.ok.sz,λa d=>(e.get a (by have:=b.sz;omega) λh=>by have:=b.fp a h;omega).trans (b.get a d),λa d=>(e.fp a d).elim (b.fp a) λh=>by have:=b.sz;omega⟩
def Kp.new{h:H}(g:gH 0 h)(W:dR)(a:List (List Nat))(b:Int):Kp h (h.cons ⟨10,0,0,true,false,[.agg (sq W a (.Y [] false) 0 b)]⟩)/\Gn W a 0 (h.cons ⟨10,0,0,true,false,[.agg (sq W a (.Y [] false) 0 b)]⟩) h.size:=by
 have f:=OL (h:=h.cons ⟨10,0,0,true,false,[.agg (sq W a (.Y [] false) 0 b)]⟩) (w:=h.size) (x:=⟨10,0,0,true,false,[.agg (sq W a (.Y [] false) 0 b)]⟩) (by rw[dO,aq rfl]) (λi e=>by
  simp[eY,sq,T.cells]at e;rcases e with rfl|rfl|rfl|rfl|rfl|rfl|rfl|rfl|rfl|rfl<;>simp)
 exact⟨⟨J,λc d=>by rw[dO,ao B],λc d=>by rw[f c d];exact au _⟩,g.cons _,λc d=>by rw[f c d];simp,0,.Y [] false,0,b,[],by rw[dO,aq rfl],Gr.nil _ _,rfl⟩
structure Sn(h h':H):Prop where
 ok:gH 0 h'
 size:h'.size=h.size+1
 get:∀c,c<h.size->h'.get c=h.get c
def Sn.new{a:H}(c:gH 0 a)(b:iI):Sn a (a.cons b):=⟨c.cons b,J,λd e=>by rw[dO,ao B]⟩
theorem Sn.put{a b:H}(d:Sn a b){x:iI}(g:b.get a.size=some x)(e:iI):Sn a (dT b a.size e):=⟨d.ok.put _ e,by rw[fI];exact d.size,λc f=>by rw[dF g,ao B];exact d.get c f⟩
def Hm:iI:=⟨7,0,0,true,false,[.agg [.Y [] false,.Y [] false,.Y [] false,.Y [] false,.Y [] false,.Y [] false,.Y [] false]]⟩
def Ay:mW prog cx 61 (λg:fx=>[g.t]) (λg=>N5 g/\g.dC.length<=100) (λg v=>∃(c:jG) (e l:Int),v= .tuple [c.t,.int .i64 e,.int .i64 l]/\∀P∈c.dC,P.iY.length<=10000001):=by
 refine xN (tb:=⟨pt [(104,jK.ji),(105,BX.ji),(108,nq)],ht [(106,Dd 10000001),(107,jr C3 tV qh)]⟩) iB gW (iP 19808249554385699031857790975 [] func61) (λg=>10000005) (λa m h=>by simp at h;exact fx.inj h) J nl9 ?_;rintro g ⟨b7,e5⟩ b b8;simp at b8;have bu:=b7.1;have di:=λ{tb:fw} (ht:tb.p 104=some jK.ji)=>c04 ht g bu;obtain⟨_,⟨W,rfl,bl⟩,dk⟩:=BX.use g b7;simp[f61,b8,di];refine dV (λan=>?_) (λan=>?_)
 ·simp at an;simp[an];exact⟨⟨⟨[],[],[],[],[],[]⟩,[]⟩,rfl,J⟩
 have bl:=bl (by simpa using an);simp[dk];refine fc g.dC.length B (λi b h=>PcS W h i/\Lb 2 h 0 ⟨2,0,0,true,false,[g.t]⟩/\Lb 2 h 1 Hm/\TI.dG b 1=some (.ptr 0 0 0 0)/\TI.dG b 2=some (.ptr 1 0 0 0)/\TI.dG b 7=some (.ptr 2 0 0 0)/\(∃aE:Int,TI.dG b 8=some (.int .i64 aE))/\TI.dG b 9=some (.int .i64 i)) ?_ ?_ B ?_
 ·rintro i b h ap ec ⟨c6,ae,V,o,r,s,⟨aE,z⟩,u⟩;have fi:=c6;obtain⟨ver,aN,E,X,j,a,hE,bn⟩:=c6;have U:=j.get;simp at U;have eA:(0=h.size)=False:=by have:=j.lt;simp;omega
  have eB:(2=h.size)=False:=by have:=j.lt;simp;omega
  simp[o,r,s,z,u,ap,ae.get,U,eA,eB,j.ok.low];have ht:=bu.1.2.2 g.dC[i] (aD ap);have ey:=bu.2.2.1 g.dC[i] (aD ap);have e6:g.dC[i]? =some g.dC[i]:=ay ap;generalize g.dC[i]=dd at*
  have⟨y,eC⟩:=Kp.new j.ok W dd.locals aE;refine Ku (Ll 10000001) J eC bl ht.1 ey B B λeR c1 eL e8 e9 cp=>?_;replace y:=y.step eL;have⟨fo,fe,fl,bB,eO,gA,ds,eb⟩:=cp.ex;have⟨FO,eD⟩:=cp.Gv gA ds eb (-1) bB;replace y:=y.step FO;simp only[sq]at gA;simp[o,r,s,u,gA,dN];refine nO (i:=⟨28,0,0,0,0,0⟩) J eD B λN eM cL=>?_;replace y:=y.step eM;have⟨fs,fm,fb,de,m,al,fv,eP,eN,gC,a7,eV,er,ce,eS,et⟩:=cL.opn B;have e2:(N.size=h.size)=False:=by have:=y.sz;simp;omega
  have b9:m<N.size:=H.ej a7;have eW:=y.fp m er;have c4:=cL.ok;simp only[sq]at gC;have e1:c1+1<=1000001:=B;generalize c1+1=R at*
  generalize ca:h.size=S at*
  simp[o,r,s,u,gC,c4.low];refine fc R B (λk b A=>∃(v:Int) (I:Nat),Sn N A/\A.get N.size=some ⟨2,0,I,true,false,[.agg [.int .i64 v,.arr m al 0 R false]]⟩/\TI.dG b 1=some (.ptr 0 0 0 0)/\TI.dG b 2=some (.ptr 1 0 0 0)/\TI.dG b 7=some (.ptr 2 0 0 0)/\TI.dG b 8=some (.int .i64 bB)/\TI.dG b 9=some (.int .i64 i)/\TI.dG b 10=some (.ptr S 0 0 0)/\TI.dG b 11=some (.ptr N.size 0 0 0)/\TI.dG b 12=some (.int .i64 k)) ?_ ?_ B ?_
  ·rintro k b A cb ef ⟨v,I,x,C,o,r,s,z,u,K,L,M⟩;have aX:=(x.get S (by rw[<-ca];exact y.sz)).trans gC;have dv:=(x.get m b9).trans a7;have⟨P,bz⟩:=et k cb;simp[o,r,s,z,u,K,L,M,aX,dv,cb,bz,ul];have e3:(iK P).length<=3:=by unfold iK;(repeat' split)<;>simp
   refine fc (iK P).length B (λn b A=>∃(v:Int) (I:Nat),Sn N A/\A.get N.size=some ⟨2,0,I,true,false,[.agg [.int .i64 v,.arr m al 0 R false]]⟩/\TI.dG b 1=some (.ptr 0 0 0 0)/\TI.dG b 2=some (.ptr 1 0 0 0)/\TI.dG b 7=some (.ptr 2 0 0 0)/\TI.dG b 8=some (.int .i64 bB)/\TI.dG b 9=some (.int .i64 i)/\TI.dG b 10=some (.ptr S 0 0 0)/\TI.dG b 11=some (.ptr N.size 0 0 0)/\TI.dG b 12=some (.int .i64 k)/\TI.dG b 13=some (sl ((iK P).map (T.int .i64)))/\TI.dG b 14=some (.int .i64 n)) ?_ ?_ B ⟨v,I,x,C,by simp[o,r,s,z,u,K,L,M]⟩
   ·rintro n b A bs eh ⟨v,I,x,C,o,r,s,z,u,K,L,M,a8,bi⟩;simp[o,r,s,z,u,K,L,M,a8,bi,bs,C,nG,dN];exact⟨x.put C _,⟨_,_,(dF C _ _).trans (aq rfl)⟩,by simpa[nG]using eh⟩
   ·rintro b A ⟨v,I,x,C,o,r,s,z,u,K,L,M,a8,bi⟩;simp[o,r,s,z,u,K,L,M,a8,bi,ef];exact⟨x,v,I,C⟩
  ·rintro b A ⟨v,I,x,C,o,r,s,z,u,K,L,M⟩;have Q:∀c,c<h.size->A.get c=h.get c:=λc G=>(x.get c (by have:=y.sz;omega)).trans (y.get c G);have bC:=j.step x.ok λc G=>Q c (j.fp c G);have b6:=bC.get;simp at b6;have⟨bH,bk,bS,bN⟩:=(bC.gr 6 rfl).mQ (cx:=cx) (f:=eT) x.ok Wh rfl Ru rfl J (λP=>rfl) (v,.arr m al 0 R false) dp;have⟨c7,eE,eF⟩:=bC.app 6 rfl bN;have⟨O,c9⟩:=eF _ rfl;simp at c7 O c9;simp only[eT]at bS;have aX:=(x.get S (by rw[<-ca];exact y.sz)).trans gC;simp[aX,o,r,s,z,u,K,L,M,C,b6,bS,c7,eE,dN,bN.1.fg,bN.1.cells,ec];have e4:=x.size;have eX:=y.sz;have av:=iL (Q 2 j.lt);have eo:∀c,c<S->¬Fp h 2 c->(dT bk 2 _).get c=h.get c:=λc G bs=>(O.get c B (by rw[av];exact bs)).trans (Q c B);have e0:=j.lt;refine⟨⟨_,bH,E++[(v,.arr m al 0 R false)],X++[⟨v,de⟩],by simpa using c9,?_,dp,λP bz=>?_⟩,(ae.jV (Q 2 j.lt) (Q 0 ae.lt)).step O,(V.jV (Q 2 j.lt) (Q 1 V.lt)).step O⟩
   ·rw[List.map_append,List.map_append];have e7:A.size<=(dT bk 2 (⟨7,0,ver+1,true,false,[.agg [sl (W.cells.map fW.t),sl (W.dW.map ig.t),sl (W.fV.map iA.t),sl (W.dU.map T.str),sl (W.dC.map T.str),sl (W.io.map ik.t),bH]]⟩:iI)).size:=O.ok.sz;refine ir.append (a.ft λc G=>⟨⟨G.1,B,λq=>?_⟩,eo c G.2.1 G.2.2⟩) (.cons (abF ⟨B,B,λq=>?_⟩ ?_) .nil)
    ·rcases O.fp c q with q|q
     ·rw[av]at q;exact G.2.2 q
     ·omega
    ·rcases O.fp m q with q|q
     ·rw[av]at q;have:=j.fp m q;omega
     ·omega
    ·have ea:(dT bk 2 (⟨7,0,ver+1,true,false,[.agg [sl (W.cells.map fW.t),sl (W.dW.map ig.t),sl (W.fV.map iA.t),sl (W.dU.map T.str),sl (W.dC.map T.str),sl (W.io.map ik.t),bH]]⟩:iI)).get m=_:=((O.get m B λq=>by rw[av]at q;have:=j.fp m q;omega).trans (x.get m b9)).trans a7;have eu:R<=eN.length:=by
      have:=bG List.length ce;rw[List.length_take,aG]at this;omega
     rw[gh,ea];simp[eu,ce]
   ·rcases List.mem_append.1 bz with q|q
    ·exact bn P q
    ·rw[List.mem_singleton.1 q];simp only;omega
  ·exact⟨dd.locals.length,1,Sn.new c4 _,J,by simp[o,r,s,u]⟩
 ·rintro b h ⟨⟨ver,aN,E,X,j,a,hE,bn⟩,ae,V,o,r,s,⟨aE,z⟩,u⟩;have U:=j.get;simp at U;have aA:=V.get;unfold Hm at aA;have eI:=j.ry V ⟨7,0,1,true,false,[.agg [sl (W.cells.map fW.t),sl (W.dW.map ig.t),sl (W.fV.map iA.t),sl (W.dU.map T.str),sl (W.dC.map T.str),sl (W.io.map ik.t),aN]]⟩;have dn:(dT h 1 ⟨7,0,1,true,false,[.agg [sl (W.cells.map fW.t),sl (W.dW.map ig.t),sl (W.fV.map iA.t),sl (W.dU.map T.str),sl (W.dC.map T.str),sl (W.io.map ik.t),aN]]⟩).get 1=_:=(dF aA _ 1).trans (aq rfl);have dm:=(eI.gr 6 rfl).IS (d:=4) B (a.ft (V':=λ_=>True) λm eU=>⟨trivial,by rw[dF aA,ao B]⟩);simp[o,r,s,z,u,ae.get,U,aA,dN,dn,dm];exact⟨⟨⟨W,X⟩,rfl,bn⟩,j.ok.hp⟩
 ·have⟨eH,bT⟩:=m9.start (h:=((hE.cons ⟨2,0,0,true,false,[g.t]⟩).cons Hm).cons ⟨7,0,1,true,false,[.agg [sl (W.cells.map fW.t),sl (W.dW.map ig.t),sl (W.fV.map iA.t),sl (W.dU.map T.str),sl (W.dC.map T.str),sl (W.io.map ik.t),.Y [] false]]⟩) (w:=2) (szw:=7) (ver:=1) (F:=[(sl (W.cells.map fW.t),none),(sl (W.dW.map ig.t),none),(sl (W.fV.map iA.t),none),(sl (W.dU.map T.str),none),(sl (W.dC.map T.str),none),(sl (W.io.map ik.t),none),(.Y [] false,some (2,[]))]) ⟨J,J,J⟩ (by simp[Hm]) J;exact⟨⟨_,_,[],[],eH,.nil,rfl,J⟩,⟨J,λq=>absurd (bT 0 q) dt⟩,⟨by simp[Hm],λq=>absurd (bT 1 q) dt⟩,J⟩
