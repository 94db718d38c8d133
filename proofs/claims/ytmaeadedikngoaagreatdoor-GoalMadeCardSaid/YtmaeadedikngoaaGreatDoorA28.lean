/- Texts W09f to W06x. -/
import Derived.Test.YtmaeadedikngoaaGreatDoorA27
set_option linter.unusedVariables false
set_option linter.unusedSimpArgs false
set_option maxRecDepth 100000
set_option maxHeartbeats 8000000
namespace Go.Proofs.YtmaeadedikngoaaGreatDoor
noncomputable section
open Go Go.TI
attribute [-simp] List.map_take List.map_drop List.map_append fi ei dT Bool.not_or Bool.not_and
attribute [simp] fh ew
def Sp9(f:H)(a:ej)(b c:List Int):Prop:=∃g d e,qY f 2 7 g [(sl (a.dP.map dF.t),none),(.int .i64 a.tx,none),(sl (a.done.map T.bool),none),(sl (a.dp.map dx.t),none),(d,some (1,fD b)),(e,some (1,fD c)),(.dq [] false,none)]
structure Tt9(c:jh)(S:ej)(C F:List Int)(cc cf:T)(n1 k:Nat)(h:H)(ver:Nat)(ct:T)(es:List T)(ts:List dK)(lo hi:Nat->Nat):Prop where
 ok:gh 0 h
 n:3<=n1/\n1<=h.size
 b0:h.get 0=some ⟨7,0,0,true,false,[c.t]⟩
 b1:h.get 1=some tZ
 b2:h.get 2=some ⟨7,0,ver,true,false,[.agg [sl (S.dP.map dF.t),.int .i64 S.tx,sl (S.done.map T.bool),sl (S.dp.map dx.t),cc,cf,ct]]⟩
 gc:Gr h cc 1 (fD C)
 gf:Gr h cf 1 (fD F)
 bx:∀q,dE cc=some q\/dE cf=some q->3<=q/\q<n1
 th:Q5 n1 h ct es ts lo hi
 l:ts.length=k
 t:∀t∈ts,S8 1000000 t/\t.dw=0
def acT(b:T):Prop:=∃a:gJ,b=a.t/\StI a/\UP 0 a
theorem CH:nZ Tryz.prog cx 76 (λk:jh=>[k.t]) (λk=>∀x∈k.dp,x.iJ.length<=10000001) (λ_=>acT):=by
 refine jk (tb:=⟨pt [(74,u9.jl),(73,qv)],ht []⟩) dX dU (iN 4504699140047487 [] Tryz.func76) (λ_=>1005) (λa b h=>by simp at h;exact jh.inj h) (by simp) (by simp[Tryz.f76]) ?_
 rintro k di r X
 simp at X
 obtain⟨_,⟨b,rfl,bi⟩,bN⟩:=u9.use k di
 cases b with
 |false=>
  simp[Tryz.f76,X,bN]
  exact⟨⟨⟨[],0,[],[]⟩,[],[],[]⟩,rfl,⟨by simp,λl hl=>by simp at hl,λl hl=>by simp at hl,λK ht=>by simp at ht⟩,λK ht=>by simp at ht⟩
 |true=>
  have U:=bi rfl
  have aA:=rU U.1
  obtain⟨eS,eU,eV,eW,eX,b7⟩:=aA
  have eN:k.dp.length<=4:=by rw[U.2.1];exact b7
  simp[Tryz.f76,X,bN,GQ,show k.d8.dP.length<=1000000 by omega,show k.d8.dR.length<=1000000 by omega,show k.d8.dp.length<=1000000 by omega]
  have a8:(kF k.d8).dP.length=k.d8.dP.length/\(kF k.d8).done.length=k.d8.dR.length/\(kF k.d8).dp.length=k.d8.dp.length:=by simp[kF]
  have c7:G6 4 (kF k.d8):=(yU 4 k.d8)
  have c9:(kF k.d8).Dc:=um k.d8
  generalize kF k.d8=o at*
  refine eQ k.d8.cells.length (by omega) (λs r h=>∃G,Sp9 h o G []/\G.length=s/\Lb 2 h 0 ⟨7,0,0,true,false,[k.t]⟩/\Lb 2 h 1 tZ/\TI.dt r 1=some (.ptr 0 0 0 0)/\TI.dt r 2=some (.ptr 1 0 0 0)/\TI.dt r 3=some (.ptr 2 0 0 0)/\TI.dt r 4=some (.int .i64 s)) ?_ ?_ (by omega) ?_
  ·rintro s r h P Y ⟨G,⟨ver,I,J,u⟩,c4,z,N,v,C,D,E⟩
   have B:=u.get
   simp at B
   obtain⟨ey,h',S,y⟩:=(u.gr 4 rfl).nY (cx:=cx) (f:=T.int .i64) u.ok oG rfl zl rfl (by simp) (λ_=>rfl) k.d8.cells[s].lY (by simp;omega)
   obtain⟨Z,ef,bv⟩:=u.app 4 rfl y
   obtain⟨Q,ae⟩:=bv _ rfl
   simp only[aU,cz,da,cR]at Z Q ae
   simp[v,C,D,E,P,z.get,B,S,Z,dG,y.1.fT,y.1.cells,Y]
   exact⟨G++[k.d8.cells[s].lY],⟨_,_,_,ae⟩,by simp;omega,z.step Q,N.step Q⟩
  ·rintro r h ⟨G,eh,c4,z,N,v,C,D,E⟩
   simp[v,E,z.get]
   refine eQ k.d8.dR.length (by omega) (λs r h=>∃F,Sp9 h o G F/\F.length=s/\Lb 2 h 0 ⟨7,0,0,true,false,[k.t]⟩/\Lb 2 h 1 tZ/\TI.dt r 1=some (.ptr 0 0 0 0)/\TI.dt r 2=some (.ptr 1 0 0 0)/\TI.dt r 3=some (.ptr 2 0 0 0)/\TI.dt r 5=some (.int .i64 s)) ?_ ?_ (by omega) ?_
   ·rintro s r h P Y ⟨F,⟨ver,I,J,u⟩,a7,z,N,v,C,D,E⟩
    have B:=u.get
    simp at B
    obtain⟨ey,h',S,y⟩:=(u.gr 5 rfl).nY (cx:=cx) (f:=T.int .i64) u.ok oG rfl zl rfl (by simp) (λ_=>rfl) 0 (by simp;omega)
    obtain⟨Z,ef,bv⟩:=u.app 5 rfl y
    obtain⟨Q,ae⟩:=bv _ rfl
    simp only[aU,cz,da,cR]at Z Q ae
    simp[v,C,D,E,P,z.get,B,S,Z,dG,y.1.fT,y.1.cells,Y]
    exact⟨F++[0],⟨_,_,_,ae⟩,by simp;omega,z.step Q,N.step Q⟩
   ·rintro r h ⟨F,⟨ver,I,J,u⟩,a7,z,N,v,C,D,E⟩
    simp[v,E,z.get]
    have B:=u.get
    simp at B
    have an:=u.gr 4 rfl
    have ap:=u.gr 5 rfl
    have ca:∀q,dE I=some q\/dE J=some q->3<=q/\q<h.size:=λq M=>by
     have bn:Fp h 2 q:=by
      rcases M with x|x
      ·exact u.Ij (f:=(I,some (1,fD G))) (by simp) x
      ·exact u.Ij (f:=(J,some (1,fD F))) (by simp) x
     refine⟨?_,u.fp q bn⟩
     have b8:q≠0:=λx=>z.nf (by rw[<-x];exact bn)
     have eA:q≠1:=λx=>N.nf (by rw[<-x];exact bn)
     have e0:q≠2:=λx=>by
      subst x
      rcases M with x|x
      ·obtain⟨_,_,_,_,O,_⟩:=an.box x;rw[B]at O;simp at O
      ·obtain⟨_,_,_,_,O,_⟩:=ap.box x;rw[B]at O;simp at O
     omega
    have eM:=H.dL B
    have eI:=an.fT
    have eE:=an.cells
    have eL:=ap.fT
    have eF:=ap.cells
    refine eQ k.dp.length (by omega) (λs r h'=>∃ver R aN al bs bp,Tt9 k o G F I J h.size s h' ver R aN al bs bp/\TI.dt r 1=some (.ptr 0 0 0 0)/\TI.dt r 2=some (.ptr 1 0 0 0)/\TI.dt r 3=some (.ptr 2 0 0 0)/\TI.dt r 6=some (.int .i64 s)) ?_ ?_ (by have:=U.2.1;have:=b7;omega) ?_
    ·rintro s r h' P Y ⟨ver,R,aN,al,bs,bp,i,v,C,D,E⟩
     obtain⟨m,dk,eO⟩:∃m:Nat,k.dp[s].iq=m/\m<=32:=⟨k.dp[s].iq.toNat,by have:=U.2.2 _ (aF P);have:=this.1;omega,by have:=U.2.2 _ (aF P);have:=this.2.1;omega⟩
     have cb:m*8<=70368744177664:=by omega
     have ce:m*24<=70368744177664:=by omega
     have c6:=i.n
     have b8:∀q,q<3->(q=h'.size)=False:=λq M=>by simp;omega
     have eA:∀q,q<3->(q=h'.size+1)=False:=λq M=>by simp;omega
     have b6:=i.ok
     have eR:=b6.low
     have Wd:gh 0 ((h'.cons ⟨1,0,0,true,false,List.replicate m (.int .i64 0)⟩).cons ⟨1,0,0,true,false,List.replicate m (.dq [] false)⟩):=(b6.cons _).cons _
     have aX:∀q,((h'.cons ⟨1,0,0,true,false,List.replicate m (.int .i64 0)⟩).cons ⟨1,0,0,true,false,List.replicate m (.dq [] false)⟩).get q=if q=h'.size+1 then some ⟨1,0,0,true,false,List.replicate m (.dq [] false)⟩else if q=h'.size then some ⟨1,0,0,true,false,List.replicate m (.int .i64 0)⟩else h'.get q:=λq=>by rw[dH,dH];rfl
     have b9:((h'.cons ⟨1,0,0,true,false,List.replicate m (.int .i64 0)⟩).cons ⟨1,0,0,true,false,List.replicate m (.dq [] false)⟩).size=h'.size+1+1:=rfl
     have bu:Nb h' ((h'.cons ⟨1,0,0,true,false,List.replicate m (.int .i64 0)⟩).cons ⟨1,0,0,true,false,List.replicate m (.dq [] false)⟩):=⟨⟨Wd.hp,Wd.low,by omega⟩,λq M=>(aX q).trans ((ao (by omega)).trans (ao (by omega)))⟩
     have c1:=i.th.g.mono (h':=(h'.cons ⟨1,0,0,true,false,List.replicate m (.int .i64 0)⟩).cons ⟨1,0,0,true,false,List.replicate m (.dq [] false)⟩) λq x=>bu.get q (by obtain⟨_,_,_,_,O,_⟩:=i.th.g.box x;exact H.dL O)
     obtain⟨W,L,S,y⟩:=c1.uP (cx:=cx) Wd NV rfl JC rfl (by simp) (x:= .agg [.int .i64 0,.arr h'.size 0 0 m false,.arr (h'.size+1) 0 0 m false,.int .i64 0]) rfl (by have:=i.th.l;have:=i.l;have:=U.2.1;simp;omega)
     simp only[b9]at S
     have eB:=y.2.2.2.sz
     rw[b9]at eB
     have aE:∀q,dE R=some q->h.size<=q:=λq x=>(i.th.c q x).1
     have gN:∀q,q<h'.size->dE R≠some q->L.get q=h'.get q:=λq M dm=>(y.2.1 q (by omega) dm).trans (bu.get q M)
     have a6:∀q,q<3->L.get q=h'.get q:=λq M=>gN q (by omega) λx=>by have:=aE q x;omega
     have p2:=(a6 2 (by omega)).trans i.b2
     simp[v,C,D,E,P,i.b0,i.b2,dk,cb,ce,b8,S,p2,y.1.fT,y.1.cells,dG,Y]
     have eb:gh 0 L:=⟨y.2.2.2.hp,y.2.2.2.low,aw _⟩
     have A:∀q,(dI L 2 ⟨7,0,ver+1,true,false,[.agg [sl (o.dP.map dF.t),.int .i64 o.tx,sl (o.done.map T.bool),sl (o.dp.map dx.t),I,J,W]]⟩).get q=if q=2 then some ⟨7,0,ver+1,true,false,[.agg [sl (o.dP.map dF.t),.int .i64 o.tx,sl (o.done.map T.bool),sl (o.dp.map dx.t),I,J,W]]⟩else L.get q:=λq=>dy p2 _ q
     have dv:=eb.put 2 ⟨7,0,ver+1,true,false,[.agg [sl (o.dP.map dF.t),.int .i64 o.tx,sl (o.done.map T.bool),sl (o.dp.map dx.t),I,J,W]]⟩
     have e4:(dI L 2 ⟨7,0,ver+1,true,false,[.agg [sl (o.dP.map dF.t),.int .i64 o.tx,sl (o.done.map T.bool),sl (o.dp.map dx.t),I,J,W]]⟩).size=L.size:=fc ..
     generalize dI L 2 _=a7 at*
     have eP:List.replicate m (T.int .i64 0)=fD (List.replicate m 0):=by simp[fD]
     have er:zo h'.size (h'.size+1+1) ((h'.cons ⟨1,0,0,true,false,List.replicate m (.int .i64 0)⟩).cons ⟨1,0,0,true,false,List.replicate m (.dq [] false)⟩) (.arr h'.size 0 0 m false) (.arr (h'.size+1) 0 0 m false) (List.replicate m (.dq [] false)) ⟨0,List.replicate m 0,List.replicate m [],0⟩:=by
      refine⟨.inr ⟨h'.size,0,0,true,_,by simp,(aX _).trans ((ao (by omega)).trans (aq rfl)),by simp⟩,.inr ⟨h'.size+1,0,0,true,_,by simp,(aX _).trans (aq rfl),by simp⟩,Am (by simp) λj a b X bi=> ?_,λq x=> ?_,λq x=> ?_⟩
      ·have dd:=bQ (az X)
       have de:=bQ (az bi)
       subst dd;subst de
       exact⟨.inr (Gr.nil _ _),λq x=>by simp at x⟩
      ·simp at x;subst x;exact⟨au _,by omega,by simp⟩
      ·simp at x;subst x;exact⟨by omega,by omega⟩
     have eo:=(i.th.app i.n.2 bu er y).mono (h':=a7) (by omega) λq v _=>(A q).trans (ao (by omega))
     refine⟨ver+1,W,_,_,_,_,⟨dv,⟨i.n.1,by omega⟩,(A 0).trans ((ao (by omega)).trans ((a6 0 (by omega)).trans i.b0)),(A 1).trans ((ao (by omega)).trans ((a6 1 (by omega)).trans i.b1)),(A 2).trans (aq rfl),i.gc.mono λq x=> ?_,i.gf.mono λq x=> ?_,i.bx,eo,by simp[i.l],λK ht=> ?_⟩⟩
     ·have:=i.bx q (.inl x)
      exact(A q).trans ((ao (by omega)).trans (gN q (by omega) λp=>by have:=aE q p;omega))
     ·have:=i.bx q (.inr x)
      exact(A q).trans ((ao (by omega)).trans (gN q (by omega) λp=>by have:=aE q p;omega))
     ·rcases List.mem_append.1 ht with q|q
      ·exact i.t K q
      ·simp at q;subst q
       exact⟨⟨by simp;omega,by simp;omega,λl hl=>by have:=bQ hl;subst this;exact Tn.nil _⟩,rfl⟩
    ·rintro r h' ⟨ver,R,aN,al,bs,bp,i,v,C,D,E⟩
     have bk:=i.b1
     unfold tZ at bk
     have A:∀p q,(dI h' 1 p).get q=if q=1 then some p else h'.get q:=λp q=>dy bk p q
     have c6:=i.n
     have cp:∀p,TI.fz (dI h' 1 p) I=some (sl (fD G)):=λp=>(i.gc.mono (h':=dI h' 1 p) λq x=>by have:=i.bx q (.inl x);rw[A,ao (by omega)]).fz (by simp)
     have cL:∀p,TI.fz (dI h' 1 p) J=some (sl (fD F)):=λp=>(i.gf.mono (h':=dI h' 1 p) λq x=>by have:=i.bx q (.inr x);rw[A,ao (by omega)]).fz (by simp)
     have cX:∀p,TI.fz (dI h' 1 p) R=some (sl (al.map dK.t)):=λp=>by
      have bB:=i.th.mono (h':=dI h' 1 p) (by rw[fc];exact au _) λq v _=>by rw[A,ao (by omega)]
      refine bB.g.Gl (V:=λ_=>True) (d:=4) (by omega) (Am (by simp[bB.l]) λj x w ds aA=> ?_)
      rw[aT]at aA
      obtain⟨eu,dn,rfl⟩:=Option.map_eq_some_iff.1 aA
      obtain⟨eC,eD,eH,rfl,et⟩:=bB.e j x eu ds dn
      exact .inr (.inr ⟨_,_,rfl,et.fz _ λ_ _ _=>trivial,rfl⟩)
     simp[v,C,D,E,i.b0,i.b2,bk,dG,A,cp,cL,cX,i.ok.hp]
     have hl:=i.l
     refine⟨⟨o,G,F,al⟩,rfl,⟨⟨by rw[a8.1];omega,by rw[a8.2.1];omega,by rw[a8.2.2];omega,by simp only;omega,by simp only;omega,by simp only;omega⟩,c7,c9,λK ht=>(i.t K ht).1⟩,λK ht=>by have:=(i.t K ht).2;omega⟩
    ·refine⟨ver,.dq [] false,[],[],λ_=>0,λ_=>0,⟨u.ok,⟨by omega,au _⟩,z.get,N.get,B,an,ap,ca,⟨Gr.nil _ _,rfl,λs e K x=>by simp at x,λs x=>by simp at x,λs j x p=>by simp at p,λk x=>by simp at x⟩,rfl,λK ht=>by simp at ht⟩,by simp[v,C,D]⟩
   ·exact⟨[],eh,rfl,z,N,by simp[v,C,D]⟩
  ·generalize av:H.cons _ _=bT
   have ea:gh 0 bT:=by rw[<-av];exact⟨by simp,by simp,by simp⟩
   have bz:=qY.start (h:=bT) (w:=2) (szw:=7) (ver:=1) (F:=[(sl (o.dP.map dF.t),none),(.int .i64 o.tx,none),(sl (o.done.map T.bool),none),(sl (o.dp.map dx.t),none),(.dq [] false,some (1,[])),(.dq [] false,some (1,[])),(.dq [] false,none)]) ea (by rw[<-av];simp) (λf bX=>by
    simp only[cv,df,or_false]at bX
    rcases bX with rfl|rfl|rfl|rfl|rfl|rfl|rfl
    iterate 4 exact .inl ⟨rfl,by simp⟩
    iterate 2 exact .inr ⟨rfl,1,rfl,by decide⟩
    exact .inl ⟨rfl,rfl⟩)
   exact⟨[],⟨1,_,_,bz.1⟩,rfl,⟨by rw[<-av];simp,λx=>absurd (bz.2 0 x) (by omega)⟩,⟨by rw[<-av];simp[tZ],λx=>absurd (bz.2 1 x) (by omega)⟩,by simp⟩
end
noncomputable section
open Go Go.TI
attribute [-simp] List.map_take List.map_drop List.map_append fi ei dT Bool.not_or Bool.not_and
attribute [simp] fh ew
attribute [-simp] size_cons
structure IFr where
 (c:jh) (s:gJ) (L:List iD)
def Sv(a:IFr)(b:List T)(d:H):Prop:=b=[a.c.t,a.s.t,.dq [] false,sl (a.L.map iD.t)]/\gh 0 d/\(∀e∈a.c.dp,e.iJ.length<=10000001)/\StI a.s/\UP 0 a.s/\a.L.length<=60
def Mq(i:IFr)(h:List T)(c:H)(f:T)(d:H):Prop:=∃(a:List dN) (g:gJ) (b:T),f= .tuple [b,g.t]/\Gr d b 7 (a.map dN.t)/\(∀e,dE b=some e->c.size<=e)/\Nb c d/\Pc a/\a.length<=60
structure Fr9(c:jh)(h0:H)(n:Nat)(h:H)(s:gJ)(l:List dN)(v:T)(ver:Nat):Prop where
 nb:Nb h0 h
 z:h0.size+3<=h.size
 b0:h.get h0.size=some ⟨7,0,0,true,false,[c.t]⟩
 b1:h.get (h0.size+1)=some ⟨7,0,ver,true,false,[s.t]⟩
 b2:h.get (h0.size+1+1)=some tZ
 g:Gr h v 7 (l.map dN.t)
 bx:∀q,dE v=some q->h0.size+3<=q
 st:StI s
 ev:UP n s
 es:Pc l
 l:l.length<=n
theorem Fr9.ok{c:jh}{d a:H}{g:Nat}{h:gJ}{f:List dN}{j:T}{k:Nat}(b:Fr9 c d g a h f j k):gh 0 a:=⟨b.nb.ok.hp,b.nb.ok.low,aw _⟩
theorem MX:(jM IFr Sv Mq).Ok Tryz.prog cx 75:=by
 refine iU (tb:=⟨pt [(116,Fl.jl)],ht []⟩) dX dU (iN 68723687231 [(4,[(6,11),(6,12)])] Tryz.func75) (λ_ _=>1005) (λi S d bz=>by obtain⟨rfl,_⟩:=bz;simp[Tryz.f75]) ?_
 rintro⟨r,j,D⟩ _ c ⟨rfl,ae,W,Y,V,bn⟩ o I
 simp only at W Y V bn
 simp at I
 obtain⟨a8,bi,s,u⟩:=I
 have P:=ae.hr
 simp[Tryz.f75,a8,bi]
 have cp:=ae.low
 generalize p:((H.cons _ _).cons _).cons _=v
 have cL:gh 0 v:=by rw[<-p];exact((P.cons _).cons _).cons _
 have dd:v.size=c.size+1+1+1:=by rw[<-p];rfl
 have bN:Nb c v:=by rw[<-p];exact⟨((((Nb.refl P).cons _).cons _).cons _).ok,λr bp=>(((((Nb.refl P).cons _).cons _).cons _).get r bp).trans (fU c r)⟩
 have b8:v.get c.size=some ⟨7,0,0,true,false,[r.t]⟩:=by rw[<-p];simp
 have b9:v.get (c.size+1)=some ⟨7,0,0,true,false,[j.t]⟩:=by rw[<-p];simp
 have ca:v.get (c.size+1+1)=some tZ:=by rw[<-p];simp[tZ]
 clear p
 refine mF D.length (λm o d=>∃j A B n,Fr9 r c m d j A B n/\TI.dt o 4=some (.ptr c.size 0 0 0)/\TI.dt o 5=some (.ptr (c.size+1) 0 0 0)/\TI.dt o 9=some (.ptr (c.size+1+1) 0 0 0)/\TI.dt o 2=some B/\TI.dt o 3=some (sl (D.map iD.t))/\TI.dt o 10=some (.int .i64 m)) ?_ (by omega) (aw _) ?_
 ·rintro m o d ce ⟨j,A,B,n,b,K,x,L,s,u,F⟩
  have Z:=b.g.len (cx:=cx) d Ts _ rfl
  rw[aH]at Z
  simp[s,u,F,Z]
  refine dM (λe=> ?_) (λe=> ?_)
  ·have bv:m<D.length:=by simp at e;exact e.1
   have bB:=b.z
   have a6:UP 999000 j:=λQ ht=>by have:=b.ev Q ht;omega
   obtain⟨_,⟨q,E,bX,rfl,bu,X⟩,T⟩:=Fl.use (r,j,D[m]) ⟨W,b.st,a6⟩
   simp only at T X
   have cX:(c.size=d.size)=False:=by simp<;>omega
   have c4:(c.size+1=d.size)=False:=by simp<;>omega
   have c1:(c.size=d.size+1)=False:=by simp<;>omega
   have c6:(c.size+1=d.size+1)=False:=by simp<;>omega
   simp[u,K,x,F,b.b0,b.b1,bv,T,b.ok.low]
   generalize G:dI _ (d.size+1) _=h
   have O:gh 0 ((d.cons ⟨7,0,1,true,false,[q.t]⟩).cons ⟨7,0,0,true,false,[.agg [.int .i64 0,.int .i64 0,.int .i64 0,.int .i64 0,.int .i64 0,.dq [] false,.dq [] false]]⟩):=(b.ok.cons _).cons _
   have N:gh 0 h:=by rw[<-G];exact O.put _ _
   have cb:h.size=d.size+1+1:=by rw[<-G,fc];rfl
   have J:∀a,h.get a=if a=d.size+1 then some ⟨7,0,1,true,false,[E.t]⟩else if a=d.size then some ⟨7,0,1,true,false,[q.t]⟩else d.get a:=λa=>by
    rw[<-G,ph O.hp (by show _<d.size+1+1;omega)]
    split
    ·rfl
    ·rw[dH,ao (by assumption),dH]
   clear G O
   have Go:∀a,a<d.size->h.get a=d.get a:=λa e=>(J a).trans ((ao (by omega)).trans (ao (by omega)))
   have a0:=(Go c.size (by omega)).trans b.b0
   have a1:=(Go (c.size+1) (by omega)).trans b.b1
   have a2:=(Go (c.size+1+1) (by omega)).trans b.b2
   have an:=(J d.size).trans ((ao (by omega)).trans (aq rfl))
   have al:=(J (d.size+1)).trans (aq rfl)
   have gA:=b.g.mono (h':=h) λa f=>by obtain⟨_,_,_,_,g,_⟩:=b.g.box f;exact Go a (H.dL g)
   cases bX with
   |false=>
    simp[s,u,K,x,L,F,oH]
    rw[<-ju,jB (by omega) (by omega)]
    exact⟨m+1,by omega,by omega,j,A,B,⟨n,⟨⟨⟨N.hp,N.low,by omega⟩,λa e=>(Go a (by omega)).trans (b.nb.get a e)⟩,by omega,a0,a1,a2,gA,b.bx,b.st,λQ ht=>by have:=b.ev Q ht;omega,b.es,by have:=b.l;omega⟩⟩,rfl,by simp⟩
   |true=>
    obtain⟨b6,aX⟩:=X rfl
    have bT:gh 0 (dI h (c.size+1) ⟨7,0,n+1,true,false,[q.t]⟩):=N.put _ _
    have k:∀a,(dI h (c.size+1) ⟨7,0,n+1,true,false,[q.t]⟩).get a=if a=c.size+1 then some ⟨7,0,n+1,true,false,[q.t]⟩else h.get a:=λa=>dy a1 _ a
    have c7:(dI h (c.size+1) ⟨7,0,n+1,true,false,[q.t]⟩).size=d.size+1+1:=by rw[fc];exact cb
    simp[s,x,an,a1]
    generalize dI h (c.size+1) _=U at*
    have ap:=(k c.size).trans ((ao (by omega)).trans a0)
    have av:=(k (c.size+1)).trans (aq rfl)
    have aA:=(k (c.size+1+1)).trans ((ao (by omega)).trans a2)
    have aE:=(k (d.size+1)).trans ((ao (by omega)).trans al)
    have a7:=gA.mono (h':=U) λa f=>(k a).trans (ao (by have:=b.bx a f;omega))
    obtain⟨b7,bk,aN,w⟩:=a7.nY (cx:=cx) bT U0 rfl UW rfl (by simp) (λ_=>rfl) E (by have:=b.l;simp;omega)
    simp[u,K,x,L,F,aE,aN,oH]
    rw[<-ju,jB (by omega) (by omega)]
    have c9:=w.2.2.2.sz
    have C:∀a,a<c.size+3->bk.get a=U.get a:=λa e=>w.2.1 a (by omega) λf=>by have:=b.bx a f;omega
    exact⟨m+1,by omega,by omega,q,A++[E],b7,⟨n+1,⟨⟨⟨w.2.2.2.hp,w.2.2.2.low,by omega⟩,λa e=>(C a (by omega)).trans ((k a).trans ((ao (by omega)).trans ((Go a (by omega)).trans (b.nb.get a e))))⟩,by omega,(C c.size (by omega)).trans ap,(C (c.size+1) (by omega)).trans av,(C (c.size+1+1) (by omega)).trans aA,w.1,λa f=>by
     rcases w.2.2.1 a f with y|y
     ·exact b.bx a y
     ·omega,b6,aX m b.ev,λS I=>by
     rcases List.mem_append.1 I with y|y
     ·exact b.es S y
     ·simp at y;subst y;exact bu,by have:=b.l;simp;omega⟩⟩,rfl,by simp⟩
  ·have M:=b.b2
   unfold tZ at M
   have bB:=b.z
   have k:∀y a,(dI d (c.size+1+1) y).get a=if a=c.size+1+1 then some y else d.get a:=λy a=>dy M y a
   simp[s,x,L,b.b1,M,dG,k]
   have R:∀a,a≠c.size+1+1->(kV c (dI d (c.size+1+1) ⟨7,0,1,true,false,[j.t]⟩)).get a=d.get a:=λa e=>by rw[fj,k,ao e]
   exact⟨A,j,B,rfl,b.g.mono λa f=>R a (by have:=b.bx a f;omega),λa f=>by have:=b.bx a f;omega,⟨⟨((b.ok.put _ _).out c).hp,((b.ok.put _ _).out c).low,by rw[u7,fc];exact b.nb.ok.sz⟩,λa e=>(R a (by omega)).trans (b.nb.get a e)⟩,b.es,by have:=b.l;omega⟩
 ·exact⟨j,[],_,_,⟨bN,by omega,b8,b9,ca,Gr.nil _ _,λa f=>by simp at f,Y,V,λE bs=>by simp at bs,au _⟩,by simp[s,u]⟩
end
noncomputable section
open Go Go.TI
attribute [-simp] List.map_take List.map_drop List.map_append fi ei dT Bool.not_or Bool.not_and
attribute [simp] fh ew
def Ta(a:H)(j:Nat):Prop:=∃i d e f c g h,∃b:List du,a.get j=some ⟨6,0,i,true,false,[.agg [d,e,f,c,g,h]]⟩/\Gr a c 11 (b.map du.t)/\b.length<=1000000/\gh 0 a
def Ds:kw:=⟨λd a=>∃b c e h,d=[.ptr b 0 0 0,.int .i64 c,.int .i64 e,.str h]/\Ta a b,λ_ a g f=>f=a/\Hc g⟩
theorem MW:Ds.Ok Tryz.prog cx 226:=by
 refine Hh (tb:=⟨pt [],ht []⟩) dX dU (iN 70368744310543 [] Tryz.func226) false (λ_ _=>1000005) (λN b L=>by obtain⟨g,y,e,G,rfl,_⟩:=L;simp[Tryz.f226]) ?_
 rintro _ b ⟨g,y,e,G,rfl,Y,O,P,Q,z,R,S,h,s,n,hl,v⟩ d B
 simp at B
 obtain⟨f,i,j,k⟩:=B
 have u:=H.dL s
 simp[Tryz.f226]
 refine eQ h.length (by omega) (λo d c=>Fr b.size (hr b) c/\gh 0 c/\TI.dt d 0=some (.ptr g 0 0 0)/\TI.dt d 1=some (.int .i64 y)/\TI.dt d 2=some (.int .i64 e)/\TI.dt d 3=some (.str G)/\TI.dt d 9=some (.int .i64 o)) ?_ ?_ (by omega) (by simp[f,i,j,k,Fr.refl,v.hr])
 ·rintro o d c D J ⟨a,w,f,i,j,k,m⟩
  have p:=(a.get g u).trans ((fU b g).trans s)
  have l:Gr c z 11 (h.map du.t):=n.mono λe q=>by obtain⟨_,_,_,_,x,_⟩:=n.box q;rw[a.get e (H.dL x),fU]
  have K:o<(h.map du.t).length:=by simpa using D
  obtain⟨I,T,Z,U,ae,W,M,E,F⟩:=l.NA (te:=EU) rfl K
  have V:=Nat.ne_of_lt (bD u a.size)
  simp at F
  have X:(I=c.size)=False:=by simp;have:=H.dL E;omega
  simp[f,i,j,k,m,p,l.len (cx:=cx),M,E,F,D,w.low]
  have A:=a.trans (Fr.cons (lo:=b.size) (by have:b.size<=c.size:=a.size;omega) ⟨11,0,1,true,false,[h[o].t]⟩)
  repeat' (refine dM (λC=> ?_) (λC=> ?_)<;>simp[C,f,i,j,k,m,J,A,w.cons])
  exact o7 b _ _ v.hp A (r:= .bool true) rfl ⟨rfl,by simp⟩
 ·rintro d c ⟨a,w,f,i,j,k,m⟩
  have p:=(a.get g u).trans ((fU b g).trans s)
  have l:Gr c z 11 (h.map du.t):=n.mono λe q=>by obtain⟨_,_,_,_,x,_⟩:=n.box q;rw[a.get e (H.dL x),fU]
  simp[f,m,p,l.len (cx:=cx)]
  exact o7 b _ _ v.hp a (r:= .bool false) rfl ⟨rfl,by simp⟩
structure Wk(p:ez)(A:List du)(n:Nat)(h:H)(w:Nat):Prop where
 ok:gh 0 h
 fp:∀b,Fp h w b->b<h.size
 ex:∃ver t av sv ev,∃S E:List (List Nat),h.get w=some ⟨6,0,ver,true,false,[.agg [sl (p.iP.map f6.t),sl (p.dp.map eY.t),.int .i64 t,av,sv,ev]]⟩/\
  Gr h av 11 (A.map du.t)/\Gr h sv 1 (S.map T.str)/\Gr h ev 1 (E.map T.str)/\S.length<=n/\E.length<=n/\∀b,dE sv=some b->dE ev≠some b
theorem Wk.ins{k:ez}{a:List du}{j:Nat}{b:H}{d:Nat}(c:Wk k a j b d)(i:a.length<=1000000):Ta b d:=by
 obtain⟨l,o,e,sv,f,n,m,g,h,_⟩:=c.ex
 exact⟨l,_,_,_,e,sv,f,a,g,h,i,c.ok⟩
theorem rJ{c:H}{d:Nat}{a:iE}(f:c.get d=some a){v:T}(g:v∈d6 a.dO){b:Nat}(e:dE v=some b):Fp c d b:= .inr ⟨a,f,v,g,e⟩
theorem Wk.same{m:ez}{h:List du}{l k:Nat}{c d:H}{g:Nat}(j:Wk m h l c g)(B:l<=k)(w:gh 0 d)(f:∀a,Fp c g a->d.get a=c.get a)(v:c.size<=d.size):Wk m h k d g:=by
 obtain⟨y,x,p,sv,q,o,n,e,r,s,t,z,A,u⟩:=j.ex
 have i:=f g (.inl rfl)
 refine⟨w,λa b=>by rw[iH i]at b;exact bD (j.fp a b) v,y,x,p,sv,q,o,n,by rw[i];exact e,?_,?_,?_,by omega,by omega,u⟩
 ·exact r.mono λa b=>f a (rJ e (by simp[d6,T.cells]) b)
 ·exact s.mono λa b=>f a (rJ e (by simp[d6,T.cells]) b)
 ·exact t.mono λa b=>f a (rJ e (by simp[d6,T.cells]) b)
theorem Wk.lt{f:ez}{c:List du}{e:Nat}{b:H}{a:Nat}(d:Wk f c e b a):a<b.size:=d.fp a (.inl rfl)
theorem Wk.cons{e:ez}{b:List du}{d:Nat}{c:H}{w:Nat}(a:Wk e b d c w)(f:iE):Wk e b d (c.cons f) w:=
 a.same (au _) (a.ok.cons f) (λg h=>by rw[dH,ao (by have:=a.fp g h;omega)]) (by simp)
theorem Wk.hr{e:ez}{b:List du}{d:Nat}{a:H}{f:Nat}(c:Wk e b d a f):Wk e b d (TI.hr a) f:=c.same (au _) c.ok.hr (λg _=>fU a g) (au _)
theorem Wk.out{e:ez}{b:List du}{d m:Nat}{h a:H}{f:Nat}(c:Wk e b d a f)(i:d<=m):Wk e b m (kV h a) f:=c.same i (c.ok.out h) (λg _=>fj h a g) (au _)
theorem Wk.spawn{a:ez}{m:List du}{k d h:Nat}{c f:H}{g:Int}{e sv b l:T}{j n:List (List Nat)}{w:List Nat}(u:Wk a m k c d)(o:c.get d=some ⟨6,0,h,true,false,[.agg [sl (a.iP.map f6.t),sl (a.dp.map eY.t),.int .i64 g,e,sv,b]]⟩)
 (gA:Gr c e 11 (m.map du.t)) (s:Gr c sv 1 (j.map T.str)) (C:Gr c b 1 (n.map T.str)) (F:j.length<=k) (G:n.length<=k) (B:∀r,dE sv=some r->dE b≠some r) (D:zQ c sv 1 (j.map T.str++[.str w]) l f):
 f.get d=some ⟨6,0,h,true,false,[.agg [sl (a.iP.map f6.t),sl (a.dp.map eY.t),.int .i64 g,e,sv,b]]⟩/\dY c f d=true/\
  Step d c (dI f d ⟨6,0,h+1,true,false,[.agg [sl (a.iP.map f6.t),sl (a.dp.map eY.t),.int .i64 g,e,l,b]]⟩)/\
  Wk a m (k+1) (dI f d ⟨6,0,h+1,true,false,[.agg [sl (a.iP.map f6.t),sl (a.dp.map eY.t),.int .i64 g,e,l,b]]⟩) d:=by
 obtain⟨p,E⟩:=vd (i:=4) u.ok u.fp o rfl (by decide) s D.xt
 obtain⟨q,z,A,v⟩:=E _ rfl
 obtain⟨a1,a2⟩:=v e 11 _ (by simp) gA (s.ne gA (by decide)) (by decide)
 obtain⟨x,y⟩:=v b 1 _ (by simp) C B (by decide)
 exact⟨p.trans o,ee p,q,⟨q.ok.hp,q.ok.low,aw _⟩,z,h+1,g,e,l,b,j++[w],n,by rw[dy (p.trans o),aq rfl],a1,by rw[List.map_append];exact A,x,by simp;omega,by omega,y⟩
theorem Wk.set{a:ez}{o:List du}{m c k:Nat}{b h:H}{j:Int}{d sv g n:T}{p l:List (List Nat)}{x:List Nat}(f:Wk a o m b c)(q:b.get c=some ⟨6,0,k,true,false,[.agg [sl (a.iP.map f6.t),sl (a.dp.map eY.t),.int .i64 j,d,sv,g]]⟩)
 (gA:Gr b d 11 (o.map du.t)) (D:Gr b sv 1 (p.map T.str)) (v:Gr b g 1 (l.map T.str)) (G:p.length<=m) (I:l.length<=m) (C:∀e,dE sv=some e->dE g≠some e) (E:zQ b g 1 (l.map T.str++[.str x]) n h):
 h.get c=some ⟨6,0,k,true,false,[.agg [sl (a.iP.map f6.t),sl (a.dp.map eY.t),.int .i64 j,d,sv,g]]⟩/\dY b h c=true/\
  Step c b (dI h c ⟨6,0,k+1,true,false,[.agg [sl (a.iP.map f6.t),sl (a.dp.map eY.t),.int .i64 j,d,sv,n]]⟩)/\
  Wk a o (m+1) (dI h c ⟨6,0,k+1,true,false,[.agg [sl (a.iP.map f6.t),sl (a.dp.map eY.t),.int .i64 j,d,sv,n]]⟩) c:=by
 obtain⟨s,F⟩:=vd (i:=5) f.ok f.fp q rfl (by decide) v E.xt
 obtain⟨u,A,B,w⟩:=F _ rfl
 obtain⟨a1,a2⟩:=w d 11 _ (by simp) gA (v.ne gA (by decide)) (by decide)
 obtain⟨y,z⟩:=w sv 1 _ (by simp) D (λe r f=>C e f r) (by decide)
 exact⟨s.trans q,ee s,u,⟨u.ok.hp,u.ok.low,aw _⟩,A,k+1,j,d,sv,n,p,l++[x],by rw[dy (s.trans q),aq rfl],a1,y,by rw[List.map_append];exact B,by omega,by simp;omega,λe r f=>z e f r⟩
theorem Wk.Vx{a:ez}{h:List du}{k d g:Nat}{c e:H}{f:Int}{j sv b l:T}{n m:List (List Nat)}{x:du}(v:Wk a h k c d)(o:c.get d=some ⟨6,0,g,true,false,[.agg [sl (a.iP.map f6.t),sl (a.dp.map eY.t),.int .i64 f,j,sv,b]]⟩)
 (gA:Gr c j 11 (h.map du.t)) (u:Gr c sv 1 (n.map T.str)) (s:Gr c b 1 (m.map T.str)) (B:n.length<=k) (C:m.length<=k) (D:∀r,dE sv=some r->dE b≠some r) (E:zQ c j 11 (h.map du.t++[x.t]) l e):
 e.get d=some ⟨6,0,g,true,false,[.agg [sl (a.iP.map f6.t),sl (a.dp.map eY.t),.int .i64 f,j,sv,b]]⟩/\dY c e d=true/\
  Step d c (dI e d ⟨6,0,g+1,true,false,[.agg [sl (a.iP.map f6.t),sl (a.dp.map eY.t),.int .i64 f,l,sv,b]]⟩)/\
  Wk a (h++[x]) k (dI e d ⟨6,0,g+1,true,false,[.agg [sl (a.iP.map f6.t),sl (a.dp.map eY.t),.int .i64 f,l,sv,b]]⟩) d:=by
 obtain⟨p,F⟩:=vd (i:=3) v.ok v.fp o rfl (by decide) gA E.xt
 obtain⟨q,z,A,w⟩:=F _ rfl
 obtain⟨a1,a2⟩:=w sv 1 _ (by simp) u (gA.ne u (by decide)) (by decide)
 obtain⟨y,G⟩:=w b 1 _ (by simp) s (gA.ne s (by decide)) (by decide)
 exact⟨p.trans o,ee p,q,⟨q.ok.hp,q.ok.low,aw _⟩,z,g+1,f,l,sv,b,n,m,by rw[dy (p.trans o),aq rfl],by rw[List.map_append];exact A,a1,y,B,C,D⟩
theorem Wk.back{b:ez}{p:List du}{o i k:Nat}{d:H}{j:Int}{m sv f h:T}{r q:List (List Nat)}{G:du}(g:Wk b (p++[G]) o d i)(c:d.get i=some ⟨6,0,k,true,false,[.agg [sl (b.iP.map f6.t),sl (b.dp.map eY.t),.int .i64 j,m,sv,f]]⟩)
 (E:Gr d sv 1 (r.map T.str)) (D:Gr d f 1 (q.map T.str)) (A:r.length<=o) (B:q.length<=o) (C:∀e,dE sv=some e->dE f≠some e) (gA:Gr d h 11 (p.map du.t)) (n:dE h=dE m):
   Step i d (dI d i ⟨6,0,k+1,true,false,[.agg [sl (b.iP.map f6.t),sl (b.dp.map eY.t),.int .i64 j,h,sv,f]]⟩)/\
   Wk b p o (dI d i ⟨6,0,k+1,true,false,[.agg [sl (b.iP.map f6.t),sl (b.dp.map eY.t),.int .i64 j,h,sv,f]]⟩) i:=by
 have w:=Step.put g.ok c ⟨6,0,k+1,true,false,[.agg [sl (b.iP.map f6.t),sl (b.dp.map eY.t),.int .i64 j,h,sv,f]]⟩ (λv l e a=>by
  simp[d6,T.cells]at l
  rcases l with rfl|rfl|rfl|rfl|rfl|rfl
  ·simp at a
  ·simp at a
  ·simp at a
  ·exact .inl (rJ c (v:=m) (by simp[d6,T.cells]) (by rw[<-n];exact a))
  ·exact .inl (rJ c (v:=v) (by simp[d6,T.cells]) a)
  ·exact .inl (rJ c (v:=v) (by simp[d6,T.cells]) a))
 have u:∀{v:T} {x:Nat} {y:List T},Gr d v x y->x≠6->Gr (dI d i ⟨6,0,k+1,true,false,[.agg [sl (b.iP.map f6.t),sl (b.dp.map eY.t),.int .i64 j,h,sv,f]]⟩) v x y:=λz F=>z.mono λe n=>by
  obtain⟨_,_,_,_,a,_⟩:=z.box n
  rw[dy c,ao (λg=>by subst g;rw[c]at a;simp at a;exact F a.1.symm)]
 refine⟨w,⟨w.ok.hp,w.ok.low,aw _⟩,λe a=> ?_,k+1,j,h,sv,f,r,q,by rw[dy c,aq rfl],u gA (by decide),u E (by decide),u D (by decide),A,B,C⟩
 rw[fc]
 rcases a with rfl|⟨I,s,v,l,a⟩
 ·exact g.lt
 rw[dy c,aq rfl]at s
 simp only[ar]at s;subst s
 simp[d6,T.cells]at l
 rcases l with rfl|rfl|rfl|rfl|rfl|rfl
 ·simp at a
 ·simp at a
 ·simp at a
 ·exact g.fp e (rJ c (v:=m) (by simp[d6,T.cells]) (by rw[<-n];exact a))
 ·exact g.fp e (rJ c (v:=v) (by simp[d6,T.cells]) a)
 ·exact g.fp e (rJ c (v:=v) (by simp[d6,T.cells]) a)
theorem Wk.dA{b:ez}{n:List du}{m h k:Nat}{d:H}{G:Int}{f sv e:T}{p o:List (List Nat)}(l:Wk b n m d h)(g:d.get h=some ⟨6,0,k,true,false,[.agg [sl (b.iP.map f6.t),sl (b.dp.map eY.t),.int .i64 G,f,sv,e]]⟩)
 (gA:Gr d f 11 (n.map du.t)) (D:Gr d sv 1 (p.map T.str)) (C:Gr d e 1 (o.map T.str)) (z:p.length<=m) (A:o.length<=m) (B:∀c,dE sv=some c->dE e≠some c) (j:Int):
   Step h d (dI d h ⟨6,0,k+1,true,false,[.agg [sl (b.iP.map f6.t),sl (b.dp.map eY.t),.int .i64 j,f,sv,e]]⟩)/\
   Wk b n m (dI d h ⟨6,0,k+1,true,false,[.agg [sl (b.iP.map f6.t),sl (b.dp.map eY.t),.int .i64 j,f,sv,e]]⟩) h:=by
 have y:∀v∈ [sl (b.iP.map f6.t),sl (b.dp.map eY.t),.int .i64 j,f,sv,e],∀c,dE v=some c->Fp d h c:=λv i c a=>by
  simp at i
  rcases i with rfl|rfl|rfl|rfl|rfl|rfl
  ·simp at a
  ·simp at a
  ·simp at a
  ·exact rJ g (v:=v) (by simp[d6,T.cells]) a
  ·exact rJ g (v:=v) (by simp[d6,T.cells]) a
  ·exact rJ g (v:=v) (by simp[d6,T.cells]) a
 have s:=Step.put l.ok g ⟨6,0,k+1,true,false,[.agg [sl (b.iP.map f6.t),sl (b.dp.map eY.t),.int .i64 j,f,sv,e]]⟩ (λv i c a=> .inl (y v (by simpa[d6,T.cells]using i) c a))
 have r:∀{v:T} {u:Nat} {w:List T},Gr d v u w->u≠6->Gr (dI d h ⟨6,0,k+1,true,false,[.agg [sl (b.iP.map f6.t),sl (b.dp.map eY.t),.int .i64 j,f,sv,e]]⟩) v u w:=λx F=>x.mono λc E=>by
  obtain⟨_,_,_,_,a,_⟩:=x.box E
  rw[dy g,ao (λl=>by subst l;rw[g]at a;simp at a;exact F a.1.symm)]
 refine⟨s,⟨s.ok.hp,s.ok.low,aw _⟩,λc a=> ?_,k+1,j,f,sv,e,p,o,by rw[dy g,aq rfl],r gA (by decide),r D (by decide),r C (by decide),z,A,B⟩
 rw[fc]
 rcases a with rfl|⟨I,q,v,i,a⟩
 ·exact l.lt
 rw[dy g,aq rfl]at q
 simp only[ar]at q;subst q
 exact l.fp c (y v (by simpa[d6,T.cells]using i) c a)
structure VI where
 (p:ez) (A:List du) (n w:Nat) (s:du)
def TR(a:VI)(c:List T)(d:H):Prop:=c=[.ptr a.w 0 0 0,a.s.t]/\Wk a.p a.A a.n d a.w/\Pp a.p/\a.n<=10000000/\a.s.w<=1000000/\a.A.length<=1000000/\
 (9<=a.s.op/\a.s.op<=11->∃b,b<a.p.iP.length/\qV (a.p.iP.map f6.name) a.s.name 0=b)
def Jd(a:VI)(e:List T)(c:H)(d:T)(b:H):Prop:=CZ d/\Step a.w c b/\Wk a.p a.A (a.n+1) b a.w
noncomputable abbrev Yb:kw:=jM VI TR Jd
theorem Yw:Yb.Ok Tryz.prog cx 193:=by
 obtain⟨K,c4⟩:=hlB MW (λ_ _ _ _ o=>o)
 refine iU (tb:=⟨pt [(228,yq.jl),(229,AZ.jl),(227,T3.jl),(230,CJ.jl),(110,z7),(191,mw),(192,kC)],ht [(226,Ds)]⟩) dX dU (iN 14474012017383023515249485065460760621927424225494418519668988771800801378299 [(1,[(7,9)]),(8,[(4,5),(4,8)]),(9,[(4,5),(4,8),(4,9),(4,10),(4,12),(11,12),(4,15),(11,15)]),(28,[(2,7)]),(49,[(4,5),(4,8)])] Tryz.func193) (λ_ _=>5) (λi l h dd=>by obtain⟨rfl,_⟩:=dd;simp[Tryz.f193]) ?_
 rintro⟨d,A,n,f,a⟩ _ h ⟨rfl,k,y,c9,de,bk,bs⟩ ey bn
 simp only at k y c9 de bk bs
 simp at bn
 obtain⟨F,c1⟩:=bn
 have s:=(k.hr.cons ⟨11,0,0,true,false,[a.t]⟩).cons ⟨2,0,1,true,false,[d.t]⟩
 have H:Step f h (kV h (((hr h).cons ⟨11,0,0,true,false,[a.t]⟩).cons ⟨2,0,1,true,false,[d.t]⟩)):=
  ((Step.cons k.ok.hr k.lt _).trans (Step.cons (k.hr.cons _).ok (k.hr.cons _).lt _)).out
 have dn:Step f (hr h) (((hr h).cons ⟨11,0,0,true,false,[a.t]⟩).cons ⟨2,0,1,true,false,[d.t]⟩):=(Step.cons k.ok.hr k.lt _).trans (Step.cons (k.hr.cons _).ok (k.hr.cons _).lt _)
 have I:=s.out (h:=h) (m:=n+1) (by omega)
 have M:∀o:Int,9<=o/\o<=11->decide (a.op=o)=true->∃m:Nat,m<d.iP.length/\qV (d.iP.map f6.name) a.name 0=m:=λo eh N=>bs (by simp at N;omega)
 have Y:=λ{tb:eG} (ht:tb.h 226=some Ds) l b z=>c4 ht [.ptr f 0 0 0,.int .i64 l,.int .i64 b,.str z] _ ⟨f,l,b,z,rfl,s.ins bk⟩
 have eo:=k.lt
 have bu:(f=h.size)=False:=by simp;omega
 have bv:(f=h.size+1)=False:=by simp;omega
 have cL:(((hr h).cons ⟨11,0,0,true,false,[a.t]⟩).cons ⟨2,0,1,true,false,[d.t]⟩).get f=h.get f:=by simp[bu,bv]
 obtain⟨eu,z,bT,sv,cb,S,E,w,gA,bi,a8,aN,aX,a6⟩:=s.ex
 have aE:=cL.symm.trans w
 have cp:=bi.pq (by simp)
 have ce:=a8.pq (by simp)
 have b9:=λ{tb:eG} (h:tb.p 110=some z7) x=>LB h S x (by omega)
 have b8:=λ{tb:eG} (h:tb.p 110=some z7) x=>LB h E x (by omega)
 obtain⟨Nw,R⟩:=yq.fnI (λc:List Nat×Int×Int=>(d,z,c)) (λ_=>y)
 have R:=λ{tb:eG} (ht:tb.p 228=some yq.jl) x l b=>R ht (x,l,b)
 obtain⟨dv,av⟩:=CJ.fnI (λb:Bool=>b) (λ_=>trivial)
 have Q:∀{tb:eG},tb.p 227=some T3.jl->∀l b,rl Tryz.prog cx tb 227 [.int .i64 l,.int .i64 b]=some (.int .i64 (if l=0 then b else l)):=λht l b=>by
  obtain⟨_,rfl,N⟩:=T3.use (l,b) trivial
  exact N ht
 have di:=a.kJ
 obtain⟨_,⟨er,rfl⟩,P⟩:=AZ.use (d,z,a.e) ⟨y,by simp only;omega⟩
 have eT:=λ{tb:eG} (h:tb.p 192=some kC) x=>vt h d.dp x (by have:=y.2.1;omega)
 have b7:=λ{tb:eG} (h:tb.p 191=some mw) x=>Ak h d.iP x (by have:=y.1;omega)
 simp[Tryz.f193,F,c1,aE,bu,bv,Y]
 have u:(((hr h).cons ⟨11,0,0,true,false,[a.t]⟩).cons ⟨2,0,1,true,false,[d.t]⟩).get h.size=some ⟨11,0,0,true,false,[a.t]⟩:=by simp
 have L:(((hr h).cons ⟨11,0,0,true,false,[a.t]⟩).cons ⟨2,0,1,true,false,[d.t]⟩).get (h.size+1)=some ⟨2,0,1,true,false,[d.t]⟩:=by simp
 have G:(((hr h).cons ⟨11,0,0,true,false,[a.t]⟩).cons ⟨2,0,1,true,false,[d.t]⟩).size=h.size+2:=by simp
 generalize(((hr h).cons ⟨11,0,0,true,false,[a.t]⟩).cons ⟨2,0,1,true,false,[d.t]⟩)=j at*
 generalize K [T.ptr f 0 0 0,T.int IntKind.i64 7,T.int IntKind.i64 7,T.str []] j=ea
 generalize K [T.ptr f 0 0 0,T.int IntKind.i64 8,T.int IntKind.i64 8,T.str []] j=eb
 generalize K [T.ptr f 0 0 0,T.int IntKind.i64 3,T.int IntKind.i64 3,T.str []] j=ef
 have U:=(show(j.cons ⟨1,0,0,true,false,[.str a.name]⟩).get f=j.get f from by rw[dH,ao (by omega)]).trans w
 have J:=s.cons ⟨1,0,0,true,false,[.str a.name]⟩
 have bB:=dn.trans (Step.cons s.ok s.lt ⟨1,0,0,true,false,[.str a.name]⟩)
 have X:∀{v:T} {bN:Nat} {aA:List T},v=bT\/v=sv\/v=cb->Gr j v bN aA->Gr (j.cons ⟨1,0,0,true,false,[.str a.name]⟩) v bN aA:=λdk g=>g.mono λb bp=>by
  have:b<j.size:=s.fp b (rJ w (v:=_) (by rcases dk with rfl|rfl|rfl<;>simp[d6,T.cells]) bp)
  rw[dH,ao (by omega)]
 have W:=X (by simp) bi
 have V:=X (by simp) a8
 have a7:=X (by simp) gA
 repeat' (refine dM (λq=> ?_) (λq=> ?_)<;>simp[q,F,w,u,L,Y,R,av,Q,P,eT,b7,Jd,H,I])
 ·cases Z:a.index with
  |nil=>rename_i q;simp[Z]at q
  |cons x r=>
   obtain⟨_,⟨et,rfl⟩,ca⟩:=AZ.use (d,z,x) ⟨y,by simp only;rw[Z,dC.jA]at di;omega⟩
   simp[u,L,Q,P,H,I,Z,ca]
 iterate 3
  ·obtain⟨m,c6,c7⟩:∃m,m<d.iP.length/\qV (d.iP.map f6.name) a.name 0=m:=by first|exact M 9 (by omega) (by assumption)|exact M 10 (by omega) (by assumption)|exact M 11 (by omega) (by assumption)
   simp[u,Y,av,H,I,c6,c7]
 ·simp[cp,b9]
  refine dM (λq=> ?_) (λq=> ?_)
  ·simp[H,I]
  obtain⟨ds,cX,O,B⟩:=W.app (cx:=cx) J.ok (x:= .arr (h.size+2) 0 0 1 false) (xs:=[.str a.name]) pH rfl uL pH rfl rfl (by simp) (by rw[fH];simp[G]) (by simp[T.cells]) (by simp) (by simp;omega)
  obtain⟨ae,dm,D,al⟩:=J.spawn U a7 W V aN aX a6 B
  have C:=B.gr
  have an:=(bB.trans D).out
  have ap:=al.out (h:=h) (au _)
  simp[F,w,u,G,O,ae,C.fT,C.cells,dG,an,ap]
 ·obtain⟨ds,cX,O,B⟩:=V.app (cx:=cx) J.ok (x:= .arr (h.size+2) 0 0 1 false) (xs:=[.str a.name]) pH rfl uL pH rfl rfl (by simp) (by rw[fH];simp[G]) (by simp[T.cells]) (by simp) (by simp;omega)
  obtain⟨ae,dm,D,al⟩:=J.set U a7 W V aN aX a6 B
  have C:=B.gr
  have an:=(bB.trans D).out
  have ap:=al.out (h:=h) (au _)
  have bz:∀b,h.size<=b->¬Fp (j.cons ⟨1,0,0,true,false,[.str a.name]⟩) f b:=λb bp o=>by rw[iH (U.trans aE.symm)]at o;have:=k.fp b o;omega
  have bX:=(D.get h.size (by simp;omega) (bz _ (au _))).trans ((show(j.cons ⟨1,0,0,true,false,[.str a.name]⟩).get h.size=j.get h.size by rw[dH,ao (by omega)]).trans u)
  have b6:=(D.get (h.size+1) (by simp;omega) (bz _ (by omega))).trans ((show(j.cons ⟨1,0,0,true,false,[.str a.name]⟩).get (h.size+1)=j.get (h.size+1)by rw[dH,ao (by omega)]).trans L)
  simp[ce,b8]
  refine dM (λq=> ?_) (λq=> ?_)<;>simp[F,w,u,G,O,ae,C.fT,C.cells,dG,an,ap,bX,b6,P,Q]
structure IS where
 (p:ez) (A:List du) (n w:Nat) (l:List du)
def Dv(a:IS)(c:List T)(d:H):Prop:=c=[.ptr a.w 0 0 0,sl (a.l.map du.t)]/\Wk a.p a.A a.n d a.w/\Pp a.p/\a.n+du.ws a.l<=10000000/\du.ws a.l<=1000000/\a.A.length<=6/\(∀e∈a.l,MS e)/\
 ∃b,b<a.p.iP.length/\qV (a.p.iP.map f6.name) [99] 0=b
def xj(a:IS)(e:List T)(c:H)(d:T)(b:H):Prop:=FV d/\Step a.w c b/\Wk a.p a.A (a.n+du.ws a.l) b a.w
theorem OD(A:Nat)(bz:(jM IS (λf a m=>Dv f a m/\du.ws f.l<A) xj).Ok Tryz.prog cx 145):(jM IS (λf a m=>Dv f a m/\du.ws f.l<A+1) xj).Ok Tryz.prog cx 145:=by
 refine iU (tb:=⟨pt [],ht [(193,Yb),(145,jM IS (λf a m=>Dv f a m/\du.ws f.l<A) xj)]⟩) dX dU (iN 151115745466229840684019 [(10,[(8,12),(9,12)])] Tryz.func145) (λ_ _=>1000005) (λf a m dm=>by obtain⟨⟨rfl,_⟩,_⟩:=dm;simp[Tryz.f145]) ?_
 rintro⟨I,c,n,j,l⟩ _ m ⟨⟨rfl,aX,O,dk,dv,dd,bn,N⟩,di⟩ B bp
 simp only at aX O dk dv dd bn N di
 simp at bp
 obtain⟨i,w⟩:=bp
 have hl:=du.tM (l:=l)
 simp[Tryz.f145]
 refine eQ l.length (by omega) (λA B F=>Step j (hr m) F/\Wk I c (n+du.ws (l.take A)) F j/\TI.dt B 0=some (.ptr j 0 0 0)/\TI.dt B 1=some (sl (l.map du.t))/\TI.dt B 6=some (.int .i64 A)) ?_ ?_ (by omega) (by simp[i,w,du.il,aX.hr,Step.refl aX.ok.hr])
 ·rintro f B F ap bs ⟨aA,s,i,w,G⟩
  have bv:=du.Dh l ap
  have eH:=du.wm l (f+1)
  have av:=bn l[f] (aF ap)
  simp[i,w,G,ap,s.ok.low]
  generalize l[f]=d at*
  have eF:=d.kJ
  refine gd Yw (by simp) ⟨I,c,n+du.ws (l.take f),j,d⟩ ⟨rfl,s.cons _,O,by simp only;omega,by simp only;omega,by simp only;omega,λq=>by simp only;rw[av.cond q];exact N⟩ ?_
  rintro _ p ⟨⟨e,rfl⟩,aE,k⟩
  simp only at aE k
  have H:=(Lb.new s.lt s.fp ⟨11,0,1,true,false,[d.t]⟩).step aE
  have bX:=(aA.trans (Step.cons s.ok s.lt _)).trans aE
  obtain⟨eO,t,ca,sv,ce,S,E,K,gA,c7,c6,cX,c1,c4⟩:=k.ex
  have bk:∀r,FV r->xj ⟨I,c,n,j,l⟩ [.ptr j 0 0 0,sl (l.map du.t)] m r (kV m p):=λr hr=>⟨hr,bX.out,k.out (by simp only;omega)⟩
  have ae:=fQ (a:=(c.length:Int)) (b:=1) (by omega) (by omega)
  simp[i,K,gA.len (cx:=cx),ae]
  refine dM (λo=> ?_) (λo=> ?_)
  ·simp[H.get]
   exact bk _ (by simp)
  have eD:c.length<=5:=by simp at o;omega
  simp
  refine dM (λo=> ?_) (λo=> ?_)
  ·simp[H.get]
   exact bk _ (by simp)
  have eI:(j=p.size)=False:=by simp;have:=k.lt;omega
  have eC:(F.size=p.size)=False:=by simp;have:=H.lt;omega
  have b7:=k.cons ⟨11,0,0,true,false,[.agg [.int .i64 0,.int .i64 0,.str [],.str [],.dq [] false,.int .i64 0,.int .i64 0,.str [],.dq [] false,.dq [] false,.dq [] false]]⟩
  have eb:=bX.trans (Step.cons k.ok k.lt ⟨11,0,0,true,false,[.agg [.int .i64 0,.int .i64 0,.str [],.str [],.dq [] false,.int .i64 0,.int .i64 0,.str [],.dq [] false,.dq [] false,.dq [] false]]⟩)
  have cL:=(show(p.cons ⟨11,0,0,true,false,[.agg [.int .i64 0,.int .i64 0,.str [],.str [],.dq [] false,.int .i64 0,.int .i64 0,.str [],.dq [] false,.dq [] false,.dq [] false]]⟩).get j=p.get j by rw[dH,ao (by have:=k.lt;omega)]).trans K
  have L:∀{v:T} {b6:Nat} {bi:List T},v=ca\/v=sv\/v=ce->Gr p v b6 bi->Gr (p.cons ⟨11,0,0,true,false,[.agg [.int .i64 0,.int .i64 0,.str [],.str [],.dq [] false,.int .i64 0,.int .i64 0,.str [],.dq [] false,.dq [] false,.dq [] false]]⟩) v b6 bi:=λds g=>g.mono λb ae=>by
   have:b<p.size:=k.fp b (rJ K (v:=_) (by rcases ds with rfl|rfl|rfl<;>simp[d6,T.cells]) ae)
   rw[dH,ao (by omega)]
  obtain⟨Q,eB,a8,a7⟩:=(L (by simp) gA).app (cx:=cx) b7.ok (x:= .arr p.size 0 0 1 false) (xs:=[.agg [.int .i64 0,.int .i64 0,.str [],.str [],.dq [] false,.int .i64 0,.int .i64 0,.str [],.dq [] false,.dq [] false,.dq [] false]]) xK rfl xJ xK rfl rfl (by simp) (by rw[fH];simp) (by simp[T.cells]) (by simp) (by simp;omega)
  obtain⟨b,ey,eP,eA,rfl,M,eE⟩:=id a7
  have a2:=a7.set M c.length d.t
  have dn:(List.map du.t c++[T.agg [.int .i64 0,.int .i64 0,.str [],.str [],.dq [] false,.int .i64 0,.int .i64 0,.str [],.dq [] false,.dq [] false,.dq [] false]]).set c.length d.t=List.map du.t c++[d.t]:=by simp
  rw[dn]at a2
  simp only[aP,aH,aZ,cP]at a2 a8
  obtain⟨P,eN,bN,ea⟩:=b7.Vx cL (L (by simp) gA) (L (by simp) c7) (L (by simp) c6) cX c1 c4 a2
  have bu:b≠j:=λq=>by subst q;rw[dy M,aq rfl]at P;simp at P
  have bB:=(H.step (Step.cons k.ok k.lt _)).step bN
  simp[i,K,H.get,gA.len (cx:=cx),a8,M,dG,P,yX P _ bu,yX M _ (br bu),bB.get]
  refine gd bz (by simp) ⟨I,c++[d],n+du.ws (l.take f)+1,j,d.body⟩ ⟨⟨rfl,ea,O,by simp only;omega,by simp only;omega,by simp;omega,av.bd,N⟩,by simp only;omega⟩ ?_
  rintro _ c9 ⟨⟨et,eL,rfl⟩,aN,a6⟩
  simp only at aN a6
  have ef:=eb.trans bN
  have l4:=bB.step aN
  have EZ:=ef.trans aN
  simp
  refine dM (λo=> ?_) (λo=> ?_)
  ·simp[i,l4.get]
   refine gd bz (by simp) ⟨I,c++[d],n+du.ws (l.take f)+1+du.ws d.body,j,d.K8⟩ ⟨⟨rfl,a6,O,by simp only;omega,by simp only;omega,by simp;omega,av.el,N⟩,by simp only;omega⟩ ?_
   rintro _ Z ⟨⟨eu,eM,rfl⟩,bT,C⟩
   simp only at bT C
   replace EZ:=EZ.trans bT
   simp[i]
   obtain⟨er,eo,cb,eh,cp,b9,b8,u,D,Y,X,U,V,W⟩:=C.ex
   obtain⟨Q,R,h,al⟩:=D.cut (cx:=cx) (ty:=EV) (te:=EU) rfl xJ rfl (n:=c.length) (by simp) (by simp)
   have h:Gr Z Q 11 (c.map du.t):=by rw[List.map_append,cQ (by simp)]at h;rwa[bJ (by simp)]at h
   obtain⟨J,z⟩:=C.back u Y X U V W h al
   have de:(c++[d]).length=c.length+1:=by simp
   have y:=kl (a:=((c++[d]).length:Int)) (b:=1) (by omega) (by omega)
   have an:((c++[d]).length:Int)-1=(c.length:Int):=by simp
   rw[an]at y
   simp[i,u,D.len (cx:=cx)]
   simp at y
   simp[y,R,h.fT,h.cells,dG,u]
   refine dM (λo=> ?_) (λo=> ?_)
   ·simp
    exact⟨by simp,(EZ.trans J).out,z.out (by simp only;omega)⟩
   ·simp[i,w,G,bs]
    exact⟨EZ.trans J,by rw[bv];exact z.same (by omega) z.ok (λ_ _=>rfl) (au _)⟩
  ·have C:=a6
   generalize c9=Z at*
   simp[i]
   obtain⟨er,eo,cb,eh,cp,b9,b8,u,D,Y,X,U,V,W⟩:=C.ex
   obtain⟨Q,R,h,al⟩:=D.cut (cx:=cx) (ty:=EV) (te:=EU) rfl xJ rfl (n:=c.length) (by simp) (by simp)
   have h:Gr Z Q 11 (c.map du.t):=by rw[List.map_append,cQ (by simp)]at h;rwa[bJ (by simp)]at h
   obtain⟨J,z⟩:=C.back u Y X U V W h al
   have de:(c++[d]).length=c.length+1:=by simp
   have y:=kl (a:=((c++[d]).length:Int)) (b:=1) (by omega) (by omega)
   have an:((c++[d]).length:Int)-1=(c.length:Int):=by simp
   rw[an]at y
   simp[i,u,D.len (cx:=cx)]
   simp at y
   simp[y,R,h.fT,h.cells,dG,u]
   refine dM (λo=> ?_) (λo=> ?_)
   ·simp
    exact⟨by simp,(EZ.trans J).out,z.out (by simp only;omega)⟩
   ·simp[i,w,G,bs]
    exact⟨EZ.trans J,by rw[bv];exact z.same (by omega) z.ok (λ_ _=>rfl) (au _)⟩
 ·rintro B F ⟨aA,s,i,w,G⟩
  rw[aQ]at s
  simp[w,G]
  exact⟨by simp,aA.out,s.out (au _)⟩
theorem CM:nZ Tryz.prog cx 142 (λa:List f6=>[sl (a.map f6.t)]) (λa=>a.length<=1000000) (λ_=>FV):=by
 refine jk (tb:=⟨pt [(191,mw)],ht []⟩) dX dU (iN 1242795222330225588904675325 [] Tryz.func142) (λG=>1000005) (λA B c=>ja (λ_ _=>f6.inj) (by simpa using c)) (by simp) (by simp[Tryz.f142]) ?_
 rintro a hl b r
 simp at r
 simp[Tryz.f142]
 refine eQ a.length (by omega) (λx b c=>gh 0 c/\TI.dt b 0=some (sl (a.map f6.t))/\(∃d,TI.dt b 4=some (.int .i64 d))/\(∃d,TI.dt b 5=some (.int .i64 d))/\(∃d,TI.dt b 6=some (.int .i64 d))/\(∃d,TI.dt b 7=some (.int .i64 d))/\TI.dt b 8=some (.int .i64 x)) ?_ ?_ (by omega) (by simp[r];exact⟨by simp,by simp,by simp⟩)
 ·rintro i b c j s ⟨e,f,⟨C,m⟩,⟨D,n⟩,⟨E,o⟩,⟨F,q⟩,g⟩
  have l:=λ{tb:eG} (c:tb.p 191=some mw) z=>Ak c (a.take i) z (by rw[List.length_take];omega)
  simp[f,g,j,e.low,l,bC j]
  rcases EM ((a.take i).map f6.name) a[i].on 0 with k|⟨y,v,k⟩
  ·generalize a[i]=u at*
   repeat' (refine dM (λh=> ?_) (λh=> ?_)<;>simp[h,f,m,n,o,q,g,e.hp,e.cons,l,bC j,oH,s,k])
  ·simp at v k
   have w:y<a.length:=by omega
   generalize a[i]=u at*
   repeat' (refine dM (λh=> ?_) (λh=> ?_)<;>simp[h,f,m,n,o,q,g,e.hp,e.cons,l,bC j,oH,s,k,w])
 ·rintro b c ⟨e,f,_,_,_,_,g⟩
  simp[f,g,e.hp]
def Wc(a:ez):Prop:=Pp a/\(a.dp.map λb=>du.ws b.body).sum<=1000000/\(∀b∈a.dp,∀d∈b.body,MS d)/\∃c,c<a.iP.length/\qV (a.iP.map f6.name) [99] 0=c
def oR(a:List eY):Nat:=(a.map λb=>du.ws b.body).sum
theorem jw:nZ Tryz.prog cx 93 (λa:ez=>[a.t]) Wc (λ_=>FV):=by
 have av:=tX (λi:IS=>du.ws i.l) OD 1000001
 refine jk (tb:=⟨pt [(141,Fo.jl),(142,CM.jl),(143,zb.jl),(144,Jj.jl)],ht [(145,jM IS (λi B b=>Dv i B b/\du.ws i.l<1000001) xj)]⟩) dX dU (iN 19342850151455133005856767 [] Tryz.func93) (λa=>1000005) (λB j b=>by simp at b;exact ez.inj b) (by simp) (by simp[Tryz.f93]) ?_
 rintro a ⟨m,an,Y,Z⟩ d D
 simp at D
 obtain⟨_,⟨aX,rfl⟩,L⟩:=Fo.use a m
 obtain⟨_,⟨bi,bn,rfl⟩,M⟩:=CM.use a.iP m.1
 obtain⟨_,⟨bk,bp,rfl⟩,N⟩:=zb.use a m
 have hl:=m.2.1
 simp[Tryz.f93,D,L]
 refine dM (λf=> ?_) (λf=> ?_)
 ·simp
 simp[M]
 refine dM (λf=> ?_) (λf=> ?_)
 ·simp
 simp
 refine dM (λf=> ?_) (λf=> ?_)
 ·simp
 simp[N]
 refine dM (λf=> ?_) (λf=> ?_)
 ·simp
 simp
 refine eQ a.dp.length (by omega) (λo d b=>b=hE.cons ⟨2,0,0,true,false,[a.t]⟩/\TI.dt d 1=some (.ptr 0 0 0 0)/\(∃q,TI.dt d 8=some (.int .i64 q))/\TI.dt d 9=some (.int .i64 o)) ?_ ?_ (by omega) (by simp)
 ·rintro i d b k x ⟨rfl,g,⟨q,u⟩,w⟩
  obtain⟨_,⟨c,rfl⟩,O⟩:=Jj.use a.dp[i].body (by have:=(m.2.2 _ (aF k)).2;omega)
  simp[g,u,w,k,O,oH,x]
 rintro d b ⟨rfl,g,⟨q,u⟩,w⟩
 simp[g,u,w]
 refine dM (λf=> ?_) (λf=> ?_)
 ·simp
 simp[g]
 have al:∀{i:Nat} (H:i<a.dp.length),oR (a.dp.take (i+1))=oR (a.dp.take i)+du.ws a.dp[i].body:=λ{i} H=>by
  unfold oR;rw[bj H,List.map_append,List.sum_append];simp
 have ae:∀i,oR (a.dp.take i)<=1000000:=λi=>by
  have:oR a.dp<=1000000:=an
  have X:oR a.dp=oR (a.dp.take i)+oR (a.dp.drop i):=by unfold oR;rw[<-List.sum_append,<-List.map_append,cK]
  omega
 refine eQ a.dp.length (by omega) (λo d b=>Wk a [] (oR (a.dp.take o)) b 1/\Lb 1 b 0 ⟨2,0,0,true,false,[a.t]⟩/\TI.dt d 1=some (.ptr 0 0 0 0)/\TI.dt d 10=some (.ptr 1 0 0 0)/\TI.dt d 11=some (.int .i64 o)) ?_ ?_ (by omega) ?_
 ·rintro i d b k x ⟨r,p,g,s,n⟩
  have W:=al k
  have a7:=ae (i+1)
  obtain⟨a8,t,aN,sv,a6,S,E,C,gA,V,U,P,Q,R⟩:=r.ex
  obtain⟨aA,aE⟩:=r.dA C gA V U P Q R i
  have J:=p.step aA
  simp[p.get,g,s,n,k,C,dG,J.get]
  refine gd av (by simp) ⟨a,[],oR (a.dp.take i),1,a.dp[i].body⟩ ⟨⟨rfl,aE,m,by simp only;omega,by simp only;omega,by simp,Y _ (aF k),Z⟩,by simp only;omega⟩ ?_
  rintro _ X ⟨⟨e,q,rfl⟩,K,A⟩
  simp only at K A
  have ap:=J.step K
  simp
  refine dM (λf=> ?_) (λf=> ?_)
  ·simp[A.ok.hp]
  ·simp[g,s,n,x]
   exact⟨by rw[W];exact A,ap⟩
 ·rintro d b ⟨r,p,g,s,n⟩
  simp[p.get,g,n,r.ok.hp]
 ·have G:((hE.cons ⟨2,0,0,true,false,[a.t]⟩).cons ⟨6,0,0,true,false,[.agg [sl (a.iP.map f6.t),sl (a.dp.map eY.t),.int .i64 0,.dq [] false,.dq [] false,.dq [] false]]⟩).get 1=some ⟨6,0,0,true,false,[.agg [sl (a.iP.map f6.t),sl (a.dp.map eY.t),.int .i64 0,.dq [] false,.dq [] false,.dq [] false]]⟩:=by simp
  have F:∀j,Fp ((hE.cons ⟨2,0,0,true,false,[a.t]⟩).cons ⟨6,0,0,true,false,[.agg [sl (a.iP.map f6.t),sl (a.dp.map eY.t),.int .i64 0,.dq [] false,.dq [] false,.dq [] false]]⟩) 1 j->j=1:=λj h=>by
   rcases h with rfl|⟨z,y,v,I,h⟩
   ·rfl
   ·rw[G]at y;simp only[ar]at y;subst y
    simp[d6,T.cells]at I
    rcases I with rfl|rfl|rfl|rfl|rfl|rfl<;>simp at h
  simp[g]
  exact⟨⟨⟨by simp,by simp,by simp⟩,λj h=>by rw[F j h];simp,0,0,_,_,_,[],[],G,Gr.nil _ _,Gr.nil _ _,Gr.nil _ _,by simp,by simp,by simp⟩,by simp,λh=>absurd (F 0 h) (by decide)⟩
structure ISi where
 (O:List gY) (v:T) (t n:Int) (l:List du)
def Ym(a:ISi)(c:List T)(b:H):Prop:=c=[a.v,.int .i64 a.t,.int .i64 a.n,sl (a.l.map du.t)]/\Gr b a.v 3 (a.O.map gY.t)/\gh 0 b/\a.O.length+du.ws a.l<=10000000
def TU(a:ISi)(h:List T)(d:H)(g:T)(e:H):Prop:=∃c f,∃b:List gY,g= .tuple [c,.int .i64 f]/\b.length<=a.O.length+du.ws a.l/\Xt d a.v 3 (b.map gY.t) c e
abbrev Ya(d:Nat):kw:=jM ISi (λa b c=>Ym a b c/\du.ws a.l<d) TU
theorem Hw(y:Nat)(C:(Ya y).Ok Tryz.prog cx 147):(Ya (y+1)).Ok Tryz.prog cx 147:=by
 refine iU (tb:=⟨pt [],ht [(147,Ya y)]⟩) dX dU (iN 18191 [] Tryz.func147) (λ_ _=>10000005) (λa U k K=>by obtain⟨⟨rfl,_⟩,_⟩:=K;simp[Tryz.f147]) ?_
 rintro⟨u,s,n,L,l⟩ _ k ⟨⟨rfl,z,N,J⟩,I⟩ c A
 simp only at z J I
 simp at A
 obtain⟨m,d,h,b⟩:=A
 have hl:=du.tM (l:=l)
 have S:Xt (hr k) s 3 (u.map gY.t) s (hr k):=Xt.refl (z.mono λF _=>fU k F) N.hr
 simp[Tryz.f147]
 refine eQ l.length (by omega) (λa c v=>∃o i,∃e:List gY,TI.dt c 0=some o/\TI.dt c 1=some (.int .i64 n)/\TI.dt c 2=some (.int .i64 i)/\TI.dt c 3=some (sl (l.map du.t))/\TI.dt c 10=some (.int .i64 a)/\e.length<=u.length+du.ws (l.take a)/\Xt (hr k) s 3 (e.map gY.t) o v) ?_ ?_ (by omega) ⟨s,L,u,by simp[m,d,h,b,S]⟩
 ·rintro a c v x H ⟨o,i,e,m,d,h,b,g,w,j⟩
  have ae:=du.Dh l x
  have Z:=du.wm l (a+1)
  obtain⟨Q,V,G,p⟩:=j.1.nY (cx:=cx) (f:=gY.t) ⟨j.2.2.2.hp,j.2.2.2.low,aw _⟩ U2 rfl Qq rfl (by simp) (by simp) (⟨n,i,l[a].tK⟩:gY) (by simp;omega)
  simp[m,d,h,b,g,x]
  have B:l[a]? =some l[a]:=aB x
  generalize l[a]=r at*
  have Y:=r.kJ
  simp[d,h,b,g,G,oH,B,p.1.pq,zW]
  refine gd C (by simp) ⟨e++[⟨n,i,r.tK⟩],Q,n,_,r.body⟩ ⟨⟨rfl,p.1,⟨p.2.2.2.hp,p.2.2.2.low,aw _⟩,by simp;omega⟩,by simp only;omega⟩ ?_
  rintro _ W ⟨R,M,D,rfl,O,q⟩
  simp only[aP,List.length_singleton]at O
  simp[d,b,g,B,q.1.pq,zW]
  refine gd C (by simp) ⟨D,R,n,M,r.K8⟩ ⟨⟨rfl,q.1,⟨q.2.2.2.hp,q.2.2.2.low,aw _⟩,by simp only;omega⟩,by simp only;omega⟩ ?_
  rintro _ X ⟨an,al,E,rfl,P,T⟩
  simp only at P
  simp[d,b,g,H]
  exact⟨E,by omega,((j.trans p).trans q).trans T⟩
 ·rintro c v ⟨o,i,e,m,d,h,b,g,w,j⟩
  rw[aQ]at w
  simp[m,h,b,g]
  exact⟨o,i,e,rfl,w,j.out⟩
theorem KE:(Ya 10000001).Ok Tryz.prog cx 147:=tX (λa:ISi=>du.ws a.l) Hw 10000001
def e04(c:ez):Int:=Classical.epsilon λa=>∃b,jw.jl.R c= .tuple [.int .i64 a,.int .i64 b]
def l04(a:ez):Int:=Classical.epsilon λb=>jw.jl.R a= .tuple [.int .i64 (e04 a),.int .i64 b]
theorem c04{c:eG}(ht:c.p 93=some jw.jl)(p:ez)(b:Wc p):rl Tryz.prog cx c 93 [p.t]=some (.tuple [.int .i64 (e04 p),.int .i64 (l04 p)]):=by
 have e:∃a,jw.jl.R p= .tuple [.int .i64 (e04 p),.int .i64 a]:=Classical.epsilon_spec (p:=λd=>∃a,jw.jl.R p= .tuple [.int .i64 d,.int .i64 a]) (jw.2 p b)
 exact(fR ht jw.1 p b).trans (bO some (Classical.epsilon_spec e))
def M5(b:ez):Prop:=Wc b/\b.iP.length<=100/\(∀a∈b.iP,a.size<=4)/\∃a∈b.iP,a.kind=1/\a.name=[113]
def W9(m:H)(a n f:Nat)(e:List fN):Prop:=∃o g h i j k l,∃(Lk:List gH) (b:List iC) (c Th:List (List Nat)) (d:List gY),qY m 2 6 o [(g,some (5,e.map fN.t)),(h,some (2,Lk.map gH.t)),(i,some (2,b.map iC.t)),(j,some (1,c.map T.str)),(k,some (1,Th.map T.str)),(l,some (3,d.map gY.t))]/\
 Lk.length<=a/\b.length<=a/\c.length<=a/\Th.length<=n/\d.length<=f
theorem W9.le{e:H}{b c f d:Nat}{a:List fN}(r:W9 e b f d a)(x:b<=c):W9 e c f d a:=by
 obtain⟨t,j,k,l,m,n,o,Lk,g,h,Th,i,s,u,v,w,p,q⟩:=r
 exact⟨t,j,k,l,m,n,o,Lk,g,h,Th,i,s,by omega,by omega,by omega,p,q⟩
def HW(b:List Nat)(a:List fN):Prop:=b∈a.map fN.name
def ET:iE:=⟨6,0,0,true,false,[.agg [.dq [] false,.dq [] false,.dq [] false,.dq [] false,.dq [] false,.dq [] false]]⟩
theorem AU:nZ Tryz.prog cx 94 (λd:ez=>[d.t]) M5 (λd r=>∃W:dJ,r=W.t/\(e04 d=0->okW W)):=by
 refine jk (tb:=⟨pt [(93,jw.jl),(146,pT)],ht [(147,Ya 10000001)]⟩) dX dU (iN 316913254556860716756833993695 [(21,[(1,8),(3,8)])] Tryz.func94) (λd=>1000005) (λa b h=>by simp at h;exact ez.inj h) (by simp) (by simp[Tryz.f94]) ?_
 rintro d ⟨bs,eH,bn,ea⟩ j b8
 simp at b8
 have c4:=λ{tb:eG} (ht:tb.p 93=some jw.jl)=>c04 ht d bs
 have hl:=bs.1.1
 simp[Tryz.f94,b8,c4]
 refine dM (λbB=> ?_) (λbB=> ?_)
 ·simp at bB
  simp[bB]
  exact⟨⟨[],[],[],[],[],[]⟩,rfl⟩
 simp
 refine eQ d.iP.length (by omega) (λi j h=>∃z,W9 h i 0 0 z/\Lb 2 h 0 ⟨2,0,0,true,false,[d.t]⟩/\Lb 2 h 1 ET/\z.length<=4*i/\(∀c∈d.iP.take i,c.kind=1->HW c.name z)/\TI.dt j 1=some (.ptr 0 0 0 0)/\TI.dt j 2=some (.ptr 1 0 0 0)/\TI.dt j 3=some (.ptr 2 0 0 0)/\TI.dt j 6=some (.int .i64 i)) ?_ ?_ (by omega) ?_
 ·rintro i j h an ae ⟨z,⟨ver,D,K,E,G,H,A,Lk,O,P,Th,J,e,av,aA,aE,S,U⟩,o,v,dd,ap,u,x,y,M⟩
  have R:=e.get
  simp at R
  have eL:(0=h.size)=False:=by have:=e.lt;simp;omega
  have eM:(2=h.size)=False:=by have:=e.lt;simp;omega
  have bi:∀c∈d.iP.take (i+1),c∈d.iP.take i\/c=d.iP[i]:=λc bn=>by
   rw[bj an]at bn
   exact(List.mem_append.1 bn).imp id λq=>List.mem_singleton.1 q
  have eO:=bn d.iP[i] (aF an)
  simp[u,M,an,o.get,e.ok.low]
  generalize d.iP[i]=c at*
  have B:=e.cons ⟨6,0,1,true,false,[c.t]⟩
  have cX:=Step.cons e.ok e.lt ⟨6,0,1,true,false,[c.t]⟩
  have X:=Lb.new e.lt e.fp ⟨6,0,1,true,false,[c.t]⟩
  replace o:=o.step cX
  replace v:=v.step cX
  have a7:(h.cons ⟨6,0,1,true,false,[c.t]⟩).get 2=h.get 2:=by rw[dH,ao (by have:=e.lt;omega)]
  rw[R]at a7
  generalize eN:h.size=bX at*
  generalize h.cons ⟨6,0,1,true,false,[c.t]⟩=eA at*
  by_cases eh:c.kind=1\/c.kind=2
  ·have bk:∃N:Nat,max c.size 1=N/\1<=N/\N<=4:=⟨(max c.size 1).toNat,by omega,by omega,by omega⟩
   obtain⟨N,bk,di,eF⟩:=bk
   rcases eh with hk|hk<;>(
    simp[hk]
    refine eQ N (by omega) (λk j h=>∃Z,W9 h i 0 0 Z/\Lb 2 h 0 ⟨2,0,0,true,false,[d.t]⟩/\Lb 2 h 1 ET/\Lb 2 h bX ⟨6,0,1,true,false,[c.t]⟩/\Z.length<=4*i+k/\(∀n,HW n z->HW n Z)/\(1<=k->HW c.name Z)/\TI.dt j 1=some (.ptr 0 0 0 0)/\TI.dt j 2=some (.ptr 1 0 0 0)/\TI.dt j 3=some (.ptr 2 0 0 0)/\TI.dt j 6=some (.int .i64 i)/\TI.dt j 7=some (.ptr bX 0 0 0)/\TI.dt j 8=some (.int .i64 k)) ?_ ?_ (by omega) ⟨z,⟨ver,D,K,E,G,H,A,Lk,O,P,Th,J,B,av,aA,aE,S,U⟩,o,v,X,by omega,λ_ h=>h,λh=>by omega,by simp[u,x,y,M]⟩
    ·rintro k j h ds dm ⟨Z,⟨ver,D,K,E,G,H,A,Lk,O,P,Th,J,e,av,aA,aE,S,U⟩,o,v,X,de,al,bp,u,x,y,M,bv,bz⟩
     have R:=e.get
     simp at R
     have eI:(k:Int)<max c.size 1:=by omega
     obtain⟨V,aN,L,l⟩:=(e.gr 0 rfl).nY (cx:=cx) (f:=fN.t) e.ok U4 rfl Qt rfl (by simp) (by simp) (⟨c.name,k,c.size,decide (c.kind=2),c.lY⟩:fN) (by simp;omega)
     obtain⟨s,aX,I⟩:=e.app 0 rfl l
     obtain⟨g,m⟩:=I _ rfl
     simp at s g m
     simp[hk]at L
     simp[hk,u,x,y,M,bv,bz,X.get,R,ds,bk,L,s,dG,l.1.fT,l.1.cells,dm]
     exact⟨_,⟨ver+1,V,K,E,G,H,A,Lk,O,P,Th,J,m,av,aA,aE,S,U⟩,o.step g,v.step g,X.step g,by simp;omega,λn bN=>by have:=al n bN;unfold HW at*;rw[List.map_append];exact c8 _ this,by unfold HW;simp⟩
    ·rintro j h ⟨Z,ey,o,v,X,de,al,bp,u,x,y,M,bv,bz⟩
     simp[hk,u,x,y,M,bv,bz,X.get,bk,ae]
     exact⟨Z,ey.le (by omega),o,v,by omega,λC Y dv=>by
      rcases bi C Y with q|rfl
      ·exact al _ (ap C q dv)
      ·exact bp di⟩)
  have eo:¬c.kind=1/\¬c.kind=2:=by omega
  by_cases ca:c.kind=3
  ·obtain⟨V,aN,L,l⟩:=(B.gr 1 rfl).nY (cx:=cx) (f:=gH.t) B.ok NY rfl JH rfl (by simp) (by simp) (⟨c.name,false⟩:gH) (by simp;omega)
   obtain⟨s,aX,I⟩:=B.app 1 rfl l
   obtain⟨g,m⟩:=I _ rfl
   simp at s g m
   simp[ca,u,x,y,M,X.get,a7,ae,L,s,dG,l.1.fT,l.1.cells]
   exact⟨z,⟨ver+1,D,V,E,G,H,A,_,O,P,Th,J,m,by simp;omega,by omega,by omega,S,U⟩,o.step g,v.step g,by omega,λC Y hk=>ap C ((bi C Y).resolve_right λQ=>by subst Q;omega) hk⟩
  by_cases cb:c.kind=4
  ·obtain⟨V,aN,L,l⟩:=(B.gr 1 rfl).nY (cx:=cx) (f:=gH.t) B.ok NY rfl JH rfl (by simp) (by simp) (⟨c.name,true⟩:gH) (by simp;omega)
   obtain⟨s,aX,I⟩:=B.app 1 rfl l
   obtain⟨g,m⟩:=I _ rfl
   simp at s g m
   simp[cb,u,x,y,M,X.get,a7,ae,L,s,dG,l.1.fT,l.1.cells]
   exact⟨z,⟨ver+1,D,V,E,G,H,A,_,O,P,Th,J,m,by simp;omega,by omega,by omega,S,U⟩,o.step g,v.step g,by omega,λC Y hk=>ap C ((bi C Y).resolve_right λQ=>by subst Q;omega) hk⟩
  by_cases ce:c.kind=5
  ·have c7:=(B.gr 1 rfl).pq (by simp)
   have c6:=λ{tb:eG} (h:tb.p 146=some pT)=>JS h Lk c.on (by omega)
   obtain⟨V,aN,L,l⟩:=(B.gr 2 rfl).nY (cx:=cx) (f:=iC.t) B.ok U3 rfl Qr rfl (by simp) (by simp) (⟨c.name,qV (Lk.map gH.name) c.on 0⟩:iC) (by simp;omega)
   obtain⟨s,aX,I⟩:=B.app 2 rfl l
   obtain⟨g,m⟩:=I _ rfl
   simp at s g m
   simp[ce,u,x,y,M,X.get,a7,ae,L,s,dG,l.1.fT,l.1.cells,c7,c6]
   exact⟨z,⟨ver+1,D,K,V,G,H,A,Lk,_,P,Th,J,m,by omega,by simp;omega,by omega,S,U⟩,o.step g,v.step g,by omega,λC Y hk=>ap C ((bi C Y).resolve_right λQ=>by subst Q;omega) hk⟩
  ·obtain⟨V,aN,L,l⟩:=(B.gr 3 rfl).nY (cx:=cx) (f:=T.str) B.ok pH rfl uL rfl (by simp) (by simp) (c.name) (by simp;omega)
   obtain⟨s,aX,I⟩:=B.app 3 rfl l
   obtain⟨g,m⟩:=I _ rfl
   simp at s g m
   simp[eo,ca,cb,ce,u,x,y,M,X.get,a7,ae,L,s,dG,l.1.fT,l.1.cells]
   exact⟨z,⟨ver+1,D,K,E,V,H,A,Lk,O,_,Th,J,m,by omega,by omega,by simp;omega,S,U⟩,o.step g,v.step g,by omega,λC Y hk=>ap C ((bi C Y).resolve_right λQ=>by subst Q;omega) hk⟩
 ·rintro j h ⟨z,⟨ver,D,K,E,G,H,A,Lk,O,P,Th,J,e,av,aA,aE,S,U⟩,o,v,dd,ap,u,x,y,M⟩
  have eP:=bs.1.2.1
  have ef:∀{i:Nat} (b9:i<d.dp.length),oR (d.dp.take (i+1))=oR (d.dp.take i)+du.ws d.dp[i].body:=λ{i} b9=>by
   unfold oR;rw[bj b9,List.map_append,List.sum_append];simp
  have eb:∀i,oR (d.dp.take i)<=1000000:=λi=>by
   have:oR d.dp<=1000000:=bs.2.1
   have x:oR d.dp=oR (d.dp.take i)+oR (d.dp.drop i):=by unfold oR;rw[<-List.sum_append,<-List.map_append,cK]
   omega
  simp[u,M,o.get]
  refine eQ d.dp.length (by omega) (λi j h=>W9 h 1000000 i (oR (d.dp.take i)) z/\Lb 2 h 0 ⟨2,0,0,true,false,[d.t]⟩/\Lb 2 h 1 ET/\TI.dt j 1=some (.ptr 0 0 0 0)/\TI.dt j 2=some (.ptr 1 0 0 0)/\TI.dt j 3=some (.ptr 2 0 0 0)/\TI.dt j 9=some (.int .i64 i)) ?_ ?_ (by omega) ⟨⟨ver,D,K,E,G,H,A,Lk,O,P,Th,J,e,by omega,by omega,by omega,S,by simpa[oR]using U⟩,o,v,by simp[u,x,y]⟩
  ·rintro i j h an ae ⟨⟨ver,D,K,E,G,H,A,Lk,O,P,Th,J,e,av,aA,aE,S,U⟩,o,v,u,x,y,a8⟩
   have eB:=ef an
   have eC:=eb (i+1)
   have R:=e.get
   simp at R
   obtain⟨V,aN,L,l⟩:=(e.gr 4 rfl).nY (cx:=cx) (f:=T.str) e.ok pH rfl uL rfl (by simp) (by simp) (d.dp[i].name) (by simp;omega)
   obtain⟨s,aX,I⟩:=e.app 4 rfl l
   obtain⟨g,m⟩:=I _ rfl
   simp at s g m
   simp[u,y,a8,an,o.get,R,L,s,dG,l.1.fT,l.1.cells]
   have cp:=o.step g
   have er:=v.step g
   have b7:=m.get
   simp at b7
   generalize dI aN 2 _=eD at*
   simp[u,a8,an,cp.get,b7,(m.gr 5 rfl).pq,zW]
   refine gd KE (by simp) ⟨J,A,i,0,d.dp[i].body⟩ ⟨⟨rfl,m.gr 5 rfl,m.ok,by simp only;omega⟩,by simp only;omega⟩ ?_
   rintro _ eE ⟨eu,eR,c1,rfl,dk,bu⟩
   simp only at dk bu
   obtain⟨s,aX,I⟩:=m.app 5 rfl bu
   obtain⟨EZ,cL⟩:=I _ rfl
   simp at s EZ cL
   simp[u,x,y,a8,s,dG,bu.1.fT,bu.1.cells,ae]
   exact⟨⟨ver+1+1,D,K,E,G,V,eu,Lk,O,P,_,c1,cL,av,aA,aE,by simp;omega,by omega⟩,cp.step EZ,er.step EZ⟩
  ·rintro j h ⟨⟨ver,D,K,E,G,H,A,Lk,O,P,Th,J,e,av,aA,aE,S,U⟩,o,v,u,x,y,a8⟩
   have R:=e.get
   simp at R
   have a6:=e.uf v ⟨6,0,1,true,false,[.agg [D,K,E,G,H,A]]⟩
   have bT:=v.get
   unfold ET at bT
   have c9:(dI h 1 ⟨6,0,1,true,false,[.agg [D,K,E,G,H,A]]⟩).get 1=_:=(dy bT _ 1).trans (aq rfl)
   simp[u,x,y,a8,o.get,R,bT,dG,c9,(a6.gr 0 rfl).fz (by simp),(a6.gr 1 rfl).fz (by simp),(a6.gr 2 rfl).fz (by simp),(a6.gr 3 rfl).fz (by simp),(a6.gr 4 rfl).fz (by simp),(a6.gr 5 rfl).fz (by simp)]
   refine⟨⟨_,rfl,λ_=>⟨by simp only;omega,by simp only;omega,by simp only;omega,by simp only;omega,by simp only;omega,?_⟩⟩,e.ok.hp⟩
   obtain⟨c,dn,hk,bp⟩:=ea
   have al:=ap c (by rw[aQ];exact dn) hk
   unfold HW at al
   rw[bp]at al
   rcases EM (z.map fN.name) [113] 0 with Q|⟨n,bN,Q⟩
   ·have:=EN (z.map fN.name) [113] 0
    rw[Q,eq_true al]at this;simp at this
   ·exact⟨n,by simpa using bN,by rw[Q];simp⟩
 ·obtain⟨et,b6⟩:=qY.start (h:=((hE.cons ⟨2,0,0,true,false,[d.t]⟩).cons ET).cons ET) (w:=2) (szw:=6) (ver:=0) (F:=[(.dq [] false,some (5,[])),(.dq [] false,some (2,[])),(.dq [] false,some (2,[])),(.dq [] false,some (1,[])),(.dq [] false,some (1,[])),(.dq [] false,some (3,[]))]) ⟨by simp,by simp,by simp⟩ (by simp[ET]) (by simp)
  exact⟨[],⟨0,_,_,_,_,_,_,[],[],[],[],[],et,by simp,by simp,by simp,by simp,by simp⟩,⟨by simp,λq=>absurd (b6 0 q) (by decide)⟩,⟨by simp[ET],λq=>absurd (b6 1 q) (by decide)⟩,by simp⟩
def eT(a:Int×T):T:= .agg [.int .i64 a.1,a.2]
theorem ZZ{e:H}{c:Nat->Prop}{g:Int}{b d f:Nat}{a:List fa}(h:c b)(j:e.iy (.arr b d 0 f false)=some (a.map fa.t)):FT e c 4 (eT (g,.arr b d 0 f false)) (fq.t ⟨g,a⟩):=by
 have i:∀a:List fa,gG (FT e c 2) (a.map fa.t) (a.map fa.t):=λa=>by
  induction a with
  |nil=>exact .nil
  |cons l a k=>exact .cons (.inr (.inr ⟨_,_,rfl,.cons (fJ ..) (.cons (fJ ..) (.cons (fJ ..) (.cons (fJ ..) (.cons (fJ ..) (.cons (fJ ..) .nil))))),rfl⟩)) k
 exact .inr (.inr ⟨_,_,rfl,.cons (fJ ..) (.cons (.inr (.inl ⟨b,d,0,f,false,_,_,rfl,h,j,i a,rfl⟩)) .nil),rfl⟩)
def PcS(W:dJ)(a:H)(f:Nat):Prop:=∃g e,∃b:List (Int×T),∃d:List fq,qY a 2 7 g [(sl (W.cells.map fN.t),none),(sl (W.dP.map gH.t),none),(sl (W.fP.map iC.t),none),(sl (W.dR.map T.str),none),(sl (W.dp.map T.str),none),(sl (W.gW.map gY.t),none),(e,some (2,b.map eT))]/\
 gG (FT a (λc=>2<c/\c<a.size/\¬Fp a 2 c) 4) (b.map eT) (d.map fq.t)/\b.length=f/\∀h∈d,h.iJ.length<=10000001
theorem NJ{h:H}{w:Nat}{x:iE}(f:h.get w=some x)(g:∀b∈d6 x.dO,dE b=none)(c:Nat)(e:Fp h w c):c=w:=by
 rcases e with a|⟨j,d,b,i,a⟩
 ·exact a
 ·rw[f]at d;cases d;rw[g b i]at a;simp at a
structure Kp(h h':H):Prop where
 sz:h.size<h'.size
 get:∀b,b<h.size->h'.get b=h.get b
 fp:∀b,Fp h' h.size b->h.size<=b
theorem Kp.step{c f g:H}(b:Kp c f)(e:Step c.size f g):Kp c g:=
 ⟨bD b.sz e.ok.sz,λa d=>(e.get a (by have:=b.sz;omega) λh=>by have:=b.fp a h;omega).trans (b.get a d),λa d=>(e.fp a d).elim (b.fp a) λh=>by have:=b.sz;omega⟩
theorem Kp.new{h:H}(g:gh 0 h)(W:dJ)(a:List (List Nat))(c:Int):Kp h (h.cons ⟨10,0,0,true,false,[.agg (rO W a (.dq [] false) 0 c)]⟩)/\Gn W a 0 (h.cons ⟨10,0,0,true,false,[.agg (rO W a (.dq [] false) 0 c)]⟩) h.size:=by
 have f:=NJ (h:=h.cons ⟨10,0,0,true,false,[.agg (rO W a (.dq [] false) 0 c)]⟩) (w:=h.size) (x:=⟨10,0,0,true,false,[.agg (rO W a (.dq [] false) 0 c)]⟩) (by rw[dH,aq rfl]) (λi e=>by
  simp[d6,rO,T.cells]at e
  rcases e with rfl|rfl|rfl|rfl|rfl|rfl|rfl|rfl|rfl|rfl<;>simp)
 exact⟨⟨by simp,λb d=>by rw[dH,ao (by omega)],λb d=>by rw[f b d];exact au _⟩,g.cons _,λb d=>by rw[f b d];simp,0,.dq [] false,0,c,[],by rw[dH,aq rfl],Gr.nil _ _,rfl⟩
structure Sn(h h':H):Prop where
 ok:gh 0 h'
 size:h'.size=h.size+1
 get:∀c,c<h.size->h'.get c=h.get c
theorem Sn.new{h:H}(c:gh 0 h)(a:iE):Sn h (h.cons a):=⟨c.cons a,by simp,λd e=>by rw[dH,ao (by omega)]⟩
theorem Sn.put{a b:H}(c:Sn a b){x:iE}(g:b.get a.size=some x)(d:iE):Sn a (dI b a.size d):=⟨c.ok.put _ d,by rw[fc];exact c.size,λe f=>by rw[dy g,ao (by omega)];exact c.get e f⟩
def GE:iE:=⟨7,0,0,true,false,[.agg [.dq [] false,.dq [] false,.dq [] false,.dq [] false,.dq [] false,.dq [] false,.dq [] false]]⟩
theorem zd:nZ Tryz.prog cx 59 (λc:ez=>[c.t]) (λc=>M5 c/\c.dp.length<=100) (λc k=>∃(b:jh) (e l:Int),k= .tuple [b.t,.int .i64 e,.int .i64 l]/\∀J∈b.dp,J.iJ.length<=10000001):=by
 refine jk (tb:=⟨pt [(93,jw.jl),(94,AU.jl),(97,mh)],ht [(95,Ca 10000001),(96,jM B2 tv pY)]⟩) dX dU (iN 19808249554385699031857790975 [] Tryz.func59) (λc=>10000005) (λR j h=>by simp at h;exact ez.inj h) (by simp) (by simp[Tryz.f59]) ?_
 rintro c ⟨bB,eW⟩ a bN
 simp at bN
 have a8:=bB.1
 have c1:=λ{tb:eG} (ht:tb.p 93=some jw.jl)=>c04 ht c a8
 obtain⟨_,⟨W,rfl,aX⟩,c4⟩:=AU.use c bB
 simp[Tryz.f59,bN,c1]
 refine dM (λU=> ?_) (λU=> ?_)
 ·simp at U
  simp[U]
  exact⟨⟨⟨[],[],[],[],[],[]⟩,[]⟩,rfl,by simp⟩
 have aX:=aX (by simpa using U)
 simp[c4]
 refine eQ c.dp.length (by omega) (λi a h=>PcS W h i/\Lb 2 h 0 ⟨2,0,0,true,false,[c.t]⟩/\Lb 2 h 1 GE/\TI.dt a 1=some (.ptr 0 0 0 0)/\TI.dt a 2=some (.ptr 1 0 0 0)/\TI.dt a 7=some (.ptr 2 0 0 0)/\(∃al:Int,TI.dt a 8=some (.int .i64 al))/\TI.dt a 9=some (.int .i64 i)) ?_ ?_ (by omega) ?_
 ·rintro i a h V dk ⟨ce,Q,P,r,x,s,⟨al,y⟩,u⟩
  have e8:=ce
  obtain⟨ver,an,E,X,g,R,hE,a6⟩:=ce
  have O:=g.get
  simp at O
  have eh:(0=h.size)=False:=by have:=g.lt;simp;omega
  have eR:(2=h.size)=False:=by have:=g.lt;simp;omega
  simp[r,s,y,u,V,Q.get,O,eh]
  have ht:=a8.1.2.2 c.dp[i] (aF V)
  have ef:=a8.2.2.1 c.dp[i] (aF V)
  have eX:c.dp[i]? =some c.dp[i]:=aB V
  generalize c.dp[i]=t at*
  obtain⟨o,eo⟩:=Kp.new g.ok W t.locals al
  refine JR (KB 10000001) (by simp) eo aX ht.1 ef (by omega) (by omega) λeF ca eA e4 e5 b8=> ?_
  replace o:=o.step eA
  obtain⟨fl,e7,fb,bk,eD,gA,c9,di⟩:=b8.ex
  obtain⟨EZ,er⟩:=b8.FI gA c9 di (-1) bk
  replace o:=o.step EZ
  simp only[rO]at gA
  simp[gA,dG]
  refine ny (i:=⟨28,0,0,0,0,0⟩) (by simp) er (by omega) λG eB b9=> ?_
  replace o:=o.step eB
  obtain⟨fo,fe,e6,cX,j,S,fs,eE,eC,gC,av,eL,dv,b7,eH,ea⟩:=b9.Yt (by omega)
  have eS:(G.size=h.size)=False:=by have:=o.sz;simp;omega
  have bT:j<G.size:=H.dL av
  have eM:=o.fp j dv
  have cb:=b9.ok
  simp only[rO]at gC
  have eP:ca+1<=1000001:=by omega
  generalize ca+1=M at*
  generalize bX:h.size=N at*
  simp[gC,cb.low]
  refine eQ M (by omega) (λZ a v=>∃(k:Int) (B:Nat),Sn G v/\v.get G.size=some ⟨2,0,B,true,false,[.agg [.int .i64 k,.arr j S 0 M false]]⟩/\TI.dt a 1=some (.ptr 0 0 0 0)/\TI.dt a 2=some (.ptr 1 0 0 0)/\TI.dt a 7=some (.ptr 2 0 0 0)/\TI.dt a 8=some (.int .i64 bk)/\TI.dt a 9=some (.int .i64 i)/\TI.dt a 10=some (.ptr N 0 0 0)/\TI.dt a 11=some (.ptr G.size 0 0 0)/\TI.dt a 12=some (.int .i64 Z)) ?_ ?_ (by omega) ?_
  ·rintro Z a v b6 dm ⟨k,B,m,z,r,x,s,y,u,C,K,D⟩
   have ap:=(m.get N (by rw[<-bX];exact o.sz)).trans gC
   have dd:=(m.get j bT).trans av
   obtain⟨J,bi⟩:=ea Z b6
   simp[C,D,ap,dd,b6,bi,tR]
   have eU:(iv J).length<=3:=by unfold iv;(repeat' split)<;>simp
   refine eQ (iv J).length (by omega) (λn a v=>∃(k:Int) (B:Nat),Sn G v/\v.get G.size=some ⟨2,0,B,true,false,[.agg [.int .i64 k,.arr j S 0 M false]]⟩/\TI.dt a 1=some (.ptr 0 0 0 0)/\TI.dt a 2=some (.ptr 1 0 0 0)/\TI.dt a 7=some (.ptr 2 0 0 0)/\TI.dt a 8=some (.int .i64 bk)/\TI.dt a 9=some (.int .i64 i)/\TI.dt a 10=some (.ptr N 0 0 0)/\TI.dt a 11=some (.ptr G.size 0 0 0)/\TI.dt a 12=some (.int .i64 Z)/\TI.dt a 13=some (sl ((iv J).map (T.int .i64)))/\TI.dt a 14=some (.int .i64 n)) ?_ ?_ (by omega) ⟨k,B,m,z,by simp[r,x,s,y,u,C,K,D]⟩
   ·rintro n a v a7 dn ⟨k,B,m,z,r,x,s,y,u,C,K,D,aA,aE⟩
    simp[r,x,s,y,u,C,K,D,aA,aE,a7,z,oH,dG]
    exact⟨m.put z _,⟨_,_,(dy z _ _).trans (aq rfl)⟩,by simpa[oH]using dn⟩
   ·rintro a v ⟨k,B,m,z,r,x,s,y,u,C,K,D,aA,aE⟩
    simp[r,x,s,y,u,C,K,D,aA,aE,dm]
    exact⟨m,k,B,z⟩
  ·rintro a v ⟨k,B,m,z,r,x,s,y,u,C,K,D⟩
   have L:∀b,b<h.size->v.get b=h.get b:=λb A=>(m.get b (by have:=o.sz;omega)).trans (o.get b A)
   have bn:=g.step m.ok λb A=>L b (g.fp b A)
   have bz:=bn.get
   simp at bz
   obtain⟨bp,aN,bu,bs⟩:=(bn.gr 6 rfl).nY (cx:=cx) (f:=eT) m.ok UV rfl Qm rfl (by simp) (λJ=>rfl) (k,.arr j S 0 M false) (by simp;omega)
   obtain⟨cp,e9,et⟩:=bn.app 6 rfl bs
   obtain⟨I,cL⟩:=et _ rfl
   simp at cp I cL
   simp only[eT]at bu
   have ap:=(m.get N (by rw[<-bX];exact o.sz)).trans gC
   simp[ap,r,x,s,y,u,C,K,D,z,bz,bu,cp,dG,bs.1.fT,bs.1.cells,dk]
   have eV:=m.size
   have eN:=o.sz
   have Y:=iH (L 2 g.lt)
   have ds:∀b,b<N->¬Fp h 2 b->(dI aN 2 _).get b=h.get b:=λb A a7=>(I.get b (by omega) (by rw[Y];exact a7)).trans (L b (by omega))
   have eO:=g.lt
   refine⟨⟨_,bp,E++[(k,.arr j S 0 M false)],X++[⟨k,cX⟩],by simpa using cL,?_,by simp;omega,λJ bi=> ?_⟩,(Q.j8 (L 2 g.lt) (L 0 Q.lt)).step I,(P.j8 (L 2 g.lt) (L 1 P.lt)).step I⟩
   ·rw[List.map_append,List.map_append]
    have e0:v.size<=(dI aN 2 (⟨7,0,ver+1,true,false,[.agg [sl (W.cells.map fN.t),sl (W.dP.map gH.t),sl (W.fP.map iC.t),sl (W.dR.map T.str),sl (W.dp.map T.str),sl (W.gW.map gY.t),bp]]⟩:iE)).size:=I.ok.sz
    refine gG.append (R.ft λb A=>⟨⟨A.1,by omega,λq=> ?_⟩,ds b A.2.1 A.2.2⟩) (.cons (ZZ ⟨by omega,by omega,λq=> ?_⟩ ?_) .nil)
    ·rcases I.fp b q with q|q
     ·rw[Y]at q;exact A.2.2 q
     ·omega
    ·rcases I.fp j q with q|q
     ·rw[Y]at q;have:=g.fp j q;omega
     ·omega
    ·have de:(dI aN 2 (⟨7,0,ver+1,true,false,[.agg [sl (W.cells.map fN.t),sl (W.dP.map gH.t),sl (W.fP.map iC.t),sl (W.dR.map T.str),sl (W.dp.map T.str),sl (W.gW.map gY.t),bp]]⟩:iE)).get j=_:=((I.get j (by omega) λq=>by rw[Y]at q;have:=g.fp j q;omega).trans (m.get j bT)).trans av
     have eb:M<=eC.length:=by
      have:=bO List.length b7
      rw[List.length_take,aH]at this;omega
     rw[fH,de]
     simp[eb,b7]
   ·rcases List.mem_append.1 bi with q|q
    ·exact a6 J q
    ·rw[List.mem_singleton.1 q];simp only;omega
  ·exact⟨t.locals.length,1,Sn.new cb _,by simp,by simp[r,x,s,u]⟩
 ·rintro a h ⟨⟨ver,an,E,X,g,R,hE,a6⟩,Q,P,r,x,s,⟨al,y⟩,u⟩
  have O:=g.get
  simp at O
  have ae:=P.get
  unfold GE at ae
  have ey:=g.uf P ⟨7,0,1,true,false,[.agg [sl (W.cells.map fN.t),sl (W.dP.map gH.t),sl (W.fP.map iC.t),sl (W.dR.map T.str),sl (W.dp.map T.str),sl (W.gW.map gY.t),an]]⟩
  have c7:(dI h 1 ⟨7,0,1,true,false,[.agg [sl (W.cells.map fN.t),sl (W.dP.map gH.t),sl (W.fP.map iC.t),sl (W.dR.map T.str),sl (W.dp.map T.str),sl (W.gW.map gY.t),an]]⟩).get 1=_:=(dy ae _ 1).trans (aq rfl)
  have c6:=(ey.gr 6 rfl).Gl (d:=4) (by omega) (R.ft (V':=λ_=>True) λj eI=>⟨trivial,by rw[dy ae,ao (by omega)]⟩)
  simp[r,x,s,u,Q.get,O,ae,dG,c7,c6]
  exact⟨⟨⟨W,X⟩,rfl,a6⟩,g.ok.hp⟩
 ·obtain⟨eu,bv⟩:=qY.start (h:=((hE.cons ⟨2,0,0,true,false,[c.t]⟩).cons GE).cons ⟨7,0,1,true,false,[.agg [sl (W.cells.map fN.t),sl (W.dP.map gH.t),sl (W.fP.map iC.t),sl (W.dR.map T.str),sl (W.dp.map T.str),sl (W.gW.map gY.t),.dq [] false]]⟩) (w:=2) (szw:=7) (ver:=1) (F:=[(sl (W.cells.map fN.t),none),(sl (W.dP.map gH.t),none),(sl (W.fP.map iC.t),none),(sl (W.dR.map T.str),none),(sl (W.dp.map T.str),none),(sl (W.gW.map gY.t),none),(.dq [] false,some (2,[]))]) ⟨by simp,by simp,by simp⟩ (by simp[GE]) (by simp)
  exact⟨⟨_,_,[],[],eu,.nil,rfl,by simp⟩,⟨by simp,λq=>absurd (bv 0 q) (by decide)⟩,⟨by simp[GE],λq=>absurd (bv 1 q) (by decide)⟩,by simp⟩
end
end Go.Proofs.YtmaeadedikngoaaGreatDoor
