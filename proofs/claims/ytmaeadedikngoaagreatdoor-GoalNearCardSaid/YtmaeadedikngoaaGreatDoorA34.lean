/- Texts W09f to W06x. -/
import Derived.Test.YtmaeadedikngoaaGreatDoorA33
set_option linter.all false
set_option maxRecDepth 100000
set_option maxHeartbeats 8000000
namespace Go.Proofs.YtmaeadedikngoaaGreatDoor
noncomputable section
open Go Go.TI
attribute [-simp] List.map_take List.map_drop List.map_append fw eQ dZ Bool.not_or Bool.not_and
attribute [simp] fq eY
def Sp9(f:H)(a:fk)(b c:List Int):Prop:=∃g d e,mW f 2 7 g [(sl (a.dY.map dV.t),none),(dy a.tx,none),(sl (a.done.map T.bool),none),(sl (a.dE.map dG.t),none),(d,some (1,gG b)),(e,some (1,gG c)),(dz,none)]
structure Tt9(c:jz)(S:fk)(C F:List Int)(cc cf:T)(n1 k:Nat)(h:H)(ver:Nat)(ct:T)(es:List T)(ts:List ee)(lo hi:Nat->Nat):Prop where
 ok:gF 0 h
 n:3<=n1/\n1<=h.size
 b0:h.get 0=some (dA 7 0 [c.t])
 b1:h.get 1=some mS
 b2:h.get 2=some (dA 7 ver [.agg [sl (S.dY.map dV.t),dy S.tx,sl (S.done.map T.bool),sl (S.dE.map dG.t),cc,cf,ct]])
 gc:Gr h cc 1 (gG C)
 gf:Gr h cf 1 (gG F)
 bx:∀q,dO cc=some q\/dO cf=some q->3<=q/\q<n1
 th:R9 n1 h ct es ts lo hi
 l:ts.length=k
 t:∀t∈ts,TJ 1000000 t/\t.dK=0
def abV(b:T):Prop:=∃a:iz,b=a.t/\StI a/\U8 0 a
def Dt:m6 Tryz.prog cx 76 (λk:jz=>[k.t]) (λk=>∀x∈k.dE,x.iW.length<=10000001) (λ_=>abV):=by
 refine jd (tb:=⟨pt [(74,vV.jf),(73,qK)],ht []⟩) ew ej (iQ 4504699140047487 [] Tryz.func76) (λ_=>1005) (λa b h=>by simp at h;exact jz.inj h) dt (by simp[Tryz.f76]) ?_;rintro k dd r X;simp at X;obtain⟨_,⟨b,rfl,bi⟩,bH⟩:=vV.use k dd;cases b with
 |false=>
  simp[Tryz.f76,X,bH];exact⟨⟨⟨[],0,[],[]⟩,[],[],[]⟩,rfl,⟨dt,λl hl=>by simp at hl,λl hl=>by simp at hl,λK ht=>by simp at ht⟩,λK ht=>by simp at ht⟩
 |true=>
  have U:=bi rfl;have aA:=qG U.1;obtain⟨eO,eP,eR,eS,eU,b6⟩:=aA;have eI:k.dE.length<=4:=by rw[U.2.1];exact b6
  simp[Tryz.f76,X,bH,HA,show k.eK.dY.length<=1000000 by omega,show k.eK.dX.length<=1000000 by omega,show k.eK.dE.length<=1000000 by omega];have a8:(kQ k.eK).dY.length=k.eK.dY.length/\(kQ k.eK).done.length=k.eK.dX.length/\(kQ k.eK).dE.length=k.eK.dE.length:=by simp[kQ]
  have c4:HK 4 (kQ k.eK):=(uN 4 k.eK);have c6:(kQ k.eK).D0:=rJ k.eK;generalize kQ k.eK=o at*
  refine fh k.eK.cells.length dq (λs r h=>∃G,Sp9 h o G []/\G.length=s/\Lb 2 h 0 (dA 7 0 [k.t])/\Lb 2 h 1 mS/\dB r 1 (.ptr 0 0 0 0)/\dB r 2 (.ptr 1 0 0 0)/\dB r 3 (.ptr 2 0 0 0)/\dB r 4 (dy s)) ?_ ?_ dq ?_
  ·rintro s r h P Y ⟨G,⟨ver,I,J,u⟩,cL,z,N,v,C,D,E⟩;have B:=u.get;simp at B;obtain⟨er,h',S,y⟩:=(u.gr 4 rfl).mJ (cx:=cx) (f:=T.int .i64) u.ok oo rfl yp rfl dt (λ_=>rfl) k.eK.cells[s].jK du;obtain⟨Z,ea,bz⟩:=u.app 4 rfl y;obtain⟨Q,ae⟩:=bz _ rfl;simp only[aR,cm,cX,cM]at Z Q ae;simp[v,C,D,E,P,z.get,B,S,Z,dS,y.1.gJ,y.1.cells,Y];exact⟨G++[k.eK.cells[s].jK],⟨_,_,_,ae⟩,du,z.step Q,N.step Q⟩
  ·rintro r h ⟨G,eb,cL,z,N,v,C,D,E⟩;simp[v,E,z.get];refine fh k.eK.dX.length dq (λs r h=>∃F,Sp9 h o G F/\F.length=s/\Lb 2 h 0 (dA 7 0 [k.t])/\Lb 2 h 1 mS/\dB r 1 (.ptr 0 0 0 0)/\dB r 2 (.ptr 1 0 0 0)/\dB r 3 (.ptr 2 0 0 0)/\dB r 5 (dy s)) ?_ ?_ dq ?_
   ·rintro s r h P Y ⟨F,⟨ver,I,J,u⟩,a7,z,N,v,C,D,E⟩;have B:=u.get;simp at B;obtain⟨er,h',S,y⟩:=(u.gr 5 rfl).mJ (cx:=cx) (f:=T.int .i64) u.ok oo rfl yp rfl dt (λ_=>rfl) 0 du;obtain⟨Z,ea,bz⟩:=u.app 5 rfl y;obtain⟨Q,ae⟩:=bz _ rfl;simp only[aR,cm,cX,cM]at Z Q ae;simp[v,C,D,E,P,z.get,B,S,Z,dS,y.1.gJ,y.1.cells,Y];exact⟨F++[0],⟨_,_,_,ae⟩,du,z.step Q,N.step Q⟩
   ·rintro r h ⟨F,⟨ver,I,J,u⟩,a7,z,N,v,C,D,E⟩;simp[v,E,z.get];have B:=u.get;simp at B;have an:=u.gr 4 rfl;have ap:=u.gr 5 rfl;have b9:∀q,dO I=some q\/dO J=some q->3<=q/\q<h.size:=λq M=>by
     have bl:Fp h 2 q:=by
      rcases M with x|x
      ·exact u.AW (f:=(I,some (1,gG G))) dt x
      ·exact u.AW (f:=(J,some (1,gG F))) dt x
     refine⟨?_,u.fp q bl⟩;have b7:q≠0:=λx=>z.nf (by rw[<-x];exact bl);have et:q≠1:=λx=>N.nf (by rw[<-x];exact bl);have eV:q≠2:=λx=>by
      subst x;rcases M with x|x
      ·obtain⟨_,_,_,_,O,_⟩:=an.box x;rw[B]at O;simp at O
      ·obtain⟨_,_,_,_,O,_⟩:=ap.box x;rw[B]at O;simp at O
     omega
    have eH:=H.ez B;have eE:=an.gJ;have eB:=an.cells;have eF:=ap.gJ;have eC:=ap.cells;refine fh k.dE.length dq (λs r h'=>∃ver R aN al bs bn,Tt9 k o G F I J h.size s h' ver R aN al bs bn/\dB r 1 (.ptr 0 0 0 0)/\dB r 2 (.ptr 1 0 0 0)/\dB r 3 (.ptr 2 0 0 0)/\dB r 6 (dy s)) ?_ ?_ (by have:=U.2.1;have:=b6;omega) ?_
    ·rintro s r h' P Y ⟨ver,R,aN,al,bs,bn,i,v,C,D,E⟩;obtain⟨m,de,eL⟩:∃m:Nat,k.dE[s].iE=m/\m<=32:=⟨k.dE[s].iE.toNat,by have:=U.2.2 _ (aF P);have:=this.1;omega,by have:=U.2.2 _ (aF P);have:=this.2.1;omega⟩;have ca:m*8<=70368744177664:=dq;have cb:m*24<=70368744177664:=dq;have c1:=i.n;have b7:∀q,q<3->(q=h'.size)=False:=λq M=>by simp;omega
     have et:∀q,q<3->(q=h'.size+1)=False:=λq M=>by simp;omega
     have bT:=i.ok;have eN:=bT.low;have We:gF 0 ((h'.cons ⟨1,0,0,true,false,List.replicate m (dy 0)⟩).cons ⟨1,0,0,true,false,List.replicate m dz⟩):=(bT.cons _).cons _;have aX:∀q,((h'.cons ⟨1,0,0,true,false,List.replicate m (dy 0)⟩).cons ⟨1,0,0,true,false,List.replicate m dz⟩).get q=if q=h'.size+1 then some ⟨1,0,0,true,false,List.replicate m dz⟩else if q=h'.size then some ⟨1,0,0,true,false,List.replicate m (dy 0)⟩else h'.get q:=λq=>by rw[dP,dP];rfl
     have b8:((h'.cons ⟨1,0,0,true,false,List.replicate m (dy 0)⟩).cons ⟨1,0,0,true,false,List.replicate m dz⟩).size=h'.size+1+1:=rfl;have bu:Nb h' ((h'.cons ⟨1,0,0,true,false,List.replicate m (dy 0)⟩).cons ⟨1,0,0,true,false,List.replicate m dz⟩):=⟨⟨We.hp,We.low,dq⟩,λq M=>(aX q).trans ((ao dq).trans (ao dq))⟩;have cy:=i.th.g.mono (h':=(h'.cons ⟨1,0,0,true,false,List.replicate m (dy 0)⟩).cons ⟨1,0,0,true,false,List.replicate m dz⟩) λq x=>bu.get q (by obtain⟨_,_,_,_,O,_⟩:=i.th.g.box x;exact H.ez O);obtain⟨W,L,S,y⟩:=cy.Fx (cx:=cx) We OR rfl Kj rfl dt (x:= .agg [dy 0,.arr h'.size 0 0 m false,.arr (h'.size+1) 0 0 m false,dy 0]) rfl (by have:=i.th.l;have:=i.l;have:=U.2.1;simp;omega);simp only[b8]at S;have eu:=y.2.2.2.sz;rw[b8]at eu;have aE:∀q,dO R=some q->h.size<=q:=λq x=>(i.th.c q x).1;have gN:∀q,q<h'.size->dO R≠some q->L.get q=h'.get q:=λq M di=>(y.2.1 q dq di).trans (bu.get q M);have a6:∀q,q<3->L.get q=h'.get q:=λq M=>gN q dq λx=>by have:=aE q x;omega
     have p2:=(a6 2 dq).trans i.b2;simp[v,C,D,E,P,i.b0,i.b2,de,ca,cb,b7,S,p2,y.1.gJ,y.1.cells,dS,Y];have dv:gF 0 L:=⟨y.2.2.2.hp,y.2.2.2.low,aw _⟩;have A:∀q,(dT L 2 (dA 7 (ver+1) [.agg [sl (o.dY.map dV.t),dy o.tx,sl (o.done.map T.bool),sl (o.dE.map dG.t),I,J,W]])).get q=if q=2 then some (dA 7 (ver+1) [.agg [sl (o.dY.map dV.t),dy o.tx,sl (o.done.map T.bool),sl (o.dE.map dG.t),I,J,W]])else L.get q:=λq=>dI p2 _ q;have dn:=dv.put 2 (dA 7 (ver+1) [.agg [sl (o.dY.map dV.t),dy o.tx,sl (o.done.map T.bool),sl (o.dE.map dG.t),I,J,W]]);have eW:(dT L 2 (dA 7 (ver+1) [.agg [sl (o.dY.map dV.t),dy o.tx,sl (o.done.map T.bool),sl (o.dE.map dG.t),I,J,W]])).size=L.size:=fJ ..;generalize dT L 2 _=a7 at*
     have eM:List.replicate m (T.int .i64 0)=gG (List.replicate m 0):=by simp[gG]
     have ef:At h'.size (h'.size+1+1) ((h'.cons ⟨1,0,0,true,false,List.replicate m (dy 0)⟩).cons ⟨1,0,0,true,false,List.replicate m dz⟩) (.arr h'.size 0 0 m false) (.arr (h'.size+1) 0 0 m false) (List.replicate m dz) ⟨0,List.replicate m 0,List.replicate m [],0⟩:=by
      refine⟨.inr ⟨h'.size,0,0,true,_,dt,(aX _).trans ((ao dq).trans (aq rfl)),dt⟩,.inr ⟨h'.size+1,0,0,true,_,dt,(aX _).trans (aq rfl),dt⟩,A4 dt λj a b X bi=> ?_,λq x=> ?_,λq x=> ?_⟩
      ·have c7:=bO (ax X);have c9:=bO (ax bi);subst c7;subst c9;exact⟨.inr (Gr.nil _ _),λq x=>by simp at x⟩
      ·simp at x;subst x;exact⟨au _,dq,dt⟩
      ·simp at x;subst x;exact⟨dq,dq⟩
     have ec:=(i.th.app i.n.2 bu ef y).mono (h':=a7) dq λq v _=>(A q).trans (ao dq);refine⟨ver+1,W,_,_,_,_,⟨dn,⟨i.n.1,dq⟩,(A 0).trans ((ao dq).trans ((a6 0 dq).trans i.b0)),(A 1).trans ((ao dq).trans ((a6 1 dq).trans i.b1)),(A 2).trans (aq rfl),i.gc.mono λq x=> ?_,i.gf.mono λq x=> ?_,i.bx,ec,by simp[i.l],λK ht=> ?_⟩⟩
     ·have:=i.bx q (.inl x);exact(A q).trans ((ao dq).trans (gN q dq λp=>by have:=aE q p;omega))
     ·have:=i.bx q (.inr x);exact(A q).trans ((ao dq).trans (gN q dq λp=>by have:=aE q p;omega))
     ·rcases List.mem_append.1 ht with q|q
      ·exact i.t K q
      ·simp at q;subst q;exact⟨⟨du,du,λl hl=>by have:=bO hl;subst this;exact Tn.nil _⟩,rfl⟩
    ·rintro r h' ⟨ver,R,aN,al,bs,bn,i,v,C,D,E⟩;have bk:=i.b1;unfold mS at bk;have A:∀p q,(dT h' 1 p).get q=if q=1 then some p else h'.get q:=λp q=>dI bk p q;have c1:=i.n;have ce:∀p,TI.fz (dT h' 1 p) I=some (sl (gG G)):=λp=>(i.gc.mono (h':=dT h' 1 p) λq x=>by have:=i.bx q (.inl x);rw[A,ao dq]).fz dt;have cp:∀p,TI.fz (dT h' 1 p) J=some (sl (gG F)):=λp=>(i.gf.mono (h':=dT h' 1 p) λq x=>by have:=i.bx q (.inr x);rw[A,ao dq]).fz dt;have cv:∀p,TI.fz (dT h' 1 p) R=some (sl (al.map ee.t)):=λp=>by
      have bC:=i.th.mono (h':=dT h' 1 p) (by rw[fJ];exact au _) λq v _=>by rw[A,ao dq]
      refine bC.g.IW (V:=λ_=>True) (d:=4) dq (A4 (by simp[bC.l]) λj x w dm aA=> ?_);rw[aQ]at aA;obtain⟨eo,dk,rfl⟩:=Option.map_eq_some_iff.1 aA;obtain⟨ey,eA,eD,rfl,eh⟩:=bC.e j x eo dm dk;exact .inr (.inr ⟨_,_,rfl,eh.fz _ λ_ _ _=>trivial,rfl⟩)
     simp[v,C,D,E,i.b0,i.b2,bk,dS,A,ce,cp,cv,i.ok.hp];have hl:=i.l;refine⟨⟨o,G,F,al⟩,rfl,⟨⟨by rw[a8.1];omega,by rw[a8.2.1];omega,by rw[a8.2.2];omega,dw,dw,dw⟩,c4,c6,λK ht=>(i.t K ht).1⟩,λK ht=>by have:=(i.t K ht).2;omega⟩
    ·refine⟨ver,dz,[],[],λ_=>0,λ_=>0,⟨u.ok,⟨dq,au _⟩,z.get,N.get,B,an,ap,b9,⟨Gr.nil _ _,rfl,λs e K x=>by simp at x,λs x=>by simp at x,λs j x p=>by simp at p,λk x=>by simp at x⟩,rfl,λK ht=>by simp at ht⟩,by simp[v,C,D]⟩
   ·exact⟨[],eb,rfl,z,N,by simp[v,C,D]⟩
  ·generalize av:H.cons _ _=bN;have ds:gF 0 bN:=by rw[<-av];exact⟨dt,dt,dt⟩
   have bB:=mW.start (h:=bN) (w:=2) (szw:=7) (ver:=1) (F:=[(sl (o.dY.map dV.t),none),(dy o.tx,none),(sl (o.done.map T.bool),none),(sl (o.dE.map dG.t),none),(dz,some (1,[])),(dz,some (1,[])),(dz,none)]) ds (by rw[<-av];simp) (λf bS=>by
    simp only[ci,c8,or_false]at bS;rcases bS with rfl|rfl|rfl|rfl|rfl|rfl|rfl
    iterate 4 exact .inl ⟨rfl,dt⟩
    iterate 2 exact .inr ⟨rfl,1,rfl,dx⟩
    exact .inl ⟨rfl,rfl⟩)
   exact⟨[],⟨1,_,_,bB.1⟩,rfl,⟨by rw[<-av];simp,λx=>absurd (bB.2 0 x) dq⟩,⟨by rw[<-av];simp[mS],λx=>absurd (bB.2 1 x) dq⟩,dt⟩
end
noncomputable section
open Go Go.TI
attribute [-simp] List.map_take List.map_drop List.map_append fw eQ dZ Bool.not_or Bool.not_and
attribute [simp] fq eY
attribute [-simp] size_cons
structure IFr where
 (c:jz) (s:iz) (L:List iR)
def SY(a:IFr)(b:List T)(d:H):Prop:=b=[a.c.t,a.s.t,dz,sl (a.L.map iR.t)]/\gF 0 d/\(∀e∈a.c.dE,e.iW.length<=10000001)/\StI a.s/\U8 0 a.s/\a.L.length<=80
def Nm(i:IFr)(h:List T)(c:H)(f:T)(d:H):Prop:=∃(a:List ed) (g:iz) (b:T),f= .tuple [b,g.t]/\Gr d b 7 (a.map ed.t)/\(∀e,dO b=some e->c.size<=e)/\Nb c d/\I4 a/\a.length<=80
structure Fr9(c:jz)(h0:H)(n:Nat)(h:H)(s:iz)(l:List ed)(v:T)(ver:Nat):Prop where
 nb:Nb h0 h
 z:h0.size+3<=h.size
 b0:h.get h0.size=some (dA 7 0 [c.t])
 b1:h.get (h0.size+1)=some (dA 7 ver [s.t])
 b2:h.get (h0.size+1+1)=some mS
 g:Gr h v 7 (l.map ed.t)
 bx:∀q,dO v=some q->h0.size+3<=q
 st:StI s
 ev:U8 n s
 es:I4 l
 l:l.length<=n
def Fr9.ok{c:jz}{d a:H}{g:Nat}{h:iz}{f:List ed}{j:T}{k:Nat}(b:Fr9 c d g a h f j k):gF 0 a:=⟨b.nb.ok.hp,b.nb.ok.low,aw _⟩
def NU:(js IFr SY Nm).Ok Tryz.prog cx 75:=by
 refine jo (tb:=⟨pt [(116,Gd.jf)],ht []⟩) ew ej (iQ 68723687231 [(4,[(6,11),(6,12)])] Tryz.func75) (λ_ _=>1005) (λi S d bB=>by obtain⟨rfl,_⟩:=bB;simp[Tryz.f75]) ?_;rintro⟨r,j,D⟩ _ c ⟨rfl,ae,W,Y,V,bl⟩ o I;simp only at W Y V bl;simp at I;obtain⟨a8,bi,s,u⟩:=I;have P:=ae.hr;simp[Tryz.f75,a8,bi];have ce:=ae.low;generalize p:((H.cons _ _).cons _).cons _=v;have cp:gF 0 v:=by rw[<-p];exact((P.cons _).cons _).cons _
 have c7:v.size=c.size+1+1+1:=by rw[<-p];rfl
 have bH:Nb c v:=by rw[<-p];exact⟨((((Nb.refl P).cons _).cons _).cons _).ok,λr bn=>(((((Nb.refl P).cons _).cons _).cons _).get r bn).trans (f9 c r)⟩
 have b7:v.get c.size=some (dA 7 0 [r.t]):=by rw[<-p];simp
 have b8:v.get (c.size+1)=some (dA 7 0 [j.t]):=by rw[<-p];simp
 have b9:v.get (c.size+1+1)=some mS:=by rw[<-p];simp[mS]
 clear p;refine yC D.length (λm o d=>∃j A B n,Fr9 r c m d j A B n/\dB o 4 (.ptr c.size 0 0 0)/\dB o 5 (.ptr (c.size+1) 0 0 0)/\dB o 9 (.ptr (c.size+1+1) 0 0 0)/\dB o 2 B/\dB o 3 (sl (D.map iR.t))/\dB o 10 (dy m)) ?_ dq (aw _) ?_
 ·rintro m o d cb ⟨j,A,B,n,b,K,x,L,s,u,F⟩;have Z:=b.g.len (cx:=cx) d TW _ rfl;rw[aH]at Z;simp[s,u,F,Z];refine dW (λe=> ?_) (λe=> ?_)
  ·have bz:m<D.length:=by simp at e;exact e.1
   have bC:=b.z;have a6:U8 999000 j:=λQ ht=>by have:=b.ev Q ht;omega
   obtain⟨_,⟨q,E,bS,rfl,bu,X⟩,T⟩:=Gd.use (r,j,D[m]) ⟨W,b.st,a6⟩;simp only at T X;have cv:(c.size=d.size)=False:=by simp<;>omega
   have cL:(c.size+1=d.size)=False:=by simp<;>omega
   have cy:(c.size=d.size+1)=False:=by simp<;>omega
   have c1:(c.size+1=d.size+1)=False:=by simp<;>omega
   simp[u,K,x,F,b.b0,b.b1,bz,T,b.ok.low];generalize G:dT _ (d.size+1) _=h;have O:gF 0 ((d.cons (dA 7 1 [q.t])).cons (dA 7 0 [.agg [dy 0,dy 0,dy 0,dy 0,dy 0,dz,dz]])):=(b.ok.cons _).cons _;have N:gF 0 h:=by rw[<-G];exact O.put _ _
   have ca:h.size=d.size+1+1:=by rw[<-G,fJ];rfl
   have J:∀a,h.get a=if a=d.size+1 then some (dA 7 1 [E.t])else if a=d.size then some (dA 7 1 [q.t])else d.get a:=λa=>by
    rw[<-G,lY O.hp (by show _<d.size+1+1;omega)];split
    ·rfl
    ·rw[dP,ao (by assumption),dP]
   clear G O;have Go:∀a,a<d.size->h.get a=d.get a:=λa e=>(J a).trans ((ao dq).trans (ao dq));have a0:=(Go c.size dq).trans b.b0;have a1:=(Go (c.size+1) dq).trans b.b1;have a2:=(Go (c.size+1+1) dq).trans b.b2;have an:=(J d.size).trans ((ao dq).trans (aq rfl));have al:=(J (d.size+1)).trans (aq rfl);have gA:=b.g.mono (h':=h) λa f=>by obtain⟨_,_,_,_,g,_⟩:=b.g.box f;exact Go a (H.ez g)
   cases bS with
   |false=>
    simp[s,u,K,x,L,F,nJ];rw[<-jn,ju dq dq];exact⟨m+1,dq,dq,j,A,B,⟨n,⟨⟨⟨N.hp,N.low,dq⟩,λa e=>(Go a dq).trans (b.nb.get a e)⟩,dq,a0,a1,a2,gA,b.bx,b.st,λQ ht=>by have:=b.ev Q ht;omega,b.es,by have:=b.l;omega⟩⟩,rfl,dt⟩
   |true=>
    obtain⟨bT,aX⟩:=X rfl;have bN:gF 0 (dT h (c.size+1) (dA 7 (n+1) [q.t])):=N.put _ _;have k:∀a,(dT h (c.size+1) (dA 7 (n+1) [q.t])).get a=if a=c.size+1 then some (dA 7 (n+1) [q.t])else h.get a:=λa=>dI a1 _ a;have c4:(dT h (c.size+1) (dA 7 (n+1) [q.t])).size=d.size+1+1:=by rw[fJ];exact ca
    simp[s,x,an,a1];generalize dT h (c.size+1) _=U at*
    have ap:=(k c.size).trans ((ao dq).trans a0);have av:=(k (c.size+1)).trans (aq rfl);have aA:=(k (c.size+1+1)).trans ((ao dq).trans a2);have aE:=(k (d.size+1)).trans ((ao dq).trans al);have a7:=gA.mono (h':=U) λa f=>(k a).trans (ao (by have:=b.bx a f;omega));obtain⟨b6,bk,aN,w⟩:=a7.mJ (cx:=cx) bN OT rfl OS rfl dt (λ_=>rfl) E (by have:=b.l;simp;omega);simp[u,K,x,L,F,aE,aN,nJ];rw[<-jn,ju dq dq];have c6:=w.2.2.2.sz;have C:∀a,a<c.size+3->bk.get a=U.get a:=λa e=>w.2.1 a dq λf=>by have:=b.bx a f;omega
    exact⟨m+1,dq,dq,q,A++[E],b6,⟨n+1,⟨⟨⟨w.2.2.2.hp,w.2.2.2.low,dq⟩,λa e=>(C a dq).trans ((k a).trans ((ao dq).trans ((Go a dq).trans (b.nb.get a e))))⟩,dq,(C c.size dq).trans ap,(C (c.size+1) dq).trans av,(C (c.size+1+1) dq).trans aA,w.1,λa f=>by
     rcases w.2.2.1 a f with y|y
     ·exact b.bx a y
     ·omega,bT,aX m b.ev,λS I=>by
     rcases List.mem_append.1 I with y|y
     ·exact b.es S y
     ·simp at y;subst y;exact bu,by have:=b.l;simp;omega⟩⟩,rfl,dt⟩
  ·have M:=b.b2;unfold mS at M;have bC:=b.z;have k:∀y a,(dT d (c.size+1+1) y).get a=if a=c.size+1+1 then some y else d.get a:=λy a=>dI M y a;simp[s,x,L,b.b1,M,dS,k];have R:∀a,a≠c.size+1+1->(lL c (dT d (c.size+1+1) (dA 7 1 [j.t]))).get a=d.get a:=λa e=>by rw[fO,k,ao e]
   exact⟨A,j,B,rfl,b.g.mono λa f=>R a (by have:=b.bx a f;omega),λa f=>by have:=b.bx a f;omega,⟨⟨((b.ok.put _ _).out c).hp,((b.ok.put _ _).out c).low,by rw[vU,fJ];exact b.nb.ok.sz⟩,λa e=>(R a dq).trans (b.nb.get a e)⟩,b.es,by have:=b.l;omega⟩
 ·exact⟨j,[],_,_,⟨bH,dq,b7,b8,b9,Gr.nil _ _,λa f=>by simp at f,Y,V,λE bs=>by simp at bs,au _⟩,by simp[s,u]⟩
end
noncomputable section
open Go Go.TI
attribute [-simp] List.map_take List.map_drop List.map_append fw eQ dZ Bool.not_or Bool.not_and
attribute [simp] fq eY
def TL(a:H)(j:Nat):Prop:=∃i d e f c g h,∃b:List dJ,a.get j=some (dA 6 i [.agg [d,e,f,c,g,h]])/\Gr a c 11 (b.map dJ.t)/\b.length<=1000000/\gF 0 a
def Ee:kH:=⟨λd a=>∃b c e h,d=[.ptr b 0 0 0,dy c,dy e,.str h]/\TL a b,λ_ a g f=>f=a/\DM g⟩
def NT:Ee.Ok Tryz.prog cx 226:=by
 refine HT (tb:=⟨pt [],ht []⟩) ew ej (iQ 70368744310543 [] Tryz.func226) false (λ_ _=>1000005) (λN b L=>by obtain⟨g,y,e,G,rfl,_⟩:=L;simp[Tryz.f226]) ?_;rintro _ b ⟨g,y,e,G,rfl,Y,O,P,Q,z,R,S,h,s,n,hl,v⟩ d B;simp at B;obtain⟨f,i,j,k⟩:=B;have u:=H.ez s;simp[Tryz.f226];refine fh h.length dq (λo d c=>Fr b.size (hr b) c/\gF 0 c/\dB d 0 (.ptr g 0 0 0)/\dB d 1 (dy y)/\dB d 2 (dy e)/\dB d 3 (.str G)/\dB d 9 (dy o)) ?_ ?_ dq (by simp[f,i,j,k,Fr.refl,v.hr])
 ·rintro o d c D J ⟨a,w,f,i,j,k,m⟩;have p:=(a.get g u).trans ((f9 b g).trans s);have l:Gr c z 11 (h.map dJ.t):=n.mono λe q=>by obtain⟨_,_,_,_,x,_⟩:=n.box q;rw[a.get e (H.ez x),f9]
  have K:o<(h.map dJ.t).length:=by simpa using D
  obtain⟨I,T,Z,U,ae,W,M,E,F⟩:=l.IK (te:=FJ) rfl K;have V:=Nat.ne_of_lt (bE u a.size);simp at F;have X:(I=c.size)=False:=by simp;have:=H.ez E;omega
  simp[f,i,j,k,m,p,l.len (cx:=cx),M,E,F,D,w.low];have A:=a.trans (Fr.cons (lo:=b.size) (by have:b.size<=c.size:=a.size;omega) (dA 11 1 [h[o].t]))
  repeat' (refine dW (λC=> ?_) (λC=> ?_)<;>simp[C,f,i,j,k,m,J,A,w.cons])
  exact pA b _ _ v.hp A (r:= .bool true) rfl ⟨rfl,dt⟩
 ·rintro d c ⟨a,w,f,i,j,k,m⟩;have p:=(a.get g u).trans ((f9 b g).trans s);have l:Gr c z 11 (h.map dJ.t):=n.mono λe q=>by obtain⟨_,_,_,_,x,_⟩:=n.box q;rw[a.get e (H.ez x),f9]
  simp[f,m,p,l.len (cx:=cx)];exact pA b _ _ v.hp a (r:= .bool false) rfl ⟨rfl,dt⟩
structure Wk(p:fx)(A:List dJ)(n:Nat)(h:H)(w:Nat):Prop where
 ok:gF 0 h
 fp:∀b,Fp h w b->b<h.size
 ex:∃ver t av sv ev,∃S E:List (List Nat),h.get w=some (dA 6 ver [.agg [sl (p.jb.map gW.t),sl (p.dE.map fH.t),dy t,av,sv,ev]])/\
  Gr h av 11 (A.map dJ.t)/\Gr h sv 1 (S.map T.str)/\Gr h ev 1 (E.map T.str)/\S.length<=n/\E.length<=n/\∀b,dO sv=some b->dO ev≠some b
def Wk.ins{k:fx}{a:List dJ}{j:Nat}{b:H}{d:Nat}(c:Wk k a j b d)(i:a.length<=1000000):TL b d:=by
 obtain⟨l,o,e,sv,f,n,m,g,h,_⟩:=c.ex;exact⟨l,_,_,_,e,sv,f,a,g,h,i,c.ok⟩
def sd{c:H}{d:Nat}{a:iN}(f:c.get d=some a){v:T}(g:v∈fa a.em){b:Nat}(e:dO v=some b):Fp c d b:= .inr ⟨a,f,v,g,e⟩
def Wk.same{m:fx}{h:List dJ}{l k:Nat}{c d:H}{g:Nat}(j:Wk m h l c g)(B:l<=k)(w:gF 0 d)(f:∀a,Fp c g a->d.get a=c.get a)(v:c.size<=d.size):Wk m h k d g:=by
 obtain⟨y,x,p,sv,q,o,n,e,r,s,t,z,A,u⟩:=j.ex;have i:=f g (.inl rfl);refine⟨w,λa b=>by rw[iJ i]at b;exact bE (j.fp a b) v,y,x,p,sv,q,o,n,by rw[i];exact e,?_,?_,?_,dq,dq,u⟩
 ·exact r.mono λa b=>f a (sd e (by simp[fa,T.cells]) b)
 ·exact s.mono λa b=>f a (sd e (by simp[fa,T.cells]) b)
 ·exact t.mono λa b=>f a (sd e (by simp[fa,T.cells]) b)
def Wk.lt{f:fx}{c:List dJ}{e:Nat}{b:H}{a:Nat}(d:Wk f c e b a):a<b.size:=d.fp a (.inl rfl)
def Wk.cons{e:fx}{b:List dJ}{d:Nat}{c:H}{w:Nat}(a:Wk e b d c w)(f:iN):Wk e b d (c.cons f) w:=
 a.same (au _) (a.ok.cons f) (λg h=>by rw[dP,ao (by have:=a.fp g h;omega)]) dt 
def Wk.hr{e:fx}{b:List dJ}{d:Nat}{a:H}{f:Nat}(c:Wk e b d a f):Wk e b d (TI.hr a) f:=c.same (au _) c.ok.hr (λg _=>f9 a g) (au _)
def Wk.out{e:fx}{b:List dJ}{d m:Nat}{h a:H}{f:Nat}(c:Wk e b d a f)(i:d<=m):Wk e b m (lL h a) f:=c.same i (c.ok.out h) (λg _=>fO h a g) (au _)
def Wk.spawn{a:fx}{m:List dJ}{k d h:Nat}{c f:H}{g:Int}{e sv b l:T}{j n:List (List Nat)}{w:List Nat}(u:Wk a m k c d)(o:c.get d=some (dA 6 h [.agg [sl (a.jb.map gW.t),sl (a.dE.map fH.t),dy g,e,sv,b]]))
 (gA:Gr c e 11 (m.map dJ.t)) (s:Gr c sv 1 (j.map T.str)) (C:Gr c b 1 (n.map T.str)) (F:j.length<=k) (G:n.length<=k) (B:∀r,dO sv=some r->dO b≠some r) (D:AK c sv 1 (j.map T.str++[.str w]) l f):
 f.get d=some (dA 6 h [.agg [sl (a.jb.map gW.t),sl (a.dE.map fH.t),dy g,e,sv,b]])/\eJ c f d=true/\
  Step d c (dT f d (dA 6 (h+1) [.agg [sl (a.jb.map gW.t),sl (a.dE.map fH.t),dy g,e,l,b]]))/\
  Wk a m (k+1) (dT f d (dA 6 (h+1) [.agg [sl (a.jb.map gW.t),sl (a.dE.map fH.t),dy g,e,l,b]])) d:=by
 obtain⟨p,E⟩:=vX (i:=4) u.ok u.fp o rfl dx s D.xt;obtain⟨q,z,A,v⟩:=E _ rfl;obtain⟨a1,a2⟩:=v e 11 _ dt gA (s.ne gA dx) dx;obtain⟨x,y⟩:=v b 1 _ dt C B dx;exact⟨p.trans o,ff p,q,⟨q.ok.hp,q.ok.low,aw _⟩,z,h+1,g,e,l,b,j++[w],n,by rw[dI (p.trans o),aq rfl],a1,by rw[List.map_append];exact A,x,du,dq,y⟩
def Wk.set{a:fx}{o:List dJ}{m c k:Nat}{b h:H}{j:Int}{d sv g n:T}{p l:List (List Nat)}{x:List Nat}(f:Wk a o m b c)(q:b.get c=some (dA 6 k [.agg [sl (a.jb.map gW.t),sl (a.dE.map fH.t),dy j,d,sv,g]]))
 (gA:Gr b d 11 (o.map dJ.t)) (D:Gr b sv 1 (p.map T.str)) (v:Gr b g 1 (l.map T.str)) (G:p.length<=m) (I:l.length<=m) (C:∀e,dO sv=some e->dO g≠some e) (E:AK b g 1 (l.map T.str++[.str x]) n h):
 h.get c=some (dA 6 k [.agg [sl (a.jb.map gW.t),sl (a.dE.map fH.t),dy j,d,sv,g]])/\eJ b h c=true/\
  Step c b (dT h c (dA 6 (k+1) [.agg [sl (a.jb.map gW.t),sl (a.dE.map fH.t),dy j,d,sv,n]]))/\
  Wk a o (m+1) (dT h c (dA 6 (k+1) [.agg [sl (a.jb.map gW.t),sl (a.dE.map fH.t),dy j,d,sv,n]])) c:=by
 obtain⟨s,F⟩:=vX (i:=5) f.ok f.fp q rfl dx v E.xt;obtain⟨u,A,B,w⟩:=F _ rfl;obtain⟨a1,a2⟩:=w d 11 _ dt gA (v.ne gA dx) dx;obtain⟨y,z⟩:=w sv 1 _ dt D (λe r f=>C e f r) dx;exact⟨s.trans q,ff s,u,⟨u.ok.hp,u.ok.low,aw _⟩,A,k+1,j,d,sv,n,p,l++[x],by rw[dI (s.trans q),aq rfl],a1,y,by rw[List.map_append];exact B,dq,du,λe r f=>z e f r⟩
def Wk.VL{a:fx}{h:List dJ}{k d g:Nat}{c e:H}{f:Int}{j sv b l:T}{n m:List (List Nat)}{x:dJ}(v:Wk a h k c d)(o:c.get d=some (dA 6 g [.agg [sl (a.jb.map gW.t),sl (a.dE.map fH.t),dy f,j,sv,b]]))
 (gA:Gr c j 11 (h.map dJ.t)) (u:Gr c sv 1 (n.map T.str)) (s:Gr c b 1 (m.map T.str)) (B:n.length<=k) (C:m.length<=k) (D:∀r,dO sv=some r->dO b≠some r) (E:AK c j 11 (h.map dJ.t++[x.t]) l e):
 e.get d=some (dA 6 g [.agg [sl (a.jb.map gW.t),sl (a.dE.map fH.t),dy f,j,sv,b]])/\eJ c e d=true/\
  Step d c (dT e d (dA 6 (g+1) [.agg [sl (a.jb.map gW.t),sl (a.dE.map fH.t),dy f,l,sv,b]]))/\
  Wk a (h++[x]) k (dT e d (dA 6 (g+1) [.agg [sl (a.jb.map gW.t),sl (a.dE.map fH.t),dy f,l,sv,b]])) d:=by
 obtain⟨p,F⟩:=vX (i:=3) v.ok v.fp o rfl dx gA E.xt;obtain⟨q,z,A,w⟩:=F _ rfl;obtain⟨a1,a2⟩:=w sv 1 _ dt u (gA.ne u dx) dx;obtain⟨y,G⟩:=w b 1 _ dt s (gA.ne s dx) dx;exact⟨p.trans o,ff p,q,⟨q.ok.hp,q.ok.low,aw _⟩,z,g+1,f,l,sv,b,n,m,by rw[dI (p.trans o),aq rfl],by rw[List.map_append];exact A,a1,y,B,C,D⟩
def Wk.back{b:fx}{p:List dJ}{o i k:Nat}{d:H}{j:Int}{m sv f h:T}{r q:List (List Nat)}{G:dJ}(g:Wk b (p++[G]) o d i)(c:d.get i=some (dA 6 k [.agg [sl (b.jb.map gW.t),sl (b.dE.map fH.t),dy j,m,sv,f]]))
 (E:Gr d sv 1 (r.map T.str)) (D:Gr d f 1 (q.map T.str)) (A:r.length<=o) (B:q.length<=o) (C:∀e,dO sv=some e->dO f≠some e) (gA:Gr d h 11 (p.map dJ.t)) (n:dO h=dO m):
   Step i d (dT d i (dA 6 (k+1) [.agg [sl (b.jb.map gW.t),sl (b.dE.map fH.t),dy j,h,sv,f]]))/\
   Wk b p o (dT d i (dA 6 (k+1) [.agg [sl (b.jb.map gW.t),sl (b.dE.map fH.t),dy j,h,sv,f]])) i:=by
 have w:=Step.put g.ok c (dA 6 (k+1) [.agg [sl (b.jb.map gW.t),sl (b.dE.map fH.t),dy j,h,sv,f]]) (λv l e a=>by
  simp[fa,T.cells]at l;rcases l with rfl|rfl|rfl|rfl|rfl|rfl
  ·simp at a
  ·simp at a
  ·simp at a
  ·exact .inl (sd c (v:=m) (by simp[fa,T.cells]) (by rw[<-n];exact a))
  ·exact .inl (sd c (v:=v) (by simp[fa,T.cells]) a)
  ·exact .inl (sd c (v:=v) (by simp[fa,T.cells]) a))
 have u:∀{v:T} {x:Nat} {y:List T},Gr d v x y->x≠6->Gr (dT d i (dA 6 (k+1) [.agg [sl (b.jb.map gW.t),sl (b.dE.map fH.t),dy j,h,sv,f]])) v x y:=λz F=>z.mono λe n=>by
  obtain⟨_,_,_,_,a,_⟩:=z.box n;rw[dI c,ao (λg=>by subst g;rw[c]at a;simp at a;exact F a.1.symm)]
 refine⟨w,⟨w.ok.hp,w.ok.low,aw _⟩,λe a=> ?_,k+1,j,h,sv,f,r,q,by rw[dI c,aq rfl],u gA dx,u E dx,u D dx,A,B,C⟩;rw[fJ];rcases a with rfl|⟨I,s,v,l,a⟩
 ·exact g.lt
 rw[dI c,aq rfl]at s;simp only[ar]at s;subst s;simp[fa,T.cells]at l;rcases l with rfl|rfl|rfl|rfl|rfl|rfl
 ·simp at a
 ·simp at a
 ·simp at a
 ·exact g.fp e (sd c (v:=m) (by simp[fa,T.cells]) (by rw[<-n];exact a))
 ·exact g.fp e (sd c (v:=v) (by simp[fa,T.cells]) a)
 ·exact g.fp e (sd c (v:=v) (by simp[fa,T.cells]) a)
def Wk.dQ{b:fx}{n:List dJ}{m h k:Nat}{d:H}{G:Int}{f sv e:T}{p o:List (List Nat)}(l:Wk b n m d h)(g:d.get h=some (dA 6 k [.agg [sl (b.jb.map gW.t),sl (b.dE.map fH.t),dy G,f,sv,e]]))
 (gA:Gr d f 11 (n.map dJ.t)) (D:Gr d sv 1 (p.map T.str)) (C:Gr d e 1 (o.map T.str)) (z:p.length<=m) (A:o.length<=m) (B:∀c,dO sv=some c->dO e≠some c) (j:Int):
   Step h d (dT d h (dA 6 (k+1) [.agg [sl (b.jb.map gW.t),sl (b.dE.map fH.t),dy j,f,sv,e]]))/\
   Wk b n m (dT d h (dA 6 (k+1) [.agg [sl (b.jb.map gW.t),sl (b.dE.map fH.t),dy j,f,sv,e]])) h:=by
 have y:∀v∈ [sl (b.jb.map gW.t),sl (b.dE.map fH.t),dy j,f,sv,e],∀c,dO v=some c->Fp d h c:=λv i c a=>by
  simp at i;rcases i with rfl|rfl|rfl|rfl|rfl|rfl
  ·simp at a
  ·simp at a
  ·simp at a
  ·exact sd g (v:=v) (by simp[fa,T.cells]) a
  ·exact sd g (v:=v) (by simp[fa,T.cells]) a
  ·exact sd g (v:=v) (by simp[fa,T.cells]) a
 have s:=Step.put l.ok g (dA 6 (k+1) [.agg [sl (b.jb.map gW.t),sl (b.dE.map fH.t),dy j,f,sv,e]]) (λv i c a=> .inl (y v (by simpa[fa,T.cells]using i) c a));have r:∀{v:T} {u:Nat} {w:List T},Gr d v u w->u≠6->Gr (dT d h (dA 6 (k+1) [.agg [sl (b.jb.map gW.t),sl (b.dE.map fH.t),dy j,f,sv,e]])) v u w:=λx F=>x.mono λc E=>by
  obtain⟨_,_,_,_,a,_⟩:=x.box E;rw[dI g,ao (λl=>by subst l;rw[g]at a;simp at a;exact F a.1.symm)]
 refine⟨s,⟨s.ok.hp,s.ok.low,aw _⟩,λc a=> ?_,k+1,j,f,sv,e,p,o,by rw[dI g,aq rfl],r gA dx,r D dx,r C dx,z,A,B⟩;rw[fJ];rcases a with rfl|⟨I,q,v,i,a⟩
 ·exact l.lt
 rw[dI g,aq rfl]at q;simp only[ar]at q;subst q;exact l.fp c (y v (by simpa[fa,T.cells]using i) c a)
structure VU where
 (p:fx) (A:List dJ) (n w:Nat) (s:dJ)
def Uh(a:VU)(c:List T)(d:H):Prop:=c=[.ptr a.w 0 0 0,a.s.t]/\Wk a.p a.A a.n d a.w/\Qw a.p/\a.n<=10000000/\a.s.w<=1000000/\a.A.length<=1000000/\
 (9<=a.s.op/\a.s.op<=11->∃b,b<a.p.jb.length/\rx (a.p.jb.map gW.name) a.s.name 0=b)
def JP(a:VU)(e:List T)(c:H)(d:T)(b:H):Prop:=DJ d/\Step a.w c b/\Wk a.p a.A (a.n+1) b a.w
noncomputable abbrev Yx:kH:=js VU Uh JP
def YT:Yx.Ok Tryz.prog cx 193:=by
 obtain⟨K,cL⟩:=hlB NT (λ_ _ _ _ o=>o);refine jo (tb:=⟨pt [(228,zd.jf),(229,BF.jf),(227,Ur.jf),(230,Dv.jf),(110,AO),(191,mL),(192,kN)],ht [(226,Ee)]⟩) ew ej (iQ 14474012017383023515249485065460760621927424225494418519668988771800801378299 [(1,[(7,9)]),(8,[(4,5),(4,8)]),(9,[(4,5),(4,8),(4,9),(4,10),(4,12),(11,12),(4,15),(11,15)]),(28,[(2,7)]),(49,[(4,5),(4,8)])] Tryz.func193) (λ_ _=>5) (λi l h c7=>by obtain⟨rfl,_⟩:=c7;simp[Tryz.f193]) ?_;rintro⟨d,A,n,f,a⟩ _ h ⟨rfl,k,y,c6,c9,bk,bs⟩ er bl;simp only at k y c6 c9 bk bs;simp at bl;obtain⟨F,cy⟩:=bl;have s:=(k.hr.cons (dA 11 0 [a.t])).cons (dA 2 1 [d.t]);have H:Step f h (lL h (((hr h).cons (dA 11 0 [a.t])).cons (dA 2 1 [d.t]))):=
  ((Step.cons k.ok.hr k.lt _).trans (Step.cons (k.hr.cons _).ok (k.hr.cons _).lt _)).out
 have dk:Step f (hr h) (((hr h).cons (dA 11 0 [a.t])).cons (dA 2 1 [d.t])):=(Step.cons k.ok.hr k.lt _).trans (Step.cons (k.hr.cons _).ok (k.hr.cons _).lt _);have I:=s.out (h:=h) (m:=n+1) dq;have M:∀o:Int,9<=o/\o<=11->decide (a.op=o)=true->∃m:Nat,m<d.jb.length/\rx (d.jb.map gW.name) a.name 0=m:=λo eb N=>bs (by simp at N;omega);have Y:=λ{tb:fy} (ht:tb.h 226=some Ee) l b z=>cL ht [.ptr f 0 0 0,dy l,dy b,.str z] _ ⟨f,l,b,z,rfl,s.ins bk⟩;have ec:=k.lt;have bu:(f=h.size)=False:=du;have bz:(f=h.size+1)=False:=du;have cp:(((hr h).cons (dA 11 0 [a.t])).cons (dA 2 1 [d.t])).get f=h.get f:=by simp[bu,bz]
 obtain⟨eo,z,bN,sv,ca,S,E,w,gA,bi,a8,aN,aX,a6⟩:=s.ex;have aE:=cp.symm.trans w;have ce:=bi.rF dt;have cb:=a8.rF dt;have b8:=λ{tb:fy} (h:tb.p 110=some AO) x=>Mr h S x dq;have b7:=λ{tb:fy} (h:tb.p 110=some AO) x=>Mr h E x dq;obtain⟨Nw,R⟩:=zd.fnI (λc:List Nat×Int×Int=>(d,z,c)) (λ_=>y);have R:=λ{tb:fy} (ht:tb.p 228=some zd.jf) x l b=>R ht (x,l,b);obtain⟨dn,av⟩:=Dv.fnI (λb:Bool=>b) (λ_=>trivial);have Q:∀{tb:fy},tb.p 227=some Ur.jf->∀l b,rl Tryz.prog cx tb 227 [dy l,dy b]=some (dy (if l=0 then b else l)):=λht l b=>by
  obtain⟨_,rfl,N⟩:=Ur.use (l,b) trivial;exact N ht
 have dd:=a.kU;obtain⟨_,⟨ef,rfl⟩,P⟩:=BF.use (d,z,a.e) ⟨y,dw⟩;have eT:=λ{tb:fy} (h:tb.p 192=some kN) x=>wh h d.dE x (by have:=y.2.1;omega);have b6:=λ{tb:fy} (h:tb.p 191=some mL) x=>A2 h d.jb x (by have:=y.1;omega);simp[Tryz.f193,F,cy,aE,bu,bz,Y];have u:(((hr h).cons (dA 11 0 [a.t])).cons (dA 2 1 [d.t])).get h.size=some (dA 11 0 [a.t]):=dt;have L:(((hr h).cons (dA 11 0 [a.t])).cons (dA 2 1 [d.t])).get (h.size+1)=some (dA 2 1 [d.t]):=dt;have G:(((hr h).cons (dA 11 0 [a.t])).cons (dA 2 1 [d.t])).size=h.size+2:=dt;generalize(((hr h).cons (dA 11 0 [a.t])).cons (dA 2 1 [d.t]))=j at*
 generalize K [T.ptr f 0 0 0,T.int IntKind.i64 7,T.int IntKind.i64 7,T.str []] j=ds;generalize K [T.ptr f 0 0 0,T.int IntKind.i64 8,T.int IntKind.i64 8,T.str []] j=dv;generalize K [T.ptr f 0 0 0,T.int IntKind.i64 3,T.int IntKind.i64 3,T.str []] j=ea;have U:=(show(j.cons (dA 1 0 [.str a.name])).get f=j.get f from by rw[dP,ao dq]).trans w;have J:=s.cons (dA 1 0 [.str a.name]);have bC:=dk.trans (Step.cons s.ok s.lt (dA 1 0 [.str a.name]));have X:∀{v:T} {bH:Nat} {aA:List T},v=bN\/v=sv\/v=ca->Gr j v bH aA->Gr (j.cons (dA 1 0 [.str a.name])) v bH aA:=λde g=>g.mono λb bn=>by
  have:b<j.size:=s.fp b (sd w (v:=_) (by rcases de with rfl|rfl|rfl<;>simp[fa,T.cells]) bn);rw[dP,ao dq]
 have W:=X dt bi;have V:=X dt a8;have a7:=X dt gA
 repeat' (refine dW (λq=> ?_) (λq=> ?_)<;>simp[q,F,w,u,L,Y,R,av,Q,P,eT,b6,JP,H,I])
 ·cases Z:a.index with
  |nil=>rename_i q;simp[Z]at q
  |cons x r=>
   obtain⟨_,⟨eh,rfl⟩,b9⟩:=BF.use (d,z,x) ⟨y,by simp only;rw[Z,dN.jQ]at dd;omega⟩;simp[u,L,Q,P,H,I,Z,b9]
 iterate 3
  ·obtain⟨m,c1,c4⟩:∃m,m<d.jb.length/\rx (d.jb.map gW.name) a.name 0=m:=by first|exact M 9 dq (by assumption)|exact M 10 dq (by assumption)|exact M 11 dq (by assumption)
   simp[u,Y,av,H,I,c1,c4]
 ·simp[ce,b8];refine dW (λq=> ?_) (λq=> ?_)
  ·simp[H,I]
  obtain⟨dm,cv,O,B⟩:=W.app (cx:=cx) J.ok (x:= .arr (h.size+2) 0 0 1 false) (xs:=[.str a.name]) pS rfl vi pS rfl rfl dt (by rw[f7];simp[G]) (by simp[T.cells]) dt du;obtain⟨ae,di,D,al⟩:=J.spawn U a7 W V aN aX a6 B;have C:=B.gr;have an:=(bC.trans D).out;have ap:=al.out (h:=h) (au _);simp[F,w,u,G,O,ae,C.gJ,C.cells,dS,an,ap]
 ·obtain⟨dm,cv,O,B⟩:=V.app (cx:=cx) J.ok (x:= .arr (h.size+2) 0 0 1 false) (xs:=[.str a.name]) pS rfl vi pS rfl rfl dt (by rw[f7];simp[G]) (by simp[T.cells]) dt du;obtain⟨ae,di,D,al⟩:=J.set U a7 W V aN aX a6 B;have C:=B.gr;have an:=(bC.trans D).out;have ap:=al.out (h:=h) (au _);have bB:∀b,h.size<=b->¬Fp (j.cons (dA 1 0 [.str a.name])) f b:=λb bn o=>by rw[iJ (U.trans aE.symm)]at o;have:=k.fp b o;omega
  have bS:=(D.get h.size du (bB _ (au _))).trans ((show(j.cons (dA 1 0 [.str a.name])).get h.size=j.get h.size by rw[dP,ao dq]).trans u);have bT:=(D.get (h.size+1) du (bB _ dq)).trans ((show(j.cons (dA 1 0 [.str a.name])).get (h.size+1)=j.get (h.size+1)by rw[dP,ao dq]).trans L);simp[cb,b7];refine dW (λq=> ?_) (λq=> ?_)<;>simp[F,w,u,G,O,ae,C.gJ,C.cells,dS,an,ap,bS,bT,P,Q]
structure Jw where
 (p:fx) (A:List dJ) (n w:Nat) (l:List dJ)
def Eh(a:Jw)(c:List T)(d:H):Prop:=c=[.ptr a.w 0 0 0,sl (a.l.map dJ.t)]/\Wk a.p a.A a.n d a.w/\Qw a.p/\a.n+dJ.ws a.l<=10000000/\dJ.ws a.l<=1000000/\a.A.length<=6/\(∀e∈a.l,MS e)/\
 ∃b,b<a.p.jb.length/\rx (a.p.jb.map gW.name) [99] 0=b
def xS(a:Jw)(e:List T)(c:H)(d:T)(b:H):Prop:=GJ d/\Step a.w c b/\Wk a.p a.A (a.n+dJ.ws a.l) b a.w
def PE(A:Nat)(bB:(js Jw (λf a m=>Eh f a m/\dJ.ws f.l<A) xS).Ok Tryz.prog cx 145):(js Jw (λf a m=>Eh f a m/\dJ.ws f.l<A+1) xS).Ok Tryz.prog cx 145:=by
 refine jo (tb:=⟨pt [],ht [(193,Yx),(145,js Jw (λf a m=>Eh f a m/\dJ.ws f.l<A) xS)]⟩) ew ej (iQ 151115745466229840684019 [(10,[(8,12),(9,12)])] Tryz.func145) (λ_ _=>1000005) (λf a m di=>by obtain⟨⟨rfl,_⟩,_⟩:=di;simp[Tryz.f145]) ?_;rintro⟨I,c,n,j,l⟩ _ m ⟨⟨rfl,aX,O,de,dn,c7,bl,N⟩,dd⟩ B bn;simp only at aX O de dn c7 bl N dd;simp at bn;obtain⟨i,w⟩:=bn;have hl:=dJ.ul (l:=l);simp[Tryz.f145];refine fh l.length dq (λA B F=>Step j (hr m) F/\Wk I c (n+dJ.ws (l.take A)) F j/\dB B 0 (.ptr j 0 0 0)/\dB B 1 (sl (l.map dJ.t))/\dB B 6 (dy A)) ?_ ?_ dq (by simp[i,w,dJ.iD,aX.hr,Step.refl aX.ok.hr])
 ·rintro f B F ap bs ⟨aA,s,i,w,G⟩;have bz:=dJ.D6 l ap;have eD:=dJ.wU l (f+1);have av:=bl l[f] (aF ap);simp[i,w,G,ap,s.ok.low];generalize l[f]=d at*
  have eC:=d.kU;refine gY YT dt ⟨I,c,n+dJ.ws (l.take f),j,d⟩ ⟨rfl,s.cons _,O,dw,dw,dw,λq=>by simp only;rw[av.cond q];exact N⟩ ?_;rintro _ p ⟨⟨e,rfl⟩,aE,k⟩;simp only at aE k;have H:=(Lb.new s.lt s.fp (dA 11 1 [d.t])).step aE;have bS:=(aA.trans (Step.cons s.ok s.lt _)).trans aE;obtain⟨eL,t,b9,sv,cb,S,E,K,gA,c4,c1,cv,cy,cL⟩:=k.ex;have bk:∀r,GJ r->xS ⟨I,c,n,j,l⟩ [.ptr j 0 0 0,sl (l.map dJ.t)] m r (lL m p):=λr hr=>⟨hr,bS.out,k.out dw⟩;have ae:=il (a:=(c.length:Int)) (b:=1) dq dq;simp[i,K,gA.len (cx:=cx),ae];refine dW (λo=> ?_) (λo=> ?_)
  ·simp[H.get];exact bk _ dt
  have eA:c.length<=5:=by simp at o;omega
  simp;refine dW (λo=> ?_) (λo=> ?_)
  ·simp[H.get];exact bk _ dt
  have eE:(j=p.size)=False:=by simp;have:=k.lt;omega
  have ey:(F.size=p.size)=False:=by simp;have:=H.lt;omega
  have b6:=k.cons (dA 11 0 [.agg [dy 0,dy 0,.str [],.str [],dz,dy 0,dy 0,.str [],dz,dz,dz]]);have dv:=bS.trans (Step.cons k.ok k.lt (dA 11 0 [.agg [dy 0,dy 0,.str [],.str [],dz,dy 0,dy 0,.str [],dz,dz,dz]]));have cp:=(show(p.cons (dA 11 0 [.agg [dy 0,dy 0,.str [],.str [],dz,dy 0,dy 0,.str [],dz,dz,dz]])).get j=p.get j by rw[dP,ao (by have:=k.lt;omega)]).trans K;have L:∀{v:T} {bT:Nat} {bi:List T},v=b9\/v=sv\/v=cb->Gr p v bT bi->Gr (p.cons (dA 11 0 [.agg [dy 0,dy 0,.str [],.str [],dz,dy 0,dy 0,.str [],dz,dz,dz]])) v bT bi:=λdm g=>g.mono λb ae=>by
   have:b<p.size:=k.fp b (sd K (v:=_) (by rcases dm with rfl|rfl|rfl<;>simp[fa,T.cells]) ae);rw[dP,ao dq]
  obtain⟨Q,eu,a8,a7⟩:=(L dt gA).app (cx:=cx) b6.ok (x:= .arr p.size 0 0 1 false) (xs:=[.agg [dy 0,dy 0,.str [],.str [],dz,dy 0,dy 0,.str [],dz,dz,dz]]) yq rfl yo yq rfl rfl dt (by rw[f7];simp) (by simp[T.cells]) dt du;obtain⟨b,er,eM,et,rfl,M,eB⟩:=id a7;have a2:=a7.set M c.length d.t;have dk:(List.map dJ.t c++[T.agg [dy 0,dy 0,.str [],.str [],dz,dy 0,dy 0,.str [],dz,dz,dz]]).set c.length d.t=List.map dJ.t c++[d.t]:=dt;rw[dk]at a2;simp only[bh,aH,aZ,cT]at a2 a8;obtain⟨P,eI,bH,ds⟩:=b6.VL cp (L dt gA) (L dt c4) (L dt c1) cv cy cL a2;have bu:b≠j:=λq=>by subst q;rw[dI M,aq rfl]at P;simp at P
  have bC:=(H.step (Step.cons k.ok k.lt _)).step bH;simp[i,K,H.get,gA.len (cx:=cx),a8,M,dS,P,z7 P _ bu,z7 M _ (bg bu),bC.get];refine gY bB dt ⟨I,c++[d],n+dJ.ws (l.take f)+1,j,d.body⟩ ⟨⟨rfl,ds,O,dw,dw,du,av.bd,N⟩,dw⟩ ?_;rintro _ c6 ⟨⟨eh,eF,rfl⟩,aN,a6⟩;simp only at aN a6;have ea:=dv.trans bH;have l4:=bC.step aN;have FO:=ea.trans aN;simp;refine dW (λo=> ?_) (λo=> ?_)
  ·simp[i,l4.get];refine gY bB dt ⟨I,c++[d],n+dJ.ws (l.take f)+1+dJ.ws d.body,j,d.LV⟩ ⟨⟨rfl,a6,O,dw,dw,du,av.el,N⟩,dw⟩ ?_;rintro _ Z ⟨⟨eo,eH,rfl⟩,bN,C⟩;simp only at bN C;replace FO:=FO.trans bN;simp[i];obtain⟨ef,ec,ca,eb,ce,b8,b7,u,D,Y,X,U,V,W⟩:=C.ex;obtain⟨Q,R,h,al⟩:=D.cut (cx:=cx) (ty:=FK) (te:=FJ) rfl yo rfl (n:=c.length) dt dt;have h:Gr Z Q 11 (c.map dJ.t):=by rw[List.map_append,cV dt]at h;rwa[bF dt]at h
   obtain⟨J,z⟩:=C.back u Y X U V W h al;have c9:(c++[d]).length=c.length+1:=dt;have y:=kP (a:=((c++[d]).length:Int)) (b:=1) dq dq;have an:((c++[d]).length:Int)-1=(c.length:Int):=dt;rw[an]at y;simp[i,u,D.len (cx:=cx)];simp at y;simp[y,R,h.gJ,h.cells,dS,u];refine dW (λo=> ?_) (λo=> ?_)
   ·simp;exact⟨dt,(FO.trans J).out,z.out dw⟩
   ·simp[i,w,G,bs];exact⟨FO.trans J,by rw[bz];exact z.same dq z.ok (λ_ _=>rfl) (au _)⟩
  ·have C:=a6;generalize c6=Z at*
   simp[i];obtain⟨ef,ec,ca,eb,ce,b8,b7,u,D,Y,X,U,V,W⟩:=C.ex;obtain⟨Q,R,h,al⟩:=D.cut (cx:=cx) (ty:=FK) (te:=FJ) rfl yo rfl (n:=c.length) dt dt;have h:Gr Z Q 11 (c.map dJ.t):=by rw[List.map_append,cV dt]at h;rwa[bF dt]at h
   obtain⟨J,z⟩:=C.back u Y X U V W h al;have c9:(c++[d]).length=c.length+1:=dt;have y:=kP (a:=((c++[d]).length:Int)) (b:=1) dq dq;have an:((c++[d]).length:Int)-1=(c.length:Int):=dt;rw[an]at y;simp[i,u,D.len (cx:=cx)];simp at y;simp[y,R,h.gJ,h.cells,dS,u];refine dW (λo=> ?_) (λo=> ?_)
   ·simp;exact⟨dt,(FO.trans J).out,z.out dw⟩
   ·simp[i,w,G,bs];exact⟨FO.trans J,by rw[bz];exact z.same dq z.ok (λ_ _=>rfl) (au _)⟩
 ·rintro B F ⟨aA,s,i,w,G⟩;rw[aL]at s;simp[w,G];exact⟨dt,aA.out,s.out (au _)⟩
def Dx:m6 Tryz.prog cx 142 (λa:List gW=>[sl (a.map gW.t)]) (λa=>a.length<=1000000) (λ_=>GJ):=by
 refine jd (tb:=⟨pt [(191,mL)],ht []⟩) ew ej (iQ 1242795222330225588904675325 [] Tryz.func142) (λG=>1000005) (λA B c=>jw (λ_ _=>gW.inj) (by simpa using c)) dt (by simp[Tryz.f142]) ?_;rintro a hl b r;simp at r;simp[Tryz.f142];refine fh a.length dq (λx b c=>gF 0 c/\dB b 0 (sl (a.map gW.t))/\(∃d,dB b 4 (dy d))/\(∃d,dB b 5 (dy d))/\(∃d,dB b 6 (dy d))/\(∃d,dB b 7 (dy d))/\dB b 8 (dy x)) ?_ ?_ dq (by simp[r];exact⟨dt,dt,dt⟩)
 ·rintro i b c j s ⟨e,f,⟨C,m⟩,⟨D,n⟩,⟨E,o⟩,⟨F,q⟩,g⟩;have l:=λ{tb:fy} (c:tb.p 191=some mL) z=>A2 c (a.take i) z (by rw[List.length_take];omega);simp[f,g,j,e.low,l,bp j];rcases Fv ((a.take i).map gW.name) a[i].on 0 with k|⟨y,v,k⟩
  ·generalize a[i]=u at*
   repeat' (refine dW (λh=> ?_) (λh=> ?_)<;>simp[h,f,m,n,o,q,g,e.hp,e.cons,l,bp j,nJ,s,k])
  ·simp at v k;have w:y<a.length:=dq;generalize a[i]=u at*
   repeat' (refine dW (λh=> ?_) (λh=> ?_)<;>simp[h,f,m,n,o,q,g,e.hp,e.cons,l,bp j,nJ,s,k,w])
 ·rintro b c ⟨e,f,_,_,_,_,g⟩;simp[f,g,e.hp]
def Iu(a:fx):Prop:=Qw a/\(a.dE.map λb=>dJ.ws b.body).sum<=1000000/\(∀b∈a.dE,∀d∈b.body,MS d)/\∃c,c<a.jb.length/\rx (a.jb.map gW.name) [99] 0=c
def ph(a:List fH):Nat:=(a.map λb=>dJ.ws b.body).sum
def jL:m6 Tryz.prog cx 93 (λa:fx=>[a.t]) Iu (λ_=>GJ):=by
 have av:=yG (λi:Jw=>dJ.ws i.l) PE 1000001;refine jd (tb:=⟨pt [(141,Ge.jf),(142,Dx.jf),(143,Af.jf),(144,JW.jf)],ht [(145,js Jw (λi B b=>Eh i B b/\dJ.ws i.l<1000001) xS)]⟩) ew ej (iQ 19342850151455133005856767 [] Tryz.func93) (λa=>1000005) (λB j b=>by simp at b;exact fx.inj b) dt (by simp[Tryz.f93]) ?_;rintro a ⟨m,an,Y,Z⟩ d D;simp at D;obtain⟨_,⟨aX,rfl⟩,L⟩:=Ge.use a m;obtain⟨_,⟨bi,bl,rfl⟩,M⟩:=Dx.use a.jb m.1;obtain⟨_,⟨bk,bn,rfl⟩,N⟩:=Af.use a m;have hl:=m.2.1;simp[Tryz.f93,D,L];refine dW (λf=> ?_) (λf=> ?_)
 ·simp
 simp[M];refine dW (λf=> ?_) (λf=> ?_)
 ·simp
 simp;refine dW (λf=> ?_) (λf=> ?_)
 ·simp
 simp[N];refine dW (λf=> ?_) (λf=> ?_)
 ·simp
 simp;refine fh a.dE.length dq (λo d b=>b=hE.cons (dA 2 0 [a.t])/\dB d 1 (.ptr 0 0 0 0)/\(∃q,dB d 8 (dy q))/\dB d 9 (dy o)) ?_ ?_ dq dt
 ·rintro i d b k x ⟨rfl,g,⟨q,u⟩,w⟩;obtain⟨_,⟨c,rfl⟩,O⟩:=JW.use a.dE[i].body (by have:=(m.2.2 _ (aF k)).2;omega);simp[g,u,w,k,O,nJ,x]
 rintro d b ⟨rfl,g,⟨q,u⟩,w⟩;simp[g,u,w];refine dW (λf=> ?_) (λf=> ?_)
 ·simp
 simp[g];have al:∀{i:Nat} (H:i<a.dE.length),ph (a.dE.take (i+1))=ph (a.dE.take i)+dJ.ws a.dE[i].body:=λ{i} H=>by
  unfold ph;rw[aU H,List.map_append,List.sum_append];simp
 have ae:∀i,ph (a.dE.take i)<=1000000:=λi=>by
  have:ph a.dE<=1000000:=an;have X:ph a.dE=ph (a.dE.take i)+ph (a.dE.drop i):=by unfold ph;rw[<-List.sum_append,<-List.map_append,cN]
  omega
 refine fh a.dE.length dq (λo d b=>Wk a [] (ph (a.dE.take o)) b 1/\Lb 1 b 0 (dA 2 0 [a.t])/\dB d 1 (.ptr 0 0 0 0)/\dB d 10 (.ptr 1 0 0 0)/\dB d 11 (dy o)) ?_ ?_ dq ?_
 ·rintro i d b k x ⟨r,p,g,s,n⟩;have W:=al k;have a7:=ae (i+1);obtain⟨a8,t,aN,sv,a6,S,E,C,gA,V,U,P,Q,R⟩:=r.ex;obtain⟨aA,aE⟩:=r.dQ C gA V U P Q R i;have J:=p.step aA;simp[p.get,g,s,n,k,C,dS,J.get];refine gY av dt ⟨a,[],ph (a.dE.take i),1,a.dE[i].body⟩ ⟨⟨rfl,aE,m,dw,dw,dt,Y _ (aF k),Z⟩,dw⟩ ?_;rintro _ X ⟨⟨e,q,rfl⟩,K,A⟩;simp only at K A;have ap:=J.step K;simp;refine dW (λf=> ?_) (λf=> ?_)
  ·simp[A.ok.hp]
  ·simp[g,s,n,x];exact⟨by rw[W];exact A,ap⟩
 ·rintro d b ⟨r,p,g,s,n⟩;simp[p.get,g,n,r.ok.hp]
 ·have G:((hE.cons (dA 2 0 [a.t])).cons (dA 6 0 [.agg [sl (a.jb.map gW.t),sl (a.dE.map fH.t),dy 0,dz,dz,dz]])).get 1=some (dA 6 0 [.agg [sl (a.jb.map gW.t),sl (a.dE.map fH.t),dy 0,dz,dz,dz]]):=dt;have F:∀j,Fp ((hE.cons (dA 2 0 [a.t])).cons (dA 6 0 [.agg [sl (a.jb.map gW.t),sl (a.dE.map fH.t),dy 0,dz,dz,dz]])) 1 j->j=1:=λj h=>by
   rcases h with rfl|⟨z,y,v,I,h⟩
   ·rfl
   ·rw[G]at y;simp only[ar]at y;subst y;simp[fa,T.cells]at I;rcases I with rfl|rfl|rfl|rfl|rfl|rfl<;>simp at h
  simp[g];exact⟨⟨⟨dt,dt,dt⟩,λj h=>by rw[F j h];simp,0,0,_,_,_,[],[],G,Gr.nil _ _,Gr.nil _ _,Gr.nil _ _,dt,dt,dt⟩,dt,λh=>absurd (F 0 h) dx⟩
structure ISi where
 (O:List ir) (v:T) (t n:Int) (l:List dJ)
def YI(a:ISi)(c:List T)(b:H):Prop:=c=[a.v,dy a.t,dy a.n,sl (a.l.map dJ.t)]/\Gr b a.v 3 (a.O.map ir.t)/\gF 0 b/\a.O.length+dJ.ws a.l<=10000000
def Uk(a:ISi)(h:List T)(d:H)(g:T)(e:H):Prop:=∃c f,∃b:List ir,g= .tuple [c,dy f]/\b.length<=a.O.length+dJ.ws a.l/\Xt d a.v 3 (b.map ir.t) c e
abbrev Yw(d:Nat):kH:=js ISi (λa b c=>YI a b c/\dJ.ws a.l<d) Uk
def H9(y:Nat)(C:(Yw y).Ok Tryz.prog cx 147):(Yw (y+1)).Ok Tryz.prog cx 147:=by
 refine jo (tb:=⟨pt [],ht [(147,Yw y)]⟩) ew ej (iQ 18191 [] Tryz.func147) (λ_ _=>10000005) (λa U k K=>by obtain⟨⟨rfl,_⟩,_⟩:=K;simp[Tryz.f147]) ?_;rintro⟨u,s,n,L,l⟩ _ k ⟨⟨rfl,z,N,J⟩,I⟩ c A;simp only at z J I;simp at A;obtain⟨m,d,h,b⟩:=A;have hl:=dJ.ul (l:=l);have S:Xt (hr k) s 3 (u.map ir.t) s (hr k):=Xt.refl (z.mono λF _=>f9 k F) N.hr;simp[Tryz.f147];refine fh l.length dq (λa c v=>∃o i,∃e:List ir,dB c 0 o/\dB c 1 (dy n)/\dB c 2 (dy i)/\dB c 3 (sl (l.map dJ.t))/\dB c 10 (dy a)/\e.length<=u.length+dJ.ws (l.take a)/\Xt (hr k) s 3 (e.map ir.t) o v) ?_ ?_ dq ⟨s,L,u,by simp[m,d,h,b,S]⟩
 ·rintro a c v x H ⟨o,i,e,m,d,h,b,g,w,j⟩;have ae:=dJ.D6 l x;have Z:=dJ.wU l (a+1);obtain⟨Q,V,G,p⟩:=j.1.mJ (cx:=cx) (f:=ir.t) ⟨j.2.2.2.hp,j.2.2.2.low,aw _⟩ Vk rfl Rt rfl dt dt (⟨n,i,l[a].uj⟩:ir) du;simp[m,d,h,b,g,x];have B:l[a]? =some l[a]:=az x;generalize l[a]=r at*
  have Y:=r.kU;simp[d,h,b,g,G,nJ,B,p.1.rF,AN];refine gY C dt ⟨e++[⟨n,i,r.uj⟩],Q,n,_,r.body⟩ ⟨⟨rfl,p.1,⟨p.2.2.2.hp,p.2.2.2.low,aw _⟩,du⟩,dw⟩ ?_;rintro _ W ⟨R,M,D,rfl,O,q⟩;simp only[bh,List.length_singleton]at O;simp[d,b,g,B,q.1.rF,AN];refine gY C dt ⟨D,R,n,M,r.LV⟩ ⟨⟨rfl,q.1,⟨q.2.2.2.hp,q.2.2.2.low,aw _⟩,dw⟩,dw⟩ ?_;rintro _ X ⟨an,al,E,rfl,P,T⟩;simp only at P;simp[d,b,g,H];exact⟨E,dq,((j.trans p).trans q).trans T⟩
 ·rintro c v ⟨o,i,e,m,d,h,b,g,w,j⟩;rw[aL]at w;simp[m,h,b,g];exact⟨o,i,e,rfl,w,j.out⟩
def Lm:(Yw 10000001).Ok Tryz.prog cx 147:=yG (λa:ISi=>dJ.ws a.l) H9 10000001
def e04(c:fx):Int:=Classical.epsilon λa=>∃b,jL.jf.R c= .tuple [dy a,dy b]
def l04(a:fx):Int:=Classical.epsilon λb=>jL.jf.R a= .tuple [dy (e04 a),dy b]
def c04{c:fy}(ht:c.p 93=some jL.jf)(p:fx)(b:Iu p):rl Tryz.prog cx c 93 [p.t]=some (.tuple [dy (e04 p),dy (l04 p)]):=by
 have e:∃a,jL.jf.R p= .tuple [dy (e04 p),dy a]:=Classical.epsilon_spec (p:=λd=>∃a,jL.jf.R p= .tuple [dy d,dy a]) (jL.2 p b);exact(gU ht jL.1 p b).trans (bM some (Classical.epsilon_spec e))
def N3(b:fx):Prop:=Iu b/\b.jb.length<=100/\(∀a∈b.jb,a.size<=4)/\∃a∈b.jb,a.kind=1/\a.name=[113]
def WY(m:H)(a n f:Nat)(e:List ge):Prop:=∃o g h i j k l,∃(Lk:List io) (b:List iF) (c Th:List (List Nat)) (d:List ir),mW m 2 6 o [(g,some (5,e.map ge.t)),(h,some (2,Lk.map io.t)),(i,some (2,b.map iF.t)),(j,some (1,c.map T.str)),(k,some (1,Th.map T.str)),(l,some (3,d.map ir.t))]/\
 Lk.length<=a/\b.length<=a/\c.length<=a/\Th.length<=n/\d.length<=f
def WY.le{e:H}{b c f d:Nat}{a:List ge}(r:WY e b f d a)(x:b<=c):WY e c f d a:=by
 obtain⟨t,j,k,l,m,n,o,Lk,g,h,Th,i,s,u,v,w,p,q⟩:=r;exact⟨t,j,k,l,m,n,o,Lk,g,h,Th,i,s,dq,dq,dq,p,q⟩
def IB(b:List Nat)(a:List ge):Prop:=b∈a.map ge.name
def FI:iN:=(dA 6 0 [.agg [dz,dz,dz,dz,dz,dz]])
def BB:m6 Tryz.prog cx 94 (λd:fx=>[d.t]) N3 (λd r=>∃W:dU,r=W.t/\(e04 d=0->okW W)):=by
 refine jd (tb:=⟨pt [(93,jL.jf),(146,qg)],ht [(147,Yw 10000001)]⟩) ew ej (iQ 316913254556860716756833993695 [(21,[(1,8),(3,8)])] Tryz.func94) (λd=>1000005) (λa b h=>by simp at h;exact fx.inj h) dt (by simp[Tryz.f94]) ?_;rintro d ⟨bs,eD,bl,ds⟩ j b7;simp at b7;have cL:=λ{tb:fy} (ht:tb.p 93=some jL.jf)=>c04 ht d bs;have hl:=bs.1.1;simp[Tryz.f94,b7,cL];refine dW (λbC=> ?_) (λbC=> ?_)
 ·simp at bC;simp[bC];exact⟨⟨[],[],[],[],[],[]⟩,rfl⟩
 simp;refine fh d.jb.length dq (λi j h=>∃z,WY h i 0 0 z/\Lb 2 h 0 (dA 2 0 [d.t])/\Lb 2 h 1 FI/\z.length<=4*i/\(∀c∈d.jb.take i,c.kind=1->IB c.name z)/\dB j 1 (.ptr 0 0 0 0)/\dB j 2 (.ptr 1 0 0 0)/\dB j 3 (.ptr 2 0 0 0)/\dB j 6 (dy i)) ?_ ?_ dq ?_
 ·rintro i j h an ae ⟨z,⟨ver,D,K,E,G,H,A,Lk,O,P,Th,J,e,av,aA,aE,S,U⟩,o,v,c7,ap,u,x,y,M⟩;have R:=e.get;simp at R;have eF:(0=h.size)=False:=by have:=e.lt;simp;omega
  have eH:(2=h.size)=False:=by have:=e.lt;simp;omega
  have bi:∀c∈d.jb.take (i+1),c∈d.jb.take i\/c=d.jb[i]:=λc bl=>by
   rw[aU an]at bl;exact(List.mem_append.1 bl).imp id λq=>List.mem_singleton.1 q
  have eL:=bl d.jb[i] (aF an);simp[u,M,an,o.get,e.ok.low];generalize d.jb[i]=c at*
  have B:=e.cons (dA 6 1 [c.t]);have cv:=Step.cons e.ok e.lt (dA 6 1 [c.t]);have X:=Lb.new e.lt e.fp (dA 6 1 [c.t]);replace o:=o.step cv;replace v:=v.step cv;have a7:(h.cons (dA 6 1 [c.t])).get 2=h.get 2:=by rw[dP,ao (by have:=e.lt;omega)]
  rw[R]at a7;generalize eI:h.size=bS at*
  generalize h.cons (dA 6 1 [c.t])=et at*
  by_cases eb:c.kind=1\/c.kind=2
  ·have bk:∃N:Nat,max c.size 1=N/\1<=N/\N<=4:=⟨(max c.size 1).toNat,dq,dq,dq⟩;obtain⟨N,bk,dd,eC⟩:=bk;rcases eb with hk|hk<;>(
    simp[hk];refine fh N dq (λk j h=>∃Z,WY h i 0 0 Z/\Lb 2 h 0 (dA 2 0 [d.t])/\Lb 2 h 1 FI/\Lb 2 h bS (dA 6 1 [c.t])/\Z.length<=4*i+k/\(∀n,IB n z->IB n Z)/\(1<=k->IB c.name Z)/\dB j 1 (.ptr 0 0 0 0)/\dB j 2 (.ptr 1 0 0 0)/\dB j 3 (.ptr 2 0 0 0)/\dB j 6 (dy i)/\dB j 7 (.ptr bS 0 0 0)/\dB j 8 (dy k)) ?_ ?_ dq ⟨z,⟨ver,D,K,E,G,H,A,Lk,O,P,Th,J,B,av,aA,aE,S,U⟩,o,v,X,dq,λ_ h=>h,λh=>by omega,by simp[u,x,y,M]⟩
    ·rintro k j h dm di ⟨Z,⟨ver,D,K,E,G,H,A,Lk,O,P,Th,J,e,av,aA,aE,S,U⟩,o,v,X,c9,al,bn,u,x,y,M,bz,bB⟩;have R:=e.get;simp at R;have eE:(k:Int)<max c.size 1:=dq;obtain⟨V,aN,L,l⟩:=(e.gr 0 rfl).mJ (cx:=cx) (f:=ge.t) e.ok Vm rfl Rv rfl dt dt (⟨c.name,k,c.size,decide (c.kind=2),c.jK⟩:ge) du;obtain⟨s,aX,I⟩:=e.app 0 rfl l;obtain⟨g,m⟩:=I _ rfl;simp at s g m;simp[hk]at L;simp[hk,u,x,y,M,bz,bB,X.get,R,dm,bk,L,s,dS,l.1.gJ,l.1.cells,di];exact⟨_,⟨ver+1,V,K,E,G,H,A,Lk,O,P,Th,J,m,av,aA,aE,S,U⟩,o.step g,v.step g,X.step g,du,λn bH=>by have:=al n bH;unfold IB at*;rw[List.map_append];exact cW _ this,by unfold IB;simp⟩
    ·rintro j h ⟨Z,er,o,v,X,c9,al,bn,u,x,y,M,bz,bB⟩;simp[hk,u,x,y,M,bz,bB,X.get,bk,ae];exact⟨Z,er.le dq,o,v,dq,λC Y dn=>by
      rcases bi C Y with q|rfl
      ·exact al _ (ap C q dn)
      ·exact bn dd⟩)
  have ec:¬c.kind=1/\¬c.kind=2:=dq;by_cases b9:c.kind=3
  ·obtain⟨V,aN,L,l⟩:=(B.gr 1 rfl).mJ (cx:=cx) (f:=io.t) B.ok OV rfl Kl rfl dt dt (⟨c.name,false⟩:io) du;obtain⟨s,aX,I⟩:=B.app 1 rfl l;obtain⟨g,m⟩:=I _ rfl;simp at s g m;simp[b9,u,x,y,M,X.get,a7,ae,L,s,dS,l.1.gJ,l.1.cells];exact⟨z,⟨ver+1,D,V,E,G,H,A,_,O,P,Th,J,m,du,dq,dq,S,U⟩,o.step g,v.step g,dq,λC Y hk=>ap C ((bi C Y).resolve_right λQ=>by subst Q;omega) hk⟩
  by_cases ca:c.kind=4
  ·obtain⟨V,aN,L,l⟩:=(B.gr 1 rfl).mJ (cx:=cx) (f:=io.t) B.ok OV rfl Kl rfl dt dt (⟨c.name,true⟩:io) du;obtain⟨s,aX,I⟩:=B.app 1 rfl l;obtain⟨g,m⟩:=I _ rfl;simp at s g m;simp[ca,u,x,y,M,X.get,a7,ae,L,s,dS,l.1.gJ,l.1.cells];exact⟨z,⟨ver+1,D,V,E,G,H,A,_,O,P,Th,J,m,du,dq,dq,S,U⟩,o.step g,v.step g,dq,λC Y hk=>ap C ((bi C Y).resolve_right λQ=>by subst Q;omega) hk⟩
  by_cases cb:c.kind=5
  ·have c4:=(B.gr 1 rfl).rF dt;have c1:=λ{tb:fy} (h:tb.p 146=some qg)=>Ky h Lk c.on dq;obtain⟨V,aN,L,l⟩:=(B.gr 2 rfl).mJ (cx:=cx) (f:=iF.t) B.ok Vl rfl Ru rfl dt dt (⟨c.name,rx (Lk.map io.name) c.on 0⟩:iF) du;obtain⟨s,aX,I⟩:=B.app 2 rfl l;obtain⟨g,m⟩:=I _ rfl;simp at s g m;simp[cb,u,x,y,M,X.get,a7,ae,L,s,dS,l.1.gJ,l.1.cells,c4,c1];exact⟨z,⟨ver+1,D,K,V,G,H,A,Lk,_,P,Th,J,m,dq,du,dq,S,U⟩,o.step g,v.step g,dq,λC Y hk=>ap C ((bi C Y).resolve_right λQ=>by subst Q;omega) hk⟩
  ·obtain⟨V,aN,L,l⟩:=(B.gr 3 rfl).mJ (cx:=cx) (f:=T.str) B.ok pS rfl vi rfl dt dt (c.name) du;obtain⟨s,aX,I⟩:=B.app 3 rfl l;obtain⟨g,m⟩:=I _ rfl;simp at s g m;simp[ec,b9,ca,cb,u,x,y,M,X.get,a7,ae,L,s,dS,l.1.gJ,l.1.cells];exact⟨z,⟨ver+1,D,K,E,V,H,A,Lk,O,_,Th,J,m,dq,dq,du,S,U⟩,o.step g,v.step g,dq,λC Y hk=>ap C ((bi C Y).resolve_right λQ=>by subst Q;omega) hk⟩
 ·rintro j h ⟨z,⟨ver,D,K,E,G,H,A,Lk,O,P,Th,J,e,av,aA,aE,S,U⟩,o,v,c7,ap,u,x,y,M⟩;have eM:=bs.1.2.1;have ea:∀{i:Nat} (b8:i<d.dE.length),ph (d.dE.take (i+1))=ph (d.dE.take i)+dJ.ws d.dE[i].body:=λ{i} b8=>by
   unfold ph;rw[aU b8,List.map_append,List.sum_append];simp
  have dv:∀i,ph (d.dE.take i)<=1000000:=λi=>by
   have:ph d.dE<=1000000:=bs.2.1;have x:ph d.dE=ph (d.dE.take i)+ph (d.dE.drop i):=by unfold ph;rw[<-List.sum_append,<-List.map_append,cN]
   omega
  simp[u,M,o.get];refine fh d.dE.length dq (λi j h=>WY h 1000000 i (ph (d.dE.take i)) z/\Lb 2 h 0 (dA 2 0 [d.t])/\Lb 2 h 1 FI/\dB j 1 (.ptr 0 0 0 0)/\dB j 2 (.ptr 1 0 0 0)/\dB j 3 (.ptr 2 0 0 0)/\dB j 9 (dy i)) ?_ ?_ dq ⟨⟨ver,D,K,E,G,H,A,Lk,O,P,Th,J,e,dq,dq,dq,S,by simpa[ph]using U⟩,o,v,by simp[u,x,y]⟩
  ·rintro i j h an ae ⟨⟨ver,D,K,E,G,H,A,Lk,O,P,Th,J,e,av,aA,aE,S,U⟩,o,v,u,x,y,a8⟩;have eu:=ea an;have ey:=dv (i+1);have R:=e.get;simp at R;obtain⟨V,aN,L,l⟩:=(e.gr 4 rfl).mJ (cx:=cx) (f:=T.str) e.ok pS rfl vi rfl dt dt (d.dE[i].name) du;obtain⟨s,aX,I⟩:=e.app 4 rfl l;obtain⟨g,m⟩:=I _ rfl;simp at s g m;simp[u,y,a8,an,o.get,R,L,s,dS,l.1.gJ,l.1.cells];have ce:=o.step g;have ef:=v.step g;have b6:=m.get;simp at b6;generalize dT aN 2 _=eA at*
   simp[u,a8,an,ce.get,b6,(m.gr 5 rfl).rF,AN];refine gY Lm dt ⟨J,A,i,0,d.dE[i].body⟩ ⟨⟨rfl,m.gr 5 rfl,m.ok,dw⟩,dw⟩ ?_;rintro _ eB ⟨eo,eN,cy,rfl,de,bu⟩;simp only at de bu;obtain⟨s,aX,I⟩:=m.app 5 rfl bu;obtain⟨FO,cp⟩:=I _ rfl;simp at s FO cp;simp[u,x,y,a8,s,dS,bu.1.gJ,bu.1.cells,ae];exact⟨⟨ver+1+1,D,K,E,G,V,eo,Lk,O,P,_,cy,cp,av,aA,aE,du,dq⟩,ce.step FO,ef.step FO⟩
  ·rintro j h ⟨⟨ver,D,K,E,G,H,A,Lk,O,P,Th,J,e,av,aA,aE,S,U⟩,o,v,u,x,y,a8⟩;have R:=e.get;simp at R;have a6:=e.rD v (dA 6 1 [.agg [D,K,E,G,H,A]]);have bN:=v.get;unfold FI at bN;have c6:(dT h 1 (dA 6 1 [.agg [D,K,E,G,H,A]])).get 1=_:=(dI bN _ 1).trans (aq rfl);simp[u,x,y,a8,o.get,R,bN,dS,c6,(a6.gr 0 rfl).fz dt,(a6.gr 1 rfl).fz dt,(a6.gr 2 rfl).fz dt,(a6.gr 3 rfl).fz dt,(a6.gr 4 rfl).fz dt,(a6.gr 5 rfl).fz dt];refine⟨⟨_,rfl,λ_=>⟨dw,dw,dw,dw,dw,?_⟩⟩,e.ok.hp⟩;obtain⟨c,dk,hk,bn⟩:=ds;have al:=ap c (by rw[aL];exact dk) hk;unfold IB at al;rw[bn]at al;rcases Fv (z.map ge.name) [113] 0 with Q|⟨n,bH,Q⟩
   ·have:=Fw (z.map ge.name) [113] 0;rw[Q,eq_true al]at this;simp at this
   ·exact⟨n,by simpa using bH,by rw[Q];simp⟩
 ·obtain⟨eh,bT⟩:=mW.start (h:=((hE.cons (dA 2 0 [d.t])).cons FI).cons FI) (w:=2) (szw:=6) (ver:=0) (F:=[(dz,some (5,[])),(dz,some (2,[])),(dz,some (2,[])),(dz,some (1,[])),(dz,some (1,[])),(dz,some (3,[]))]) ⟨dt,dt,dt⟩ (by simp[FI]) dt;exact⟨[],⟨0,_,_,_,_,_,_,[],[],[],[],[],eh,dt,dt,dt,dt,dt⟩,⟨dt,λq=>absurd (bT 0 q) dx⟩,⟨by simp[FI],λq=>absurd (bT 1 q) dx⟩,dt⟩
def eT(a:Int×T):T:= .agg [.int .i64 a.1,a.2]
def Z2{e:H}{c:Nat->Prop}{g:Int}{b d f:Nat}{a:List fI}(h:c b)(j:e.jg (.arr b d 0 f false)=some (a.map fI.t)):FT e c 4 (eT (g,.arr b d 0 f false)) (fP.t ⟨g,a⟩):=by
 have i:∀a:List fI,iv (FT e c 2) (a.map fI.t) (a.map fI.t):=λa=>by
  induction a with
  |nil=>exact .nil
  |cons l a k=>exact .cons (.inr (.inr ⟨_,_,rfl,.cons (fW ..) (.cons (fW ..) (.cons (fW ..) (.cons (fW ..) (.cons (fW ..) (.cons (fW ..) .nil))))),rfl⟩)) k
 exact .inr (.inr ⟨_,_,rfl,.cons (fW ..) (.cons (.inr (.inl ⟨b,d,0,f,false,_,_,rfl,h,j,i a,rfl⟩)) .nil),rfl⟩)
def PcS(W:dU)(a:H)(f:Nat):Prop:=∃g e,∃b:List (Int×T),∃d:List fP,mW a 2 7 g [(sl (W.cells.map ge.t),none),(sl (W.dY.map io.t),none),(sl (W.fZ.map iF.t),none),(sl (W.dX.map T.str),none),(sl (W.dE.map T.str),none),(sl (W.iq.map ir.t),none),(e,some (2,b.map eT))]/\
 iv (FT a (λc=>2<c/\c<a.size/\¬Fp a 2 c) 4) (b.map eT) (d.map fP.t)/\b.length=f/\∀h∈d,h.iW.length<=10000001
def OK{h:H}{w:Nat}{x:iN}(f:h.get w=some x)(g:∀b∈fa x.em,dO b=none)(c:Nat)(e:Fp h w c):c=w:=by
 rcases e with a|⟨j,d,b,i,a⟩
 ·exact a
 ·rw[f]at d;cases d;rw[g b i]at a;simp at a
structure Kp(h h':H):Prop where
 sz:h.size<h'.size
 get:∀b,b<h.size->h'.get b=h.get b
 fp:∀b,Fp h' h.size b->h.size<=b
def Kp.step{c f g:H}(b:Kp c f)(e:Step c.size f g):Kp c g:=
 ⟨bE b.sz e.ok.sz,λa d=>(e.get a (by have:=b.sz;omega) λh=>by have:=b.fp a h;omega).trans (b.get a d),λa d=>(e.fp a d).elim (b.fp a) λh=>by have:=b.sz;omega⟩
def Kp.new{h:H}(g:gF 0 h)(W:dU)(a:List (List Nat))(b:Int):Kp h (h.cons ⟨10,0,0,true,false,[.agg (sr W a (.dF [] false) 0 b)]⟩)/\Gn W a 0 (h.cons ⟨10,0,0,true,false,[.agg (sr W a (.dF [] false) 0 b)]⟩) h.size:=by
 have f:=OK (h:=h.cons ⟨10,0,0,true,false,[.agg (sr W a (.dF [] false) 0 b)]⟩) (w:=h.size) (x:=⟨10,0,0,true,false,[.agg (sr W a (.dF [] false) 0 b)]⟩) (by rw[dP,aq rfl]) (λi e=>by
  simp[fa,sr,T.cells]at e;rcases e with rfl|rfl|rfl|rfl|rfl|rfl|rfl|rfl|rfl|rfl<;>simp)
 exact⟨⟨dt,λc d=>by rw[dP,ao dq],λc d=>by rw[f c d];exact au _⟩,g.cons _,λc d=>by rw[f c d];simp,0,.dF [] false,0,b,[],by rw[dP,aq rfl],Gr.nil _ _,rfl⟩
structure Sn(h h':H):Prop where
 ok:gF 0 h'
 size:h'.size=h.size+1
 get:∀c,c<h.size->h'.get c=h.get c
def Sn.new{a:H}(c:gF 0 a)(b:iN):Sn a (a.cons b):=⟨c.cons b,dt,λd e=>by rw[dP,ao dq]⟩
def Sn.put{a b:H}(d:Sn a b){x:iN}(g:b.get a.size=some x)(e:iN):Sn a (dT b a.size e):=⟨d.ok.put _ e,by rw[fJ];exact d.size,λc f=>by rw[dI g,ao dq];exact d.get c f⟩
def Hv:iN:=⟨7,0,0,true,false,[.agg [.dF [] false,.dF [] false,.dF [] false,.dF [] false,.dF [] false,.dF [] false,.dF [] false]]⟩
def Ag:m6 Tryz.prog cx 59 (λc:fx=>[c.t]) (λc=>N3 c/\c.dE.length<=100) (λc k=>∃(b:jz) (e l:Int),k= .tuple [b.t,.int .i64 e,.int .i64 l]/\∀J∈b.dE,J.iW.length<=10000001):=by
 refine jd (tb:=⟨pt [(93,jL.jf),(94,BB.jf),(97,mE)],ht [(95,CS 10000001),(96,js CJ ud ql)]⟩) ew ej (iQ 19808249554385699031857790975 [] Tryz.func59) (λc=>10000005) (λR j h=>by simp at h;exact fx.inj h) dt (by simp[Tryz.f59]) ?_;rintro c ⟨bC,eS⟩ a bH;simp at bH;have a8:=bC.1;have cy:=λ{tb:fy} (ht:tb.p 93=some jL.jf)=>c04 ht c a8;obtain⟨_,⟨W,rfl,aX⟩,cL⟩:=BB.use c bC;simp[Tryz.f59,bH,cy];refine dW (λU=> ?_) (λU=> ?_)
 ·simp at U;simp[U];exact⟨⟨⟨[],[],[],[],[],[]⟩,[]⟩,rfl,dt⟩
 have aX:=aX (by simpa using U);simp[cL];refine fh c.dE.length dq (λi a h=>PcS W h i/\Lb 2 h 0 ⟨2,0,0,true,false,[c.t]⟩/\Lb 2 h 1 Hv/\TI.dH a 1=some (.ptr 0 0 0 0)/\TI.dH a 2=some (.ptr 1 0 0 0)/\TI.dH a 7=some (.ptr 2 0 0 0)/\(∃al:Int,TI.dH a 8=some (.int .i64 al))/\TI.dH a 9=some (.int .i64 i)) ?_ ?_ dq ?_
 ·rintro i a h V de ⟨cb,Q,P,r,x,s,⟨al,y⟩,u⟩;have e2:=cb;obtain⟨ver,an,E,X,g,R,hE,a6⟩:=cb;have O:=g.get;simp at O;have eb:(0=h.size)=False:=by have:=g.lt;simp;omega
  have eN:(2=h.size)=False:=by have:=g.lt;simp;omega
  simp[r,s,y,u,V,Q.get,O,eb];have ht:=a8.1.2.2 c.dE[i] (aF V);have ea:=a8.2.2.1 c.dE[i] (aF V);have eU:c.dE[i]? =some c.dE[i]:=az V;generalize c.dE[i]=t at*
  obtain⟨o,ec⟩:=Kp.new g.ok W t.locals al;refine Kx (Li 10000001) dt ec aX ht.1 ea dq dq λeC b9 et eW eX b7=> ?_;replace o:=o.step et;obtain⟨e6,e1,e4,bk,eA,gA,c6,dd⟩:=b7.ex;obtain⟨FO,ef⟩:=b7.Gu gA c6 dd (-1) bk;replace o:=o.step FO;simp only[sr]at gA;simp[gA,dS];refine nQ (i:=⟨28,0,0,0,0,0⟩) dt ef dq λG eu b8=> ?_;replace o:=o.step eu;obtain⟨e7,e5,e0,cv,j,S,e8,eB,ey,gC,av,eF,dn,b6,eD,ds⟩:=b8.YO dq;have eO:(G.size=h.size)=False:=by have:=o.sz;simp;omega
  have bN:j<G.size:=H.ez av;have eH:=o.fp j dn;have ca:=b8.ok;simp only[sr]at gC;have eM:b9+1<=1000001:=dq;generalize b9+1=M at*
  generalize bS:h.size=N at*
  simp[gC,ca.low];refine fh M dq (λZ a v=>∃(k:Int) (B:Nat),Sn G v/\v.get G.size=some ⟨2,0,B,true,false,[.agg [.int .i64 k,.arr j S 0 M false]]⟩/\TI.dH a 1=some (.ptr 0 0 0 0)/\TI.dH a 2=some (.ptr 1 0 0 0)/\TI.dH a 7=some (.ptr 2 0 0 0)/\TI.dH a 8=some (.int .i64 bk)/\TI.dH a 9=some (.int .i64 i)/\TI.dH a 10=some (.ptr N 0 0 0)/\TI.dH a 11=some (.ptr G.size 0 0 0)/\TI.dH a 12=some (.int .i64 Z)) ?_ ?_ dq ?_
  ·rintro Z a v bT di ⟨k,B,m,z,r,x,s,y,u,C,K,D⟩;have ap:=(m.get N (by rw[<-bS];exact o.sz)).trans gC;have c7:=(m.get j bN).trans av;obtain⟨J,bi⟩:=ds Z bT;simp[C,D,ap,c7,bT,bi,us];have eP:(iH J).length<=3:=by unfold iH;(repeat' split)<;>simp
   refine fh (iH J).length dq (λn a v=>∃(k:Int) (B:Nat),Sn G v/\v.get G.size=some ⟨2,0,B,true,false,[.agg [.int .i64 k,.arr j S 0 M false]]⟩/\TI.dH a 1=some (.ptr 0 0 0 0)/\TI.dH a 2=some (.ptr 1 0 0 0)/\TI.dH a 7=some (.ptr 2 0 0 0)/\TI.dH a 8=some (.int .i64 bk)/\TI.dH a 9=some (.int .i64 i)/\TI.dH a 10=some (.ptr N 0 0 0)/\TI.dH a 11=some (.ptr G.size 0 0 0)/\TI.dH a 12=some (.int .i64 Z)/\TI.dH a 13=some (sl ((iH J).map (T.int .i64)))/\TI.dH a 14=some (.int .i64 n)) ?_ ?_ dq ⟨k,B,m,z,by simp[r,x,s,y,u,C,K,D]⟩
   ·rintro n a v a7 dk ⟨k,B,m,z,r,x,s,y,u,C,K,D,aA,aE⟩;simp[r,x,s,y,u,C,K,D,aA,aE,a7,z,nJ,dS];exact⟨m.put z _,⟨_,_,(dI z _ _).trans (aq rfl)⟩,by simpa[nJ]using dk⟩
   ·rintro a v ⟨k,B,m,z,r,x,s,y,u,C,K,D,aA,aE⟩;simp[r,x,s,y,u,C,K,D,aA,aE,di];exact⟨m,k,B,z⟩
  ·rintro a v ⟨k,B,m,z,r,x,s,y,u,C,K,D⟩;have L:∀b,b<h.size->v.get b=h.get b:=λb A=>(m.get b (by have:=o.sz;omega)).trans (o.get b A);have bl:=g.step m.ok λb A=>L b (g.fp b A);have bB:=bl.get;simp at bB;obtain⟨bn,aN,bu,bs⟩:=(bl.gr 6 rfl).mJ (cx:=cx) (f:=eT) m.ok Ve rfl Rp rfl dt (λJ=>rfl) (k,.arr j S 0 M false) du;obtain⟨ce,e3,eh⟩:=bl.app 6 rfl bs;obtain⟨I,cp⟩:=eh _ rfl;simp at ce I cp;simp only[eT]at bu;have ap:=(m.get N (by rw[<-bS];exact o.sz)).trans gC;simp[ap,r,x,s,y,u,C,K,D,z,bB,bu,ce,dS,bs.1.gJ,bs.1.cells,de];have eR:=m.size;have eI:=o.sz;have Y:=iJ (L 2 g.lt);have dm:∀b,b<N->¬Fp h 2 b->(dT aN 2 _).get b=h.get b:=λb A a7=>(I.get b dq (by rw[Y];exact a7)).trans (L b dq);have eL:=g.lt;refine⟨⟨_,bn,E++[(k,.arr j S 0 M false)],X++[⟨k,cv⟩],by simpa using cp,?_,du,λJ bi=> ?_⟩,(Q.kE (L 2 g.lt) (L 0 Q.lt)).step I,(P.kE (L 2 g.lt) (L 1 P.lt)).step I⟩
   ·rw[List.map_append,List.map_append];have eV:v.size<=(dT aN 2 (⟨7,0,ver+1,true,false,[.agg [sl (W.cells.map ge.t),sl (W.dY.map io.t),sl (W.fZ.map iF.t),sl (W.dX.map T.str),sl (W.dE.map T.str),sl (W.iq.map ir.t),bn]]⟩:iN)).size:=I.ok.sz;refine iv.append (R.ft λb A=>⟨⟨A.1,dq,λq=> ?_⟩,dm b A.2.1 A.2.2⟩) (.cons (Z2 ⟨dq,dq,λq=> ?_⟩ ?_) .nil)
    ·rcases I.fp b q with q|q
     ·rw[Y]at q;exact A.2.2 q
     ·omega
    ·rcases I.fp j q with q|q
     ·rw[Y]at q;have:=g.fp j q;omega
     ·omega
    ·have c9:(dT aN 2 (⟨7,0,ver+1,true,false,[.agg [sl (W.cells.map ge.t),sl (W.dY.map io.t),sl (W.fZ.map iF.t),sl (W.dX.map T.str),sl (W.dE.map T.str),sl (W.iq.map ir.t),bn]]⟩:iN)).get j=_:=((I.get j dq λq=>by rw[Y]at q;have:=g.fp j q;omega).trans (m.get j bN)).trans av;have dv:M<=ey.length:=by
      have:=bM List.length b6;rw[List.length_take,aH]at this;omega
     rw[f7,c9];simp[dv,b6]
   ·rcases List.mem_append.1 bi with q|q
    ·exact a6 J q
    ·rw[List.mem_singleton.1 q];simp only;omega
  ·exact⟨t.locals.length,1,Sn.new ca _,dt,by simp[r,x,s,u]⟩
 ·rintro a h ⟨⟨ver,an,E,X,g,R,hE,a6⟩,Q,P,r,x,s,⟨al,y⟩,u⟩;have O:=g.get;simp at O;have ae:=P.get;unfold Hv at ae;have er:=g.rD P ⟨7,0,1,true,false,[.agg [sl (W.cells.map ge.t),sl (W.dY.map io.t),sl (W.fZ.map iF.t),sl (W.dX.map T.str),sl (W.dE.map T.str),sl (W.iq.map ir.t),an]]⟩;have c4:(dT h 1 ⟨7,0,1,true,false,[.agg [sl (W.cells.map ge.t),sl (W.dY.map io.t),sl (W.fZ.map iF.t),sl (W.dX.map T.str),sl (W.dE.map T.str),sl (W.iq.map ir.t),an]]⟩).get 1=_:=(dI ae _ 1).trans (aq rfl);have c1:=(er.gr 6 rfl).IW (d:=4) dq (R.ft (V':=λ_=>True) λj eE=>⟨trivial,by rw[dI ae,ao dq]⟩);simp[r,x,s,u,Q.get,O,ae,dS,c4,c1];exact⟨⟨⟨W,X⟩,rfl,a6⟩,g.ok.hp⟩
 ·obtain⟨eo,bz⟩:=mW.start (h:=((hE.cons ⟨2,0,0,true,false,[c.t]⟩).cons Hv).cons ⟨7,0,1,true,false,[.agg [sl (W.cells.map ge.t),sl (W.dY.map io.t),sl (W.fZ.map iF.t),sl (W.dX.map T.str),sl (W.dE.map T.str),sl (W.iq.map ir.t),.dF [] false]]⟩) (w:=2) (szw:=7) (ver:=1) (F:=[(sl (W.cells.map ge.t),none),(sl (W.dY.map io.t),none),(sl (W.fZ.map iF.t),none),(sl (W.dX.map T.str),none),(sl (W.dE.map T.str),none),(sl (W.iq.map ir.t),none),(.dF [] false,some (2,[]))]) ⟨dt,dt,dt⟩ (by simp[Hv]) dt;exact⟨⟨_,_,[],[],eo,.nil,rfl,dt⟩,⟨dt,λq=>absurd (bz 0 q) dx⟩,⟨by simp[Hv],λq=>absurd (bz 1 q) dx⟩,dt⟩
end
end Go.Proofs.YtmaeadedikngoaaGreatDoor
