/- Texts W09f to W09h. -/
import Derived.Test.YtmaeadedikngoaaGreatDoorA31
set_option linter.all false
set_option maxRecDepth 100000
set_option maxHeartbeats 8000000
namespace Go.Proofs.YtmaeadedikngoaaGreatDoor
noncomputable section
open Go Go.TI
attribute [-simp] List.map_take List.map_drop List.map_append fH fh ej Bool.not_or Bool.not_and
attribute [simp] fG fj
def Sp9(f:H)(a:fK)(b c:List Int):Prop:=∃g d e,nS f 2 7 g [(sl (a.ew.map eg.t),none),(dG a.tx,none),(sl (a.done.map T.bool),none),(sl (a.dM.map dP.t),none),(d,some (1,gD b)),(e,some (1,gD c)),(dH,none)]
structure Tt9(c:jO)(S:fK)(C F:List Int)(cc cf:T)(n1 k:Nat)(h:H)(ver:Nat)(ct:T)(es:List T)(ts:List ez)(lo hi:Nat->Nat):Prop where
 ok:ij 0 h
 n:3<=n1/\n1<=h.size
 b0:h.get 0=some (dI 7 0 [c.t])
 b1:h.get 1=some nC
 b2:h.get 2=some (dI 7 ver [.agg [sl (S.ew.map eg.t),dG S.tx,sl (S.done.map T.bool),sl (S.dM.map dP.t),cc,cf,ct]])
 gc:Gr h cc 1 (gD C)
 gf:Gr h cf 1 (gD F)
 bx:∀q,dU cc=some q\/dU cf=some q->3<=q/\q<n1
 th:TE n1 h ct es ts lo hi
 l:ts.length=k
 t:∀t∈ts,UQ 1000000 t/\t.dS=0
def adr(b:T):Prop:=∃a:iL,b=a.t/\StI a/\Wl 0 a
def Er:nK Tryz.prog cx 76 (λk:jO=>[k.t]) (λk=>∀x∈k.dM,x.jk.length<=10000001) (λ_=>adr):=by
 refine ju (tb:=⟨pt [(74,wA.jx),(73,rH)],ht []⟩) fc fa (je 4504699140047487 [] Tryz.func76) (λ_=>1005) (λa b h=>by simp at h;exact jO.inj h) dC (by simp[Tryz.f76]) ?_;rintro k dd r X;simp at X;obtain⟨_,⟨b,rfl,bi⟩,bH⟩:=wA.use k dd;cases b with
 |false=>
  simp[Tryz.f76,X,bH];exact⟨⟨⟨[],0,[],[]⟩,[],[],[]⟩,rfl,⟨dC,λl hl=>by simp at hl,λl hl=>by simp at hl,λK ht=>by simp at ht⟩,λK ht=>by simp at ht⟩
 |true=>
  have U:=bi rfl;have aA:=tI U.1;obtain⟨eO,eP,eR,eS,eU,b6⟩:=aA;have eI:k.dM.length<=4:=by rw[U.2.1];exact b6
  simp[Tryz.f76,X,bH,Ip,show k.fq.ew.length<=1000000 by omega,show k.fq.ei.length<=1000000 by omega,show k.fq.dM.length<=1000000 by omega];have a8:(lj k.fq).ew.length=k.fq.ew.length/\(lj k.fq).done.length=k.fq.ei.length/\(lj k.fq).dM.length=k.fq.dM.length:=by simp[lj]
  have c4:IA 4 (lj k.fq):=(vy 4 k.fq);have c6:(lj k.fq).EY:=sx k.fq;generalize lj k.fq=o at*
  refine fI k.fq.cells.length dB (λs r h=>∃G,Sp9 h o G []/\G.length=s/\Lb 2 h 0 (dI 7 0 [k.t])/\Lb 2 h 1 nC/\dJ r 1 (.ptr 0 0 0 0)/\dJ r 2 (.ptr 1 0 0 0)/\dJ r 3 (.ptr 2 0 0 0)/\dJ r 4 (dG s)) ?_ ?_ dB ?_
  ·rintro s r h P Y ⟨G,⟨ver,I,J,u⟩,cX,z,N,v,C,D,E⟩;have B:=u.get;simp at B;obtain⟨er,h',S,y⟩:=(u.gr 4 rfl).nq (cx:=cx) (f:=T.int .i64) u.ok oR rfl yT rfl dC (λ_=>rfl) k.fq.cells[s].j7 dD;obtain⟨Z,ea,bz⟩:=u.app 4 rfl y;obtain⟨Q,ae⟩:=bz _ rfl;simp only[aT,cB,df,cQ]at Z Q ae;simp[v,C,D,E,P,z.get,B,S,Z,ed,y.1.im,y.1.cells,Y];exact⟨G++[k.fq.cells[s].j7],⟨_,_,_,ae⟩,dD,z.step Q,N.step Q⟩
  ·rintro r h ⟨G,eb,cX,z,N,v,C,D,E⟩;simp[v,E,z.get];refine fI k.fq.ei.length dB (λs r h=>∃F,Sp9 h o G F/\F.length=s/\Lb 2 h 0 (dI 7 0 [k.t])/\Lb 2 h 1 nC/\dJ r 1 (.ptr 0 0 0 0)/\dJ r 2 (.ptr 1 0 0 0)/\dJ r 3 (.ptr 2 0 0 0)/\dJ r 5 (dG s)) ?_ ?_ dB ?_
   ·rintro s r h P Y ⟨F,⟨ver,I,J,u⟩,a7,z,N,v,C,D,E⟩;have B:=u.get;simp at B;obtain⟨er,h',S,y⟩:=(u.gr 5 rfl).nq (cx:=cx) (f:=T.int .i64) u.ok oR rfl yT rfl dC (λ_=>rfl) 0 dD;obtain⟨Z,ea,bz⟩:=u.app 5 rfl y;obtain⟨Q,ae⟩:=bz _ rfl;simp only[aT,cB,df,cQ]at Z Q ae;simp[v,C,D,E,P,z.get,B,S,Z,ed,y.1.im,y.1.cells,Y];exact⟨F++[0],⟨_,_,_,ae⟩,dD,z.step Q,N.step Q⟩
   ·rintro r h ⟨F,⟨ver,I,J,u⟩,a7,z,N,v,C,D,E⟩;simp[v,E,z.get];have B:=u.get;simp at B;have an:=u.gr 4 rfl;have ap:=u.gr 5 rfl;have b9:∀q,dU I=some q\/dU J=some q->3<=q/\q<h.size:=λq M=>by
     have bn:Fp h 2 q:=by
      rcases M with x|x
      ·exact u.Bo (f:=(I,some (1,gD G))) dC x
      ·exact u.Bo (f:=(J,some (1,gD F))) dC x
     refine⟨?_,u.fp q bn⟩;have b7:q≠0:=λx=>z.nf (by rw[<-x];exact bn);have et:q≠1:=λx=>N.nf (by rw[<-x];exact bn);have eV:q≠2:=λx=>by
      subst x;rcases M with x|x
      ·obtain⟨_,_,_,_,O,_⟩:=an.box x;rw[B]at O;simp at O
      ·obtain⟨_,_,_,_,O,_⟩:=ap.box x;rw[B]at O;simp at O
     omega
    have eH:=H.eJ B;have eE:=an.im;have eB:=an.cells;have eF:=ap.im;have eC:=ap.cells;refine fI k.dM.length dB (λs r h'=>∃ver R aN al bs bp,Tt9 k o G F I J h.size s h' ver R aN al bs bp/\dJ r 1 (.ptr 0 0 0 0)/\dJ r 2 (.ptr 1 0 0 0)/\dJ r 3 (.ptr 2 0 0 0)/\dJ r 6 (dG s)) ?_ ?_ (by have:=U.2.1;have:=b6;omega) ?_
    ·rintro s r h' P Y ⟨ver,R,aN,al,bs,bp,i,v,C,D,E⟩;obtain⟨m,de,eL⟩:∃m:Nat,k.dM[s].iS=m/\m<=32:=⟨k.dM[s].iS.toNat,by have:=U.2.2 _ (aC P);have:=this.1;omega,by have:=U.2.2 _ (aC P);have:=this.2.1;omega⟩;have ca:m*8<=70368744177664:=dB;have cb:m*24<=70368744177664:=dB;have c1:=i.n;have b7:∀q,q<3->(q=h'.size)=False:=λq M=>by simp;omega
     have et:∀q,q<3->(q=h'.size+1)=False:=λq M=>by simp;omega
     have bT:=i.ok;have eN:=bT.low;have XP:ij 0 ((h'.cons ⟨1,0,0,true,false,List.replicate m (dG 0)⟩).cons ⟨1,0,0,true,false,List.replicate m dH⟩):=(bT.cons _).cons _;have aX:∀q,((h'.cons ⟨1,0,0,true,false,List.replicate m (dG 0)⟩).cons ⟨1,0,0,true,false,List.replicate m dH⟩).get q=if q=h'.size+1 then some ⟨1,0,0,true,false,List.replicate m dH⟩else if q=h'.size then some ⟨1,0,0,true,false,List.replicate m (dG 0)⟩else h'.get q:=λq=>by rw[dW,dW];rfl
     have b8:((h'.cons ⟨1,0,0,true,false,List.replicate m (dG 0)⟩).cons ⟨1,0,0,true,false,List.replicate m dH⟩).size=h'.size+1+1:=rfl;have bu:Nb h' ((h'.cons ⟨1,0,0,true,false,List.replicate m (dG 0)⟩).cons ⟨1,0,0,true,false,List.replicate m dH⟩):=⟨⟨XP.hp,XP.low,dB⟩,λq M=>(aX q).trans ((ao dB).trans (ao dB))⟩;have cL:=i.th.g.mono (h':=(h'.cons ⟨1,0,0,true,false,List.replicate m (dG 0)⟩).cons ⟨1,0,0,true,false,List.replicate m dH⟩) λq x=>bu.get q (by obtain⟨_,_,_,_,O,_⟩:=i.th.g.box x;exact H.eJ O);obtain⟨W,L,S,y⟩:=cL.Dc (cx:=cx) XP PX rfl Le rfl dC (x:= .agg [dG 0,.arr h'.size 0 0 m false,.arr (h'.size+1) 0 0 m false,dG 0]) rfl (by have:=i.th.l;have:=i.l;have:=U.2.1;simp;omega);simp only[b8]at S;have eu:=y.2.2.2.sz;rw[b8]at eu;have aE:∀q,dU R=some q->h.size<=q:=λq x=>(i.th.c q x).1;have gN:∀q,q<h'.size->dU R≠some q->L.get q=h'.get q:=λq M di=>(y.2.1 q dB di).trans (bu.get q M);have a6:∀q,q<3->L.get q=h'.get q:=λq M=>gN q dB λx=>by have:=aE q x;omega
     have p2:=(a6 2 dB).trans i.b2;simp[v,C,D,E,P,i.b0,i.b2,de,ca,cb,b7,S,p2,y.1.im,y.1.cells,ed,Y];have dv:ij 0 L:=⟨y.2.2.2.hp,y.2.2.2.low,aw _⟩;have A:∀q,(d8 L 2 (dI 7 (ver+1) [.agg [sl (o.ew.map eg.t),dG o.tx,sl (o.done.map T.bool),sl (o.dM.map dP.t),I,J,W]])).get q=if q=2 then some (dI 7 (ver+1) [.agg [sl (o.ew.map eg.t),dG o.tx,sl (o.done.map T.bool),sl (o.dM.map dP.t),I,J,W]])else L.get q:=λq=>dQ p2 _ q;have dn:=dv.put 2 (dI 7 (ver+1) [.agg [sl (o.ew.map eg.t),dG o.tx,sl (o.done.map T.bool),sl (o.dM.map dP.t),I,J,W]]);have eW:(d8 L 2 (dI 7 (ver+1) [.agg [sl (o.ew.map eg.t),dG o.tx,sl (o.done.map T.bool),sl (o.dM.map dP.t),I,J,W]])).size=L.size:=fV ..;generalize d8 L 2 _=a7 at*
     have eM:List.replicate m (T.int .i64 0)=gD (List.replicate m 0):=by simp[gD]
     have ef:AS h'.size (h'.size+1+1) ((h'.cons ⟨1,0,0,true,false,List.replicate m (dG 0)⟩).cons ⟨1,0,0,true,false,List.replicate m dH⟩) (.arr h'.size 0 0 m false) (.arr (h'.size+1) 0 0 m false) (List.replicate m dH) ⟨0,List.replicate m 0,List.replicate m [],0⟩:=by
      refine⟨.inr ⟨h'.size,0,0,true,_,dC,(aX _).trans ((ao dB).trans (aq rfl)),dC⟩,.inr ⟨h'.size+1,0,0,true,_,dC,(aX _).trans (aq rfl),dC⟩,Bx dC λj a b X bi=> ?_,λq x=> ?_,λq x=> ?_⟩
      ·have c7:=bR (ax X);have c9:=bR (ax bi);subst c7;subst c9;exact⟨.inr (Gr.nil _ _),λq x=>by simp at x⟩
      ·simp at x;subst x;exact⟨au _,dB,dC⟩
      ·simp at x;subst x;exact⟨dB,dB⟩
     have ec:=(i.th.app i.n.2 bu ef y).mono (h':=a7) dB λq v _=>(A q).trans (ao dB);refine⟨ver+1,W,_,_,_,_,⟨dn,⟨i.n.1,dB⟩,(A 0).trans ((ao dB).trans ((a6 0 dB).trans i.b0)),(A 1).trans ((ao dB).trans ((a6 1 dB).trans i.b1)),(A 2).trans (aq rfl),i.gc.mono λq x=> ?_,i.gf.mono λq x=> ?_,i.bx,ec,by simp[i.l],λK ht=> ?_⟩⟩
     ·have:=i.bx q (.inl x);exact(A q).trans ((ao dB).trans (gN q dB λp=>by have:=aE q p;omega))
     ·have:=i.bx q (.inr x);exact(A q).trans ((ao dB).trans (gN q dB λp=>by have:=aE q p;omega))
     ·rcases List.mem_append.1 ht with q|q
      ·exact i.t K q
      ·simp at q;subst q;exact⟨⟨dD,dD,λl hl=>by have:=bR hl;subst this;exact Tn.nil _⟩,rfl⟩
    ·rintro r h' ⟨ver,R,aN,al,bs,bp,i,v,C,D,E⟩;have bk:=i.b1;unfold nC at bk;have A:∀p q,(d8 h' 1 p).get q=if q=1 then some p else h'.get q:=λp q=>dQ bk p q;have c1:=i.n;have ce:∀p,TI.fz (d8 h' 1 p) I=some (sl (gD G)):=λp=>(i.gc.mono (h':=d8 h' 1 p) λq x=>by have:=i.bx q (.inl x);rw[A,ao dB]).fz dC;have cp:∀p,TI.fz (d8 h' 1 p) J=some (sl (gD F)):=λp=>(i.gf.mono (h':=d8 h' 1 p) λq x=>by have:=i.bx q (.inr x);rw[A,ao dB]).fz dC;have cy:∀p,TI.fz (d8 h' 1 p) R=some (sl (al.map ez.t)):=λp=>by
      have bC:=i.th.mono (h':=d8 h' 1 p) (by rw[fV];exact au _) λq v _=>by rw[A,ao dB]
      refine bC.g.H6 (V:=λ_=>True) (d:=4) dB (Bx (by simp[bC.l]) λj x w dm aA=> ?_);rw[aQ]at aA;obtain⟨eo,dk,rfl⟩:=Option.map_eq_some_iff.1 aA;obtain⟨ey,eA,eD,rfl,eh⟩:=bC.e j x eo dm dk;exact .inr (.inr ⟨_,_,rfl,eh.fz _ λ_ _ _=>trivial,rfl⟩)
     simp[v,C,D,E,i.b0,i.b2,bk,ed,A,ce,cp,cy,i.ok.hp];have hl:=i.l;refine⟨⟨o,G,F,al⟩,rfl,⟨⟨by rw[a8.1];omega,by rw[a8.2.1];omega,by rw[a8.2.2];omega,dE,dE,dE⟩,c4,c6,λK ht=>(i.t K ht).1⟩,λK ht=>by have:=(i.t K ht).2;omega⟩
    ·refine⟨ver,dH,[],[],λ_=>0,λ_=>0,⟨u.ok,⟨dB,au _⟩,z.get,N.get,B,an,ap,b9,⟨Gr.nil _ _,rfl,λs e K x=>by simp at x,λs x=>by simp at x,λs j x p=>by simp at p,λk x=>by simp at x⟩,rfl,λK ht=>by simp at ht⟩,by simp[v,C,D]⟩
   ·exact⟨[],eb,rfl,z,N,by simp[v,C,D]⟩
  ·generalize av:H.cons _ _=bN;have ds:ij 0 bN:=by rw[<-av];exact⟨dC,dC,dC⟩
   have bB:=nS.start (h:=bN) (w:=2) (szw:=7) (ver:=1) (F:=[(sl (o.ew.map eg.t),none),(dG o.tx,none),(sl (o.done.map T.bool),none),(sl (o.dM.map dP.t),none),(dH,some (1,[])),(dH,some (1,[])),(dH,none)]) ds (by rw[<-av];simp) (λf bS=>by
    simp only[cw,dh,or_false]at bS;rcases bS with rfl|rfl|rfl|rfl|rfl|rfl|rfl
    iterate 4 exact .inl ⟨rfl,dC⟩
    iterate 2 exact .inr ⟨rfl,1,rfl,dF⟩
    exact .inl ⟨rfl,rfl⟩)
   exact⟨[],⟨1,_,_,bB.1⟩,rfl,⟨by rw[<-av];simp,λx=>absurd (bB.2 0 x) dB⟩,⟨by rw[<-av];simp[nC],λx=>absurd (bB.2 1 x) dB⟩,dC⟩
end
noncomputable section
open Go Go.TI
attribute [-simp] List.map_take List.map_drop List.map_append fH fh ej Bool.not_or Bool.not_and
attribute [simp] fG fj
attribute [-simp] size_cons
structure IFr where
 (c:jO) (s:iL) (L:List jf)
def Uk(a:IFr)(b:List T)(d:H):Prop:=b=[a.c.t,a.s.t,dH,sl (a.L.map jf.t)]/\ij 0 d/\(∀e∈a.c.dM,e.jk.length<=10000001)/\StI a.s/\Wl 0 a.s/\a.L.length<=80
def Oo(i:IFr)(h:List T)(c:H)(f:T)(d:H):Prop:=∃(a:List eK) (g:iL) (b:T),f= .tuple [b,g.t]/\Gr d b 7 (a.map eK.t)/\(∀e,dU b=some e->c.size<=e)/\Nb c d/\JU a/\a.length<=80
structure Fr9(c:jO)(h0:H)(n:Nat)(h:H)(s:iL)(l:List eK)(v:T)(ver:Nat):Prop where
 nb:Nb h0 h
 z:h0.size+3<=h.size
 b0:h.get h0.size=some (dI 7 0 [c.t])
 b1:h.get (h0.size+1)=some (dI 7 ver [s.t])
 b2:h.get (h0.size+1+1)=some nC
 g:Gr h v 7 (l.map eK.t)
 bx:∀q,dU v=some q->h0.size+3<=q
 st:StI s
 ev:Wl n s
 es:JU l
 l:l.length<=n
def Fr9.ok{c:jO}{d a:H}{g:Nat}{h:iL}{f:List eK}{j:T}{k:Nat}(b:Fr9 c d g a h f j k):ij 0 a:=⟨b.nb.ok.hp,b.nb.ok.low,aw _⟩
def OY:(jF IFr Uk Oo).Ok Tryz.prog cx 75:=by
 refine jv (tb:=⟨pt [(116,Hi.jx)],ht []⟩) fc fa (je 68723687231 [(4,[(6,11),(6,12)])] Tryz.func75) (λ_ _=>1005) (λi S d bB=>by obtain⟨rfl,_⟩:=bB;simp[Tryz.f75]) ?_;rintro⟨r,j,D⟩ _ c ⟨rfl,ae,W,Y,V,bn⟩ o I;simp only at W Y V bn;simp at I;obtain⟨a8,bi,s,u⟩:=I;have P:=ae.hr;simp[Tryz.f75,a8,bi];have ce:=ae.low;generalize p:((H.cons _ _).cons _).cons _=v;have cp:ij 0 v:=by rw[<-p];exact((P.cons _).cons _).cons _
 have c7:v.size=c.size+1+1+1:=by rw[<-p];rfl
 have bH:Nb c v:=by rw[<-p];exact⟨((((Nb.refl P).cons _).cons _).cons _).ok,λr bp=>(((((Nb.refl P).cons _).cons _).cons _).get r bp).trans (gF c r)⟩
 have b7:v.get c.size=some (dI 7 0 [r.t]):=by rw[<-p];simp
 have b8:v.get (c.size+1)=some (dI 7 0 [j.t]):=by rw[<-p];simp
 have b9:v.get (c.size+1+1)=some nC:=by rw[<-p];simp[nC]
 clear p;refine sr D.length (λm o d=>∃j A B n,Fr9 r c m d j A B n/\dJ o 4 (.ptr c.size 0 0 0)/\dJ o 5 (.ptr (c.size+1) 0 0 0)/\dJ o 9 (.ptr (c.size+1+1) 0 0 0)/\dJ o 2 B/\dJ o 3 (sl (D.map jf.t))/\dJ o 10 (dG m)) ?_ dB (aw _) ?_
 ·rintro m o d cb ⟨j,A,B,n,b,K,x,L,s,u,F⟩;have Z:=b.g.len (cx:=cx) d U5 _ rfl;rw[aG]at Z;simp[s,u,F,Z];refine em (λe=> ?_) (λe=> ?_)
  ·have bz:m<D.length:=by simp at e;exact e.1
   have bC:=b.z;have a6:Wl 999000 j:=λQ ht=>by have:=b.ev Q ht;omega
   obtain⟨_,⟨q,E,bS,rfl,bu,X⟩,T⟩:=Hi.use (r,j,D[m]) ⟨W,b.st,a6⟩;simp only at T X;have cy:(c.size=d.size)=False:=by simp<;>omega
   have cX:(c.size+1=d.size)=False:=by simp<;>omega
   have cL:(c.size=d.size+1)=False:=by simp<;>omega
   have c1:(c.size+1=d.size+1)=False:=by simp<;>omega
   simp[u,K,x,F,b.b0,b.b1,bz,T,b.ok.low];generalize G:d8 _ (d.size+1) _=h;have O:ij 0 ((d.cons (dI 7 1 [q.t])).cons (dI 7 0 [.agg [dG 0,dG 0,dG 0,dG 0,dG 0,dH,dH]])):=(b.ok.cons _).cons _;have N:ij 0 h:=by rw[<-G];exact O.put _ _
   have ca:h.size=d.size+1+1:=by rw[<-G,fV];rfl
   have J:∀a,h.get a=if a=d.size+1 then some (dI 7 1 [E.t])else if a=d.size then some (dI 7 1 [q.t])else d.get a:=λa=>by
    rw[<-G,m6 O.hp (by show _<d.size+1+1;omega)];split
    ·rfl
    ·rw[dW,ao (by assumption),dW]
   clear G O;have Go:∀a,a<d.size->h.get a=d.get a:=λa e=>(J a).trans ((ao dB).trans (ao dB));have a0:=(Go c.size dB).trans b.b0;have a1:=(Go (c.size+1) dB).trans b.b1;have a2:=(Go (c.size+1+1) dB).trans b.b2;have an:=(J d.size).trans ((ao dB).trans (aq rfl));have al:=(J (d.size+1)).trans (aq rfl);have gA:=b.g.mono (h':=h) λa f=>by obtain⟨_,_,_,_,g,_⟩:=b.g.box f;exact Go a (H.eJ g)
   cases bS with
   |false=>
    simp[s,u,K,x,L,F,oh];rw[<-jI,jL dB dB];exact⟨m+1,dB,dB,j,A,B,⟨n,⟨⟨⟨N.hp,N.low,dB⟩,λa e=>(Go a dB).trans (b.nb.get a e)⟩,dB,a0,a1,a2,gA,b.bx,b.st,λQ ht=>by have:=b.ev Q ht;omega,b.es,by have:=b.l;omega⟩⟩,rfl,dC⟩
   |true=>
    obtain⟨bT,aX⟩:=X rfl;have bN:ij 0 (d8 h (c.size+1) (dI 7 (n+1) [q.t])):=N.put _ _;have k:∀a,(d8 h (c.size+1) (dI 7 (n+1) [q.t])).get a=if a=c.size+1 then some (dI 7 (n+1) [q.t])else h.get a:=λa=>dQ a1 _ a;have c4:(d8 h (c.size+1) (dI 7 (n+1) [q.t])).size=d.size+1+1:=by rw[fV];exact ca
    simp[s,x,an,a1];generalize d8 h (c.size+1) _=U at*
    have ap:=(k c.size).trans ((ao dB).trans a0);have av:=(k (c.size+1)).trans (aq rfl);have aA:=(k (c.size+1+1)).trans ((ao dB).trans a2);have aE:=(k (d.size+1)).trans ((ao dB).trans al);have a7:=gA.mono (h':=U) λa f=>(k a).trans (ao (by have:=b.bx a f;omega));obtain⟨b6,bk,aN,w⟩:=a7.nq (cx:=cx) bN P5 rfl PY rfl dC (λ_=>rfl) E (by have:=b.l;simp;omega);simp[u,K,x,L,F,aE,aN,oh];rw[<-jI,jL dB dB];have c6:=w.2.2.2.sz;have C:∀a,a<c.size+3->bk.get a=U.get a:=λa e=>w.2.1 a dB λf=>by have:=b.bx a f;omega
    exact⟨m+1,dB,dB,q,A++[E],b6,⟨n+1,⟨⟨⟨w.2.2.2.hp,w.2.2.2.low,dB⟩,λa e=>(C a dB).trans ((k a).trans ((ao dB).trans ((Go a dB).trans (b.nb.get a e))))⟩,dB,(C c.size dB).trans ap,(C (c.size+1) dB).trans av,(C (c.size+1+1) dB).trans aA,w.1,λa f=>by
     rcases w.2.2.1 a f with y|y
     ·exact b.bx a y
     ·omega,bT,aX m b.ev,λS I=>by
     rcases List.mem_append.1 I with y|y
     ·exact b.es S y
     ·simp at y;subst y;exact bu,by have:=b.l;simp;omega⟩⟩,rfl,dC⟩
  ·have M:=b.b2;unfold nC at M;have bC:=b.z;have k:∀y a,(d8 d (c.size+1+1) y).get a=if a=c.size+1+1 then some y else d.get a:=λy a=>dQ M y a;simp[s,x,L,b.b1,M,ed,k];have R:∀a,a≠c.size+1+1->(lM c (d8 d (c.size+1+1) (dI 7 1 [j.t]))).get a=d.get a:=λa e=>by rw[fQ,k,ao e]
   exact⟨A,j,B,rfl,b.g.mono λa f=>R a (by have:=b.bx a f;omega),λa f=>by have:=b.bx a f;omega,⟨⟨((b.ok.put _ _).out c).hp,((b.ok.put _ _).out c).low,by rw[wz,fV];exact b.nb.ok.sz⟩,λa e=>(R a dB).trans (b.nb.get a e)⟩,b.es,by have:=b.l;omega⟩
 ·exact⟨j,[],_,_,⟨bH,dB,b7,b8,b9,Gr.nil _ _,λa f=>by simp at f,Y,V,λE bs=>by simp at bs,au _⟩,by simp[s,u]⟩
end
noncomputable section
open Go Go.TI
attribute [-simp] List.map_take List.map_drop List.map_append fH fh ej Bool.not_or Bool.not_and
attribute [simp] fG fj
def UT(a:H)(j:Nat):Prop:=∃i d e f c g h,∃b:List dR,a.get j=some (dI 6 i [.agg [d,e,f,c,g,h]])/\Gr a c 11 (b.map dR.t)/\b.length<=1000000/\ij 0 a
def Fb:kU:=⟨λd a=>∃b c e h,d=[.ptr b 0 0 0,dG c,dG e,.str h]/\UT a b,λ_ a g f=>f=a/\EM g⟩
def OX:Fb.Ok Tryz.prog cx 226:=by
 refine IK (tb:=⟨pt [],ht []⟩) fc fa (je 70368744310543 [] Tryz.func226) false (λ_ _=>1000005) (λN b L=>by obtain⟨g,y,e,G,rfl,_⟩:=L;simp[Tryz.f226]) ?_;rintro _ b ⟨g,y,e,G,rfl,Y,O,P,Q,z,R,S,h,s,n,hl,v⟩ d B;simp at B;obtain⟨f,i,j,k⟩:=B;have u:=H.eJ s;simp[Tryz.f226];refine fI h.length dB (λo d c=>Fr b.size (hr b) c/\ij 0 c/\dJ d 0 (.ptr g 0 0 0)/\dJ d 1 (dG y)/\dJ d 2 (dG e)/\dJ d 3 (.str G)/\dJ d 9 (dG o)) ?_ ?_ dB (by simp[f,i,j,k,Fr.refl,v.hr])
 ·rintro o d c D J ⟨a,w,f,i,j,k,m⟩;have p:=(a.get g u).trans ((gF b g).trans s);have l:Gr c z 11 (h.map dR.t):=n.mono λe q=>by obtain⟨_,_,_,_,x,_⟩:=n.box q;rw[a.get e (H.eJ x),gF]
  have K:o<(h.map dR.t).length:=by simpa using D
  obtain⟨I,T,Z,U,ae,W,M,E,F⟩:=l.JG (te:=GH) rfl K;have V:=Nat.ne_of_lt (bG u a.size);simp at F;have X:(I=c.size)=False:=by simp;have:=H.eJ E;omega
  simp[f,i,j,k,m,p,l.len (cx:=cx),M,E,F,D,w.low];have A:=a.trans (Fr.cons (lo:=b.size) (by have:b.size<=c.size:=a.size;omega) (dI 11 1 [h[o].t]))
  repeat' (refine em (λC=> ?_) (λC=> ?_)<;>simp[C,f,i,j,k,m,J,A,w.cons])
  exact qf b _ _ v.hp A (r:= .bool true) rfl ⟨rfl,dC⟩
 ·rintro d c ⟨a,w,f,i,j,k,m⟩;have p:=(a.get g u).trans ((gF b g).trans s);have l:Gr c z 11 (h.map dR.t):=n.mono λe q=>by obtain⟨_,_,_,_,x,_⟩:=n.box q;rw[a.get e (H.eJ x),gF]
  simp[f,m,p,l.len (cx:=cx)];exact qf b _ _ v.hp a (r:= .bool false) rfl ⟨rfl,dC⟩
structure Wk(p:fM)(A:List dR)(n:Nat)(h:H)(w:Nat):Prop where
 ok:ij 0 h
 fp:∀b,Fp h w b->b<h.size
 ex:∃ver t av sv ev,∃S E:List (List Nat),h.get w=some (dI 6 ver [.agg [sl (p.jo.map iw.t),sl (p.dM.map fT.t),dG t,av,sv,ev]])/\
  Gr h av 11 (A.map dR.t)/\Gr h sv 1 (S.map T.str)/\Gr h ev 1 (E.map T.str)/\S.length<=n/\E.length<=n/\∀b,dU sv=some b->dU ev≠some b
def Wk.ins{k:fM}{a:List dR}{j:Nat}{b:H}{d:Nat}(c:Wk k a j b d)(i:a.length<=1000000):UT b d:=by
 obtain⟨l,o,e,sv,f,n,m,g,h,_⟩:=c.ex;exact⟨l,_,_,_,e,sv,f,a,g,h,i,c.ok⟩
def s7{c:H}{d:Nat}{a:iY}(f:c.get d=some a){v:T}(g:v∈fx a.eZ){b:Nat}(e:dU v=some b):Fp c d b:= .inr ⟨a,f,v,g,e⟩
def Wk.same{m:fM}{h:List dR}{l k:Nat}{c d:H}{g:Nat}(j:Wk m h l c g)(B:l<=k)(w:ij 0 d)(f:∀a,Fp c g a->d.get a=c.get a)(v:c.size<=d.size):Wk m h k d g:=by
 obtain⟨y,x,p,sv,q,o,n,e,r,s,t,z,A,u⟩:=j.ex;have i:=f g (.inl rfl);refine⟨w,λa b=>by rw[iV i]at b;exact bG (j.fp a b) v,y,x,p,sv,q,o,n,by rw[i];exact e,?_,?_,?_,dB,dB,u⟩
 ·exact r.mono λa b=>f a (s7 e (by simp[fx,T.cells]) b)
 ·exact s.mono λa b=>f a (s7 e (by simp[fx,T.cells]) b)
 ·exact t.mono λa b=>f a (s7 e (by simp[fx,T.cells]) b)
def Wk.lt{f:fM}{c:List dR}{e:Nat}{b:H}{a:Nat}(d:Wk f c e b a):a<b.size:=d.fp a (.inl rfl)
def Wk.cons{e:fM}{b:List dR}{d:Nat}{c:H}{w:Nat}(a:Wk e b d c w)(f:iY):Wk e b d (c.cons f) w:=
 a.same (au _) (a.ok.cons f) (λg h=>by rw[dW,ao (by have:=a.fp g h;omega)]) dC 
def Wk.hr{e:fM}{b:List dR}{d:Nat}{a:H}{f:Nat}(c:Wk e b d a f):Wk e b d (TI.hr a) f:=c.same (au _) c.ok.hr (λg _=>gF a g) (au _)
def Wk.out{e:fM}{b:List dR}{d m:Nat}{h a:H}{f:Nat}(c:Wk e b d a f)(i:d<=m):Wk e b m (lM h a) f:=c.same i (c.ok.out h) (λg _=>fQ h a g) (au _)
def Wk.spawn{a:fM}{m:List dR}{k d h:Nat}{c f:H}{g:Int}{e sv b l:T}{j n:List (List Nat)}{w:List Nat}(u:Wk a m k c d)(o:c.get d=some (dI 6 h [.agg [sl (a.jo.map iw.t),sl (a.dM.map fT.t),dG g,e,sv,b]]))
 (gA:Gr c e 11 (m.map dR.t)) (s:Gr c sv 1 (j.map T.str)) (C:Gr c b 1 (n.map T.str)) (F:j.length<=k) (G:n.length<=k) (B:∀r,dU sv=some r->dU b≠some r) (D:Bb c sv 1 (j.map T.str++[.str w]) l f):
 f.get d=some (dI 6 h [.agg [sl (a.jo.map iw.t),sl (a.dM.map fT.t),dG g,e,sv,b]])/\ff c f d=true/\
  Step d c (d8 f d (dI 6 (h+1) [.agg [sl (a.jo.map iw.t),sl (a.dM.map fT.t),dG g,e,l,b]]))/\
  Wk a m (k+1) (d8 f d (dI 6 (h+1) [.agg [sl (a.jo.map iw.t),sl (a.dM.map fT.t),dG g,e,l,b]])) d:=by
 obtain⟨p,E⟩:=wB (i:=4) u.ok u.fp o rfl dF s D.xt;obtain⟨q,z,A,v⟩:=E _ rfl;obtain⟨a1,a2⟩:=v e 11 _ dC gA (s.ne gA dF) dF;obtain⟨x,y⟩:=v b 1 _ dC C B dF;exact⟨p.trans o,fk p,q,⟨q.ok.hp,q.ok.low,aw _⟩,z,h+1,g,e,l,b,j++[w],n,by rw[dQ (p.trans o),aq rfl],a1,by rw[List.map_append];exact A,x,dD,dB,y⟩
def Wk.set{a:fM}{o:List dR}{m c k:Nat}{b h:H}{j:Int}{d sv g n:T}{p l:List (List Nat)}{x:List Nat}(f:Wk a o m b c)(q:b.get c=some (dI 6 k [.agg [sl (a.jo.map iw.t),sl (a.dM.map fT.t),dG j,d,sv,g]]))
 (gA:Gr b d 11 (o.map dR.t)) (D:Gr b sv 1 (p.map T.str)) (v:Gr b g 1 (l.map T.str)) (G:p.length<=m) (I:l.length<=m) (C:∀e,dU sv=some e->dU g≠some e) (E:Bb b g 1 (l.map T.str++[.str x]) n h):
 h.get c=some (dI 6 k [.agg [sl (a.jo.map iw.t),sl (a.dM.map fT.t),dG j,d,sv,g]])/\ff b h c=true/\
  Step c b (d8 h c (dI 6 (k+1) [.agg [sl (a.jo.map iw.t),sl (a.dM.map fT.t),dG j,d,sv,n]]))/\
  Wk a o (m+1) (d8 h c (dI 6 (k+1) [.agg [sl (a.jo.map iw.t),sl (a.dM.map fT.t),dG j,d,sv,n]])) c:=by
 obtain⟨s,F⟩:=wB (i:=5) f.ok f.fp q rfl dF v E.xt;obtain⟨u,A,B,w⟩:=F _ rfl;obtain⟨a1,a2⟩:=w d 11 _ dC gA (v.ne gA dF) dF;obtain⟨y,z⟩:=w sv 1 _ dC D (λe r f=>C e f r) dF;exact⟨s.trans q,fk s,u,⟨u.ok.hp,u.ok.low,aw _⟩,A,k+1,j,d,sv,n,p,l++[x],by rw[dQ (s.trans q),aq rfl],a1,y,by rw[List.map_append];exact B,dB,dD,λe r f=>z e f r⟩
def Wk.Xh{a:fM}{h:List dR}{k d g:Nat}{c e:H}{f:Int}{j sv b l:T}{n m:List (List Nat)}{x:dR}(v:Wk a h k c d)(o:c.get d=some (dI 6 g [.agg [sl (a.jo.map iw.t),sl (a.dM.map fT.t),dG f,j,sv,b]]))
 (gA:Gr c j 11 (h.map dR.t)) (u:Gr c sv 1 (n.map T.str)) (s:Gr c b 1 (m.map T.str)) (B:n.length<=k) (C:m.length<=k) (D:∀r,dU sv=some r->dU b≠some r) (E:Bb c j 11 (h.map dR.t++[x.t]) l e):
 e.get d=some (dI 6 g [.agg [sl (a.jo.map iw.t),sl (a.dM.map fT.t),dG f,j,sv,b]])/\ff c e d=true/\
  Step d c (d8 e d (dI 6 (g+1) [.agg [sl (a.jo.map iw.t),sl (a.dM.map fT.t),dG f,l,sv,b]]))/\
  Wk a (h++[x]) k (d8 e d (dI 6 (g+1) [.agg [sl (a.jo.map iw.t),sl (a.dM.map fT.t),dG f,l,sv,b]])) d:=by
 obtain⟨p,F⟩:=wB (i:=3) v.ok v.fp o rfl dF gA E.xt;obtain⟨q,z,A,w⟩:=F _ rfl;obtain⟨a1,a2⟩:=w sv 1 _ dC u (gA.ne u dF) dF;obtain⟨y,G⟩:=w b 1 _ dC s (gA.ne s dF) dF;exact⟨p.trans o,fk p,q,⟨q.ok.hp,q.ok.low,aw _⟩,z,g+1,f,l,sv,b,n,m,by rw[dQ (p.trans o),aq rfl],by rw[List.map_append];exact A,a1,y,B,C,D⟩
def Wk.back{b:fM}{p:List dR}{o i k:Nat}{d:H}{j:Int}{m sv f h:T}{r q:List (List Nat)}{G:dR}(g:Wk b (p++[G]) o d i)(c:d.get i=some (dI 6 k [.agg [sl (b.jo.map iw.t),sl (b.dM.map fT.t),dG j,m,sv,f]]))
 (E:Gr d sv 1 (r.map T.str)) (D:Gr d f 1 (q.map T.str)) (A:r.length<=o) (B:q.length<=o) (C:∀e,dU sv=some e->dU f≠some e) (gA:Gr d h 11 (p.map dR.t)) (n:dU h=dU m):
   Step i d (d8 d i (dI 6 (k+1) [.agg [sl (b.jo.map iw.t),sl (b.dM.map fT.t),dG j,h,sv,f]]))/\
   Wk b p o (d8 d i (dI 6 (k+1) [.agg [sl (b.jo.map iw.t),sl (b.dM.map fT.t),dG j,h,sv,f]])) i:=by
 have w:=Step.put g.ok c (dI 6 (k+1) [.agg [sl (b.jo.map iw.t),sl (b.dM.map fT.t),dG j,h,sv,f]]) (λv l e a=>by
  simp[fx,T.cells]at l;rcases l with rfl|rfl|rfl|rfl|rfl|rfl
  ·simp at a
  ·simp at a
  ·simp at a
  ·exact .inl (s7 c (v:=m) (by simp[fx,T.cells]) (by rw[<-n];exact a))
  ·exact .inl (s7 c (v:=v) (by simp[fx,T.cells]) a)
  ·exact .inl (s7 c (v:=v) (by simp[fx,T.cells]) a))
 have u:∀{v:T} {x:Nat} {y:List T},Gr d v x y->x≠6->Gr (d8 d i (dI 6 (k+1) [.agg [sl (b.jo.map iw.t),sl (b.dM.map fT.t),dG j,h,sv,f]])) v x y:=λz F=>z.mono λe n=>by
  obtain⟨_,_,_,_,a,_⟩:=z.box n;rw[dQ c,ao (λg=>by subst g;rw[c]at a;simp at a;exact F a.1.symm)]
 refine⟨w,⟨w.ok.hp,w.ok.low,aw _⟩,λe a=> ?_,k+1,j,h,sv,f,r,q,by rw[dQ c,aq rfl],u gA dF,u E dF,u D dF,A,B,C⟩;rw[fV];rcases a with rfl|⟨I,s,v,l,a⟩
 ·exact g.lt
 rw[dQ c,aq rfl]at s;simp only[ar]at s;subst s;simp[fx,T.cells]at l;rcases l with rfl|rfl|rfl|rfl|rfl|rfl
 ·simp at a
 ·simp at a
 ·simp at a
 ·exact g.fp e (s7 c (v:=m) (by simp[fx,T.cells]) (by rw[<-n];exact a))
 ·exact g.fp e (s7 c (v:=v) (by simp[fx,T.cells]) a)
 ·exact g.fp e (s7 c (v:=v) (by simp[fx,T.cells]) a)
def Wk.dZ{b:fM}{n:List dR}{m h k:Nat}{d:H}{G:Int}{f sv e:T}{p o:List (List Nat)}(l:Wk b n m d h)(g:d.get h=some (dI 6 k [.agg [sl (b.jo.map iw.t),sl (b.dM.map fT.t),dG G,f,sv,e]]))
 (gA:Gr d f 11 (n.map dR.t)) (D:Gr d sv 1 (p.map T.str)) (C:Gr d e 1 (o.map T.str)) (z:p.length<=m) (A:o.length<=m) (B:∀c,dU sv=some c->dU e≠some c) (j:Int):
   Step h d (d8 d h (dI 6 (k+1) [.agg [sl (b.jo.map iw.t),sl (b.dM.map fT.t),dG j,f,sv,e]]))/\
   Wk b n m (d8 d h (dI 6 (k+1) [.agg [sl (b.jo.map iw.t),sl (b.dM.map fT.t),dG j,f,sv,e]])) h:=by
 have y:∀v∈ [sl (b.jo.map iw.t),sl (b.dM.map fT.t),dG j,f,sv,e],∀c,dU v=some c->Fp d h c:=λv i c a=>by
  simp at i;rcases i with rfl|rfl|rfl|rfl|rfl|rfl
  ·simp at a
  ·simp at a
  ·simp at a
  ·exact s7 g (v:=v) (by simp[fx,T.cells]) a
  ·exact s7 g (v:=v) (by simp[fx,T.cells]) a
  ·exact s7 g (v:=v) (by simp[fx,T.cells]) a
 have s:=Step.put l.ok g (dI 6 (k+1) [.agg [sl (b.jo.map iw.t),sl (b.dM.map fT.t),dG j,f,sv,e]]) (λv i c a=> .inl (y v (by simpa[fx,T.cells]using i) c a));have r:∀{v:T} {u:Nat} {w:List T},Gr d v u w->u≠6->Gr (d8 d h (dI 6 (k+1) [.agg [sl (b.jo.map iw.t),sl (b.dM.map fT.t),dG j,f,sv,e]])) v u w:=λx F=>x.mono λc E=>by
  obtain⟨_,_,_,_,a,_⟩:=x.box E;rw[dQ g,ao (λl=>by subst l;rw[g]at a;simp at a;exact F a.1.symm)]
 refine⟨s,⟨s.ok.hp,s.ok.low,aw _⟩,λc a=> ?_,k+1,j,f,sv,e,p,o,by rw[dQ g,aq rfl],r gA dF,r D dF,r C dF,z,A,B⟩;rw[fV];rcases a with rfl|⟨I,q,v,i,a⟩
 ·exact l.lt
 rw[dQ g,aq rfl]at q;simp only[ar]at q;subst q;exact l.fp c (y v (by simpa[fx,T.cells]using i) c a)
structure Xr where
 (p:fM) (A:List dR) (n w:Nat) (s:dR)
def Vr(a:Xr)(c:List T)(d:H):Prop:=c=[.ptr a.w 0 0 0,a.s.t]/\Wk a.p a.A a.n d a.w/\Rz a.p/\a.n<=10000000/\a.s.w<=1000000/\a.A.length<=1000000/\
 (9<=a.s.op/\a.s.op<=11->∃b,b<a.p.jo.length/\sd (a.p.jo.map iw.name) a.s.name 0=b)
def KN(a:Xr)(e:List T)(c:H)(d:T)(b:H):Prop:=EL d/\Step a.w c b/\Wk a.p a.A (a.n+1) b a.w
noncomputable abbrev ZV:kU:=jF Xr Vr KN
def aag:ZV.Ok Tryz.prog cx 193:=by
 obtain⟨K,cX⟩:=hlB OX (λ_ _ _ _ o=>o);refine jv (tb:=⟨pt [(228,zO.jx),(229,Cb.jx),(227,VC.jx),(230,Et.jx),(110,Bf),(191,nd),(192,lf)],ht [(226,Fb)]⟩) fc fa (je 14474012017383023515249485065460760621927424225494418519668988771800801378299 [(1,[(7,9)]),(8,[(4,5),(4,8)]),(9,[(4,5),(4,8),(4,9),(4,10),(4,12),(11,12),(4,15),(11,15)]),(28,[(2,7)]),(49,[(4,5),(4,8)])] Tryz.func193) (λ_ _=>5) (λi l h c7=>by obtain⟨rfl,_⟩:=c7;simp[Tryz.f193]) ?_;rintro⟨d,A,n,f,a⟩ _ h ⟨rfl,k,y,c6,c9,bk,bs⟩ er bn;simp only at k y c6 c9 bk bs;simp at bn;obtain⟨F,cL⟩:=bn;have s:=(k.hr.cons (dI 11 0 [a.t])).cons (dI 2 1 [d.t]);have H:Step f h (lM h (((hr h).cons (dI 11 0 [a.t])).cons (dI 2 1 [d.t]))):=
  ((Step.cons k.ok.hr k.lt _).trans (Step.cons (k.hr.cons _).ok (k.hr.cons _).lt _)).out
 have dk:Step f (hr h) (((hr h).cons (dI 11 0 [a.t])).cons (dI 2 1 [d.t])):=(Step.cons k.ok.hr k.lt _).trans (Step.cons (k.hr.cons _).ok (k.hr.cons _).lt _);have I:=s.out (h:=h) (m:=n+1) dB;have M:∀o:Int,9<=o/\o<=11->decide (a.op=o)=true->∃m:Nat,m<d.jo.length/\sd (d.jo.map iw.name) a.name 0=m:=λo eb N=>bs (by simp at N;omega);have Y:=λ{tb:fN} (ht:tb.h 226=some Fb) l b z=>cX ht [.ptr f 0 0 0,dG l,dG b,.str z] _ ⟨f,l,b,z,rfl,s.ins bk⟩;have ec:=k.lt;have bu:(f=h.size)=False:=dD;have bz:(f=h.size+1)=False:=dD;have cp:(((hr h).cons (dI 11 0 [a.t])).cons (dI 2 1 [d.t])).get f=h.get f:=by simp[bu,bz]
 obtain⟨eo,z,bN,sv,ca,S,E,w,gA,bi,a8,aN,aX,a6⟩:=s.ex;have aE:=cp.symm.trans w;have ce:=bi.rn dC;have cb:=a8.rn dC;have b8:=λ{tb:fN} (h:tb.p 110=some Bf) x=>Nr h S x dB;have b7:=λ{tb:fN} (h:tb.p 110=some Bf) x=>Nr h E x dB;obtain⟨Nw,R⟩:=zO.fnI (λc:List Nat×Int×Int=>(d,z,c)) (λ_=>y);have R:=λ{tb:fN} (ht:tb.p 228=some zO.jx) x l b=>R ht (x,l,b);obtain⟨dn,av⟩:=Et.fnI (λb:Bool=>b) (λ_=>trivial);have Q:∀{tb:fN},tb.p 227=some VC.jx->∀l b,rl Tryz.prog cx tb 227 [dG l,dG b]=some (dG (if l=0 then b else l)):=λht l b=>by
  obtain⟨_,rfl,N⟩:=VC.use (l,b) trivial;exact N ht
 have dd:=a.lr;obtain⟨_,⟨ef,rfl⟩,P⟩:=Cb.use (d,z,a.e) ⟨y,dE⟩;have eT:=λ{tb:fN} (h:tb.p 192=some lf) x=>wL h d.dM x (by have:=y.2.1;omega);have b6:=λ{tb:fN} (h:tb.p 191=some nd) x=>Bv h d.jo x (by have:=y.1;omega);simp[Tryz.f193,F,cL,aE,bu,bz,Y];have u:(((hr h).cons (dI 11 0 [a.t])).cons (dI 2 1 [d.t])).get h.size=some (dI 11 0 [a.t]):=dC;have L:(((hr h).cons (dI 11 0 [a.t])).cons (dI 2 1 [d.t])).get (h.size+1)=some (dI 2 1 [d.t]):=dC;have G:(((hr h).cons (dI 11 0 [a.t])).cons (dI 2 1 [d.t])).size=h.size+2:=dC;generalize(((hr h).cons (dI 11 0 [a.t])).cons (dI 2 1 [d.t]))=j at*
 generalize K [T.ptr f 0 0 0,T.int IntKind.i64 7,T.int IntKind.i64 7,T.str []] j=ds;generalize K [T.ptr f 0 0 0,T.int IntKind.i64 8,T.int IntKind.i64 8,T.str []] j=dv;generalize K [T.ptr f 0 0 0,T.int IntKind.i64 3,T.int IntKind.i64 3,T.str []] j=ea;have U:=(show(j.cons (dI 1 0 [.str a.name])).get f=j.get f from by rw[dW,ao dB]).trans w;have J:=s.cons (dI 1 0 [.str a.name]);have bC:=dk.trans (Step.cons s.ok s.lt (dI 1 0 [.str a.name]));have X:∀{v:T} {bH:Nat} {aA:List T},v=bN\/v=sv\/v=ca->Gr j v bH aA->Gr (j.cons (dI 1 0 [.str a.name])) v bH aA:=λde g=>g.mono λb bp=>by
  have:b<j.size:=s.fp b (s7 w (v:=_) (by rcases de with rfl|rfl|rfl<;>simp[fx,T.cells]) bp);rw[dW,ao dB]
 have W:=X dC bi;have V:=X dC a8;have a7:=X dC gA
 repeat' (refine em (λq=> ?_) (λq=> ?_)<;>simp[q,F,w,u,L,Y,R,av,Q,P,eT,b6,KN,H,I])
 ·cases Z:a.index with
  |nil=>rename_i q;simp[Z]at q
  |cons x r=>
   obtain⟨_,⟨eh,rfl⟩,b9⟩:=Cb.use (d,z,x) ⟨y,by simp only;rw[Z,dX.j9]at dd;omega⟩;simp[u,L,Q,P,H,I,Z,b9]
 iterate 3
  ·obtain⟨m,c1,c4⟩:∃m,m<d.jo.length/\sd (d.jo.map iw.name) a.name 0=m:=by first|exact M 9 dB (by assumption)|exact M 10 dB (by assumption)|exact M 11 dB (by assumption)
   simp[u,Y,av,H,I,c1,c4]
 ·simp[ce,b8];refine em (λq=> ?_) (λq=> ?_)
  ·simp[H,I]
  obtain⟨dm,cy,O,B⟩:=W.app (cx:=cx) J.ok (x:= .arr (h.size+2) 0 0 1 false) (xs:=[.str a.name]) qx rfl wa qx rfl rfl dC (by rw[gH];simp[G]) (by simp[T.cells]) dC dD;obtain⟨ae,di,D,al⟩:=J.spawn U a7 W V aN aX a6 B;have C:=B.gr;have an:=(bC.trans D).out;have ap:=al.out (h:=h) (au _);simp[F,w,u,G,O,ae,C.im,C.cells,ed,an,ap]
 ·obtain⟨dm,cy,O,B⟩:=V.app (cx:=cx) J.ok (x:= .arr (h.size+2) 0 0 1 false) (xs:=[.str a.name]) qx rfl wa qx rfl rfl dC (by rw[gH];simp[G]) (by simp[T.cells]) dC dD;obtain⟨ae,di,D,al⟩:=J.set U a7 W V aN aX a6 B;have C:=B.gr;have an:=(bC.trans D).out;have ap:=al.out (h:=h) (au _);have bB:∀b,h.size<=b->¬Fp (j.cons (dI 1 0 [.str a.name])) f b:=λb bp o=>by rw[iV (U.trans aE.symm)]at o;have:=k.fp b o;omega
  have bS:=(D.get h.size dD (bB _ (au _))).trans ((show(j.cons (dI 1 0 [.str a.name])).get h.size=j.get h.size by rw[dW,ao dB]).trans u);have bT:=(D.get (h.size+1) dD (bB _ dB)).trans ((show(j.cons (dI 1 0 [.str a.name])).get (h.size+1)=j.get (h.size+1)by rw[dW,ao dB]).trans L);simp[cb,b7];refine em (λq=> ?_) (λq=> ?_)<;>simp[F,w,u,G,O,ae,C.im,C.cells,ed,an,ap,bS,bT,P,Q]
structure Kt where
 (p:fM) (A:List dR) (n w:Nat) (l:List dR)
def Fe(a:Kt)(c:List T)(d:H):Prop:=c=[.ptr a.w 0 0 0,sl (a.l.map dR.t)]/\Wk a.p a.A a.n d a.w/\Rz a.p/\a.n+dR.ws a.l<=10000000/\dR.ws a.l<=1000000/\a.A.length<=6/\(∀e∈a.l,MS e)/\
 ∃b,b<a.p.jo.length/\sd (a.p.jo.map iw.name) [99] 0=b
def yv(a:Kt)(e:List T)(c:H)(d:T)(b:H):Prop:=HP d/\Step a.w c b/\Wk a.p a.A (a.n+dR.ws a.l) b a.w
def QN(A:Nat)(bB:(jF Kt (λf a m=>Fe f a m/\dR.ws f.l<A) yv).Ok Tryz.prog cx 145):(jF Kt (λf a m=>Fe f a m/\dR.ws f.l<A+1) yv).Ok Tryz.prog cx 145:=by
 refine jv (tb:=⟨pt [],ht [(193,ZV),(145,jF Kt (λf a m=>Fe f a m/\dR.ws f.l<A) yv)]⟩) fc fa (je 151115745466229840684019 [(10,[(8,12),(9,12)])] Tryz.func145) (λ_ _=>1000005) (λf a m di=>by obtain⟨⟨rfl,_⟩,_⟩:=di;simp[Tryz.f145]) ?_;rintro⟨I,c,n,j,l⟩ _ m ⟨⟨rfl,aX,O,de,dn,c7,bn,N⟩,dd⟩ B bp;simp only at aX O de dn c7 bn N dd;simp at bp;obtain⟨i,w⟩:=bp;have hl:=dR.uN (l:=l);simp[Tryz.f145];refine fI l.length dB (λA B F=>Step j (hr m) F/\Wk I c (n+dR.ws (l.take A)) F j/\dJ B 0 (.ptr j 0 0 0)/\dJ B 1 (sl (l.map dR.t))/\dJ B 6 (dG A)) ?_ ?_ dB (by simp[i,w,dR.iQ,aX.hr,Step.refl aX.ok.hr])
 ·rintro f B F ap bs ⟨aA,s,i,w,G⟩;have bz:=dR.E3 l ap;have eD:=dR.xw l (f+1);have av:=bn l[f] (aC ap);simp[i,w,G,ap,s.ok.low];generalize l[f]=d at*
  have eC:=d.lr;refine iu aag dC ⟨I,c,n+dR.ws (l.take f),j,d⟩ ⟨rfl,s.cons _,O,dE,dE,dE,λq=>by simp only;rw[av.cond q];exact N⟩ ?_;rintro _ p ⟨⟨e,rfl⟩,aE,k⟩;simp only at aE k;have H:=(Lb.new s.lt s.fp (dI 11 1 [d.t])).step aE;have bS:=(aA.trans (Step.cons s.ok s.lt _)).trans aE;obtain⟨eL,t,b9,sv,cb,S,E,K,gA,c4,c1,cy,cL,cX⟩:=k.ex;have bk:∀r,HP r->yv ⟨I,c,n,j,l⟩ [.ptr j 0 0 0,sl (l.map dR.t)] m r (lM m p):=λr hr=>⟨hr,bS.out,k.out dE⟩;have ae:=iy (a:=(c.length:Int)) (b:=1) dB dB;simp[i,K,gA.len (cx:=cx),ae];refine em (λo=> ?_) (λo=> ?_)
  ·simp[H.get];exact bk _ dC
  have eA:c.length<=5:=by simp at o;omega
  simp;refine em (λo=> ?_) (λo=> ?_)
  ·simp[H.get];exact bk _ dC
  have eE:(j=p.size)=False:=by simp;have:=k.lt;omega
  have ey:(F.size=p.size)=False:=by simp;have:=H.lt;omega
  have b6:=k.cons (dI 11 0 [.agg [dG 0,dG 0,.str [],.str [],dH,dG 0,dG 0,.str [],dH,dH,dH]]);have dv:=bS.trans (Step.cons k.ok k.lt (dI 11 0 [.agg [dG 0,dG 0,.str [],.str [],dH,dG 0,dG 0,.str [],dH,dH,dH]]));have cp:=(show(p.cons (dI 11 0 [.agg [dG 0,dG 0,.str [],.str [],dH,dG 0,dG 0,.str [],dH,dH,dH]])).get j=p.get j by rw[dW,ao (by have:=k.lt;omega)]).trans K;have L:∀{v:T} {bT:Nat} {bi:List T},v=b9\/v=sv\/v=cb->Gr p v bT bi->Gr (p.cons (dI 11 0 [.agg [dG 0,dG 0,.str [],.str [],dH,dG 0,dG 0,.str [],dH,dH,dH]])) v bT bi:=λdm g=>g.mono λb ae=>by
   have:b<p.size:=k.fp b (s7 K (v:=_) (by rcases dm with rfl|rfl|rfl<;>simp[fx,T.cells]) ae);rw[dW,ao dB]
  obtain⟨Q,eu,a8,a7⟩:=(L dC gA).app (cx:=cx) b6.ok (x:= .arr p.size 0 0 1 false) (xs:=[.agg [dG 0,dG 0,.str [],.str [],dH,dG 0,dG 0,.str [],dH,dH,dH]]) yU rfl yS yU rfl rfl dC (by rw[gH];simp) (by simp[T.cells]) dC dD;obtain⟨b,er,eM,et,rfl,M,eB⟩:=id a7;have a2:=a7.set M c.length d.t;have dk:(List.map dR.t c++[T.agg [dG 0,dG 0,.str [],.str [],dH,dG 0,dG 0,.str [],dH,dH,dH]]).set c.length d.t=List.map dR.t c++[d.t]:=dC;rw[dk]at a2;simp only[aU,aG,bh,cZ]at a2 a8;obtain⟨P,eI,bH,ds⟩:=b6.Xh cp (L dC gA) (L dC c4) (L dC c1) cy cL cX a2;have bu:b≠j:=λq=>by subst q;rw[dQ M,aq rfl]at P;simp at P
  have bC:=(H.step (Step.cons k.ok k.lt _)).step bH;simp[i,K,H.get,gA.len (cx:=cx),a8,M,ed,P,Az P _ bu,Az M _ (bm bu),bC.get];refine iu bB dC ⟨I,c++[d],n+dR.ws (l.take f)+1,j,d.body⟩ ⟨⟨rfl,ds,O,dE,dE,dD,av.bd,N⟩,dE⟩ ?_;rintro _ c6 ⟨⟨eh,eF,rfl⟩,aN,a6⟩;simp only at aN a6;have ea:=dv.trans bH;have l4:=bC.step aN;have GN:=ea.trans aN;simp;refine em (λo=> ?_) (λo=> ?_)
  ·simp[i,l4.get];refine iu bB dC ⟨I,c++[d],n+dR.ws (l.take f)+1+dR.ws d.body,j,d.MW⟩ ⟨⟨rfl,a6,O,dE,dE,dD,av.el,N⟩,dE⟩ ?_;rintro _ Z ⟨⟨eo,eH,rfl⟩,bN,C⟩;simp only at bN C;replace GN:=GN.trans bN;simp[i];obtain⟨ef,ec,ca,eb,ce,b8,b7,u,D,Y,X,U,V,W⟩:=C.ex;obtain⟨Q,R,h,al⟩:=D.cut (cx:=cx) (ty:=GI) (te:=GH) rfl yS rfl (n:=c.length) dC dC;have h:Gr Z Q 11 (c.map dR.t):=by rw[List.map_append,db dC]at h;rwa[bJ dC]at h
   obtain⟨J,z⟩:=C.back u Y X U V W h al;have c9:(c++[d]).length=c.length+1:=dC;have y:=kN (a:=((c++[d]).length:Int)) (b:=1) dB dB;have an:((c++[d]).length:Int)-1=(c.length:Int):=dC;rw[an]at y;simp[i,u,D.len (cx:=cx)];simp at y;simp[y,R,h.im,h.cells,ed,u];refine em (λo=> ?_) (λo=> ?_)
   ·simp;exact⟨dC,(GN.trans J).out,z.out dE⟩
   ·simp[i,w,G,bs];exact⟨GN.trans J,by rw[bz];exact z.same dB z.ok (λ_ _=>rfl) (au _)⟩
  ·have C:=a6;generalize c6=Z at*
   simp[i];obtain⟨ef,ec,ca,eb,ce,b8,b7,u,D,Y,X,U,V,W⟩:=C.ex;obtain⟨Q,R,h,al⟩:=D.cut (cx:=cx) (ty:=GI) (te:=GH) rfl yS rfl (n:=c.length) dC dC;have h:Gr Z Q 11 (c.map dR.t):=by rw[List.map_append,db dC]at h;rwa[bJ dC]at h
   obtain⟨J,z⟩:=C.back u Y X U V W h al;have c9:(c++[d]).length=c.length+1:=dC;have y:=kN (a:=((c++[d]).length:Int)) (b:=1) dB dB;have an:((c++[d]).length:Int)-1=(c.length:Int):=dC;rw[an]at y;simp[i,u,D.len (cx:=cx)];simp at y;simp[y,R,h.im,h.cells,ed,u];refine em (λo=> ?_) (λo=> ?_)
   ·simp;exact⟨dC,(GN.trans J).out,z.out dE⟩
   ·simp[i,w,G,bs];exact⟨GN.trans J,by rw[bz];exact z.same dB z.ok (λ_ _=>rfl) (au _)⟩
 ·rintro B F ⟨aA,s,i,w,G⟩;rw[aL]at s;simp[w,G];exact⟨dC,aA.out,s.out (au _)⟩
def Ev:nK Tryz.prog cx 142 (λa:List iw=>[sl (a.map iw.t)]) (λa=>a.length<=1000000) (λ_=>HP):=by
 refine ju (tb:=⟨pt [(191,nd)],ht []⟩) fc fa (je 1242795222330225588904675325 [] Tryz.func142) (λG=>1000005) (λA B c=>jy (λ_ _=>iw.inj) (by simpa using c)) dC (by simp[Tryz.f142]) ?_;rintro a hl b r;simp at r;simp[Tryz.f142];refine fI a.length dB (λx b c=>ij 0 c/\dJ b 0 (sl (a.map iw.t))/\(∃d,dJ b 4 (dG d))/\(∃d,dJ b 5 (dG d))/\(∃d,dJ b 6 (dG d))/\(∃d,dJ b 7 (dG d))/\dJ b 8 (dG x)) ?_ ?_ dB (by simp[r];exact⟨dC,dC,dC⟩)
 ·rintro i b c j s ⟨e,f,⟨C,m⟩,⟨D,n⟩,⟨E,o⟩,⟨F,q⟩,g⟩;have l:=λ{tb:fN} (c:tb.p 191=some nd) z=>Bv c (a.take i) z (by rw[List.length_take];omega);simp[f,g,j,e.low,l,bD j];rcases Gv ((a.take i).map iw.name) a[i].on 0 with k|⟨y,v,k⟩
  ·generalize a[i]=u at*
   repeat' (refine em (λh=> ?_) (λh=> ?_)<;>simp[h,f,m,n,o,q,g,e.hp,e.cons,l,bD j,oh,s,k])
  ·simp at v k;have w:y<a.length:=dB;generalize a[i]=u at*
   repeat' (refine em (λh=> ?_) (λh=> ?_)<;>simp[h,f,m,n,o,q,g,e.hp,e.cons,l,bD j,oh,s,k,w])
 ·rintro b c ⟨e,f,_,_,_,_,g⟩;simp[f,g,e.hp]
def Jp(a:fM):Prop:=Rz a/\(a.dM.map λb=>dR.ws b.body).sum<=1000000/\(∀b∈a.dM,∀d∈b.body,MS d)/\∃c,c<a.jo.length/\sd (a.jo.map iw.name) [99] 0=c
def pT(a:List fT):Nat:=(a.map λb=>dR.ws b.body).sum
def j2:nK Tryz.prog cx 93 (λa:fM=>[a.t]) Jp (λ_=>HP):=by
 have av:=wQ (λi:Kt=>dR.ws i.l) QN 1000001;refine ju (tb:=⟨pt [(141,Hj.jx),(142,Ev.jx),(143,AG.jx),(144,KU.jx)],ht [(145,jF Kt (λi B b=>Fe i B b/\dR.ws i.l<1000001) yv)]⟩) fc fa (je 19342850151455133005856767 [] Tryz.func93) (λa=>1000005) (λB j b=>by simp at b;exact fM.inj b) dC (by simp[Tryz.f93]) ?_;rintro a ⟨m,an,Y,Z⟩ d D;simp at D;obtain⟨_,⟨aX,rfl⟩,L⟩:=Hj.use a m;obtain⟨_,⟨bi,bn,rfl⟩,M⟩:=Ev.use a.jo m.1;obtain⟨_,⟨bk,bp,rfl⟩,N⟩:=AG.use a m;have hl:=m.2.1;simp[Tryz.f93,D,L];refine em (λf=> ?_) (λf=> ?_)
 ·simp
 simp[M];refine em (λf=> ?_) (λf=> ?_)
 ·simp
 simp;refine em (λf=> ?_) (λf=> ?_)
 ·simp
 simp[N];refine em (λf=> ?_) (λf=> ?_)
 ·simp
 simp;refine fI a.dM.length dB (λo d b=>b=hE.cons (dI 2 0 [a.t])/\dJ d 1 (.ptr 0 0 0 0)/\(∃q,dJ d 8 (dG q))/\dJ d 9 (dG o)) ?_ ?_ dB dC
 ·rintro i d b k x ⟨rfl,g,⟨q,u⟩,w⟩;obtain⟨_,⟨c,rfl⟩,O⟩:=KU.use a.dM[i].body (by have:=(m.2.2 _ (aC k)).2;omega);simp[g,u,w,k,O,oh,x]
 rintro d b ⟨rfl,g,⟨q,u⟩,w⟩;simp[g,u,w];refine em (λf=> ?_) (λf=> ?_)
 ·simp
 simp[g];have al:∀{i:Nat} (H:i<a.dM.length),pT (a.dM.take (i+1))=pT (a.dM.take i)+dR.ws a.dM[i].body:=λ{i} H=>by
  unfold pT;rw[aW H,List.map_append,List.sum_append];simp
 have ae:∀i,pT (a.dM.take i)<=1000000:=λi=>by
  have:pT a.dM<=1000000:=an;have X:pT a.dM=pT (a.dM.take i)+pT (a.dM.drop i):=by unfold pT;rw[<-List.sum_append,<-List.map_append,cR]
  omega
 refine fI a.dM.length dB (λo d b=>Wk a [] (pT (a.dM.take o)) b 1/\Lb 1 b 0 (dI 2 0 [a.t])/\dJ d 1 (.ptr 0 0 0 0)/\dJ d 10 (.ptr 1 0 0 0)/\dJ d 11 (dG o)) ?_ ?_ dB ?_
 ·rintro i d b k x ⟨r,p,g,s,n⟩;have W:=al k;have a7:=ae (i+1);obtain⟨a8,t,aN,sv,a6,S,E,C,gA,V,U,P,Q,R⟩:=r.ex;obtain⟨aA,aE⟩:=r.dZ C gA V U P Q R i;have J:=p.step aA;simp[p.get,g,s,n,k,C,ed,J.get];refine iu av dC ⟨a,[],pT (a.dM.take i),1,a.dM[i].body⟩ ⟨⟨rfl,aE,m,dE,dE,dC,Y _ (aC k),Z⟩,dE⟩ ?_;rintro _ X ⟨⟨e,q,rfl⟩,K,A⟩;simp only at K A;have ap:=J.step K;simp;refine em (λf=> ?_) (λf=> ?_)
  ·simp[A.ok.hp]
  ·simp[g,s,n,x];exact⟨by rw[W];exact A,ap⟩
 ·rintro d b ⟨r,p,g,s,n⟩;simp[p.get,g,n,r.ok.hp]
 ·have G:((hE.cons (dI 2 0 [a.t])).cons (dI 6 0 [.agg [sl (a.jo.map iw.t),sl (a.dM.map fT.t),dG 0,dH,dH,dH]])).get 1=some (dI 6 0 [.agg [sl (a.jo.map iw.t),sl (a.dM.map fT.t),dG 0,dH,dH,dH]]):=dC;have F:∀j,Fp ((hE.cons (dI 2 0 [a.t])).cons (dI 6 0 [.agg [sl (a.jo.map iw.t),sl (a.dM.map fT.t),dG 0,dH,dH,dH]])) 1 j->j=1:=λj h=>by
   rcases h with rfl|⟨z,y,v,I,h⟩
   ·rfl
   ·rw[G]at y;simp only[ar]at y;subst y;simp[fx,T.cells]at I;rcases I with rfl|rfl|rfl|rfl|rfl|rfl<;>simp at h
  simp[g];exact⟨⟨⟨dC,dC,dC⟩,λj h=>by rw[F j h];simp,0,0,_,_,_,[],[],G,Gr.nil _ _,Gr.nil _ _,Gr.nil _ _,dC,dC,dC⟩,dC,λh=>absurd (F 0 h) dF⟩
structure ISi where
 (O:List iI) (v:T) (t n:Int) (l:List dR)
def Z6(a:ISi)(c:List T)(b:H):Prop:=c=[a.v,dG a.t,dG a.n,sl (a.l.map dR.t)]/\Gr b a.v 3 (a.O.map iI.t)/\ij 0 b/\a.O.length+dR.ws a.l<=10000000
def Vu(a:ISi)(h:List T)(d:H)(g:T)(e:H):Prop:=∃c f,∃b:List iI,g= .tuple [c,dG f]/\b.length<=a.O.length+dR.ws a.l/\Xt d a.v 3 (b.map iI.t) c e
abbrev ZU(d:Nat):kU:=jF ISi (λa b c=>Z6 a b c/\dR.ws a.l<d) Vu
def IZ(y:Nat)(C:(ZU y).Ok Tryz.prog cx 147):(ZU (y+1)).Ok Tryz.prog cx 147:=by
 refine jv (tb:=⟨pt [],ht [(147,ZU y)]⟩) fc fa (je 18191 [] Tryz.func147) (λ_ _=>10000005) (λa U k K=>by obtain⟨⟨rfl,_⟩,_⟩:=K;simp[Tryz.f147]) ?_;rintro⟨u,s,n,L,l⟩ _ k ⟨⟨rfl,z,N,J⟩,I⟩ c A;simp only at z J I;simp at A;obtain⟨m,d,h,b⟩:=A;have hl:=dR.uN (l:=l);have S:Xt (hr k) s 3 (u.map iI.t) s (hr k):=Xt.refl (z.mono λF _=>gF k F) N.hr;simp[Tryz.f147];refine fI l.length dB (λa c v=>∃o i,∃e:List iI,dJ c 0 o/\dJ c 1 (dG n)/\dJ c 2 (dG i)/\dJ c 3 (sl (l.map dR.t))/\dJ c 10 (dG a)/\e.length<=u.length+dR.ws (l.take a)/\Xt (hr k) s 3 (e.map iI.t) o v) ?_ ?_ dB ⟨s,L,u,by simp[m,d,h,b,S]⟩
 ·rintro a c v x H ⟨o,i,e,m,d,h,b,g,w,j⟩;have ae:=dR.E3 l x;have Z:=dR.xw l (a+1);obtain⟨Q,V,G,p⟩:=j.1.nq (cx:=cx) (f:=iI.t) ⟨j.2.2.2.hp,j.2.2.2.low,aw _⟩ Wy rfl SN rfl dC dC (⟨n,i,l[a].uL⟩:iI) dD;simp[m,d,h,b,g,x];have B:l[a]? =some l[a]:=aB x;generalize l[a]=r at*
  have Y:=r.lr;simp[d,h,b,g,G,oh,B,p.1.rn,Be];refine iu C dC ⟨e++[⟨n,i,r.uL⟩],Q,n,_,r.body⟩ ⟨⟨rfl,p.1,⟨p.2.2.2.hp,p.2.2.2.low,aw _⟩,dD⟩,dE⟩ ?_;rintro _ W ⟨R,M,D,rfl,O,q⟩;simp only[aU,List.length_singleton]at O;simp[d,b,g,B,q.1.rn,Be];refine iu C dC ⟨D,R,n,M,r.MW⟩ ⟨⟨rfl,q.1,⟨q.2.2.2.hp,q.2.2.2.low,aw _⟩,dE⟩,dE⟩ ?_;rintro _ X ⟨an,al,E,rfl,P,T⟩;simp only at P;simp[d,b,g,H];exact⟨E,dB,((j.trans p).trans q).trans T⟩
 ·rintro c v ⟨o,i,e,m,d,h,b,g,w,j⟩;rw[aL]at w;simp[m,h,b,g];exact⟨o,i,e,rfl,w,j.out⟩
def Ml:(ZU 10000001).Ok Tryz.prog cx 147:=wQ (λa:ISi=>dR.ws a.l) IZ 10000001
def e04(c:fM):Int:=Classical.epsilon λa=>∃b,j2.jx.R c= .tuple [dG a,dG b]
def l04(a:fM):Int:=Classical.epsilon λb=>j2.jx.R a= .tuple [dG (e04 a),dG b]
def c04{c:fN}(ht:c.p 93=some j2.jx)(p:fM)(b:Jp p):rl Tryz.prog cx c 93 [p.t]=some (.tuple [dG (e04 p),dG (l04 p)]):=by
 have e:∃a,j2.jx.R p= .tuple [dG (e04 p),dG a]:=Classical.epsilon_spec (p:=λd=>∃a,j2.jx.R p= .tuple [dG d,dG a]) (j2.2 p b);exact(iv ht j2.1 p b).trans (bP some (Classical.epsilon_spec e))
def Pa(b:fM):Prop:=Jp b/\b.jo.length<=100/\(∀a∈b.jo,a.size<=4)/\∃a∈b.jo,a.kind=1/\a.name=[113]
def Ys(m:H)(a n f:Nat)(e:List ig):Prop:=∃o g h i j k l,∃(Lk:List iF) (b:List iT) (c Th:List (List Nat)) (d:List iI),nS m 2 6 o [(g,some (5,e.map ig.t)),(h,some (2,Lk.map iF.t)),(i,some (2,b.map iT.t)),(j,some (1,c.map T.str)),(k,some (1,Th.map T.str)),(l,some (3,d.map iI.t))]/\
 Lk.length<=a/\b.length<=a/\c.length<=a/\Th.length<=n/\d.length<=f
def Ys.le{e:H}{b c f d:Nat}{a:List ig}(r:Ys e b f d a)(x:b<=c):Ys e c f d a:=by
 obtain⟨t,j,k,l,m,n,o,Lk,g,h,Th,i,s,u,v,w,p,q⟩:=r;exact⟨t,j,k,l,m,n,o,Lk,g,h,Th,i,s,dB,dB,dB,p,q⟩
def Jv(b:List Nat)(a:List ig):Prop:=b∈a.map ig.name
def GG:iY:=(dI 6 0 [.agg [dH,dH,dH,dH,dH,dH]])
def B7:nK Tryz.prog cx 94 (λd:fM=>[d.t]) Pa (λd r=>∃W:ee,r=W.t/\(e04 d=0->okW W)):=by
 refine ju (tb:=⟨pt [(93,j2.jx),(146,qO)],ht [(147,ZU 10000001)]⟩) fc fa (je 316913254556860716756833993695 [(21,[(1,8),(3,8)])] Tryz.func94) (λd=>1000005) (λa b h=>by simp at h;exact fM.inj h) dC (by simp[Tryz.f94]) ?_;rintro d ⟨bs,eD,bn,ds⟩ j b7;simp at b7;have cX:=λ{tb:fN} (ht:tb.p 93=some j2.jx)=>c04 ht d bs;have hl:=bs.1.1;simp[Tryz.f94,b7,cX];refine em (λbC=> ?_) (λbC=> ?_)
 ·simp at bC;simp[bC];exact⟨⟨[],[],[],[],[],[]⟩,rfl⟩
 simp;refine fI d.jo.length dB (λi j h=>∃z,Ys h i 0 0 z/\Lb 2 h 0 (dI 2 0 [d.t])/\Lb 2 h 1 GG/\z.length<=4*i/\(∀c∈d.jo.take i,c.kind=1->Jv c.name z)/\dJ j 1 (.ptr 0 0 0 0)/\dJ j 2 (.ptr 1 0 0 0)/\dJ j 3 (.ptr 2 0 0 0)/\dJ j 6 (dG i)) ?_ ?_ dB ?_
 ·rintro i j h an ae ⟨z,⟨ver,D,K,E,G,H,A,Lk,O,P,Th,J,e,av,aA,aE,S,U⟩,o,v,c7,ap,u,x,y,M⟩;have R:=e.get;simp at R;have eF:(0=h.size)=False:=by have:=e.lt;simp;omega
  have eH:(2=h.size)=False:=by have:=e.lt;simp;omega
  have bi:∀c∈d.jo.take (i+1),c∈d.jo.take i\/c=d.jo[i]:=λc bn=>by
   rw[aW an]at bn;exact(List.mem_append.1 bn).imp id λq=>List.mem_singleton.1 q
  have eL:=bn d.jo[i] (aC an);simp[u,M,an,o.get,e.ok.low];generalize d.jo[i]=c at*
  have B:=e.cons (dI 6 1 [c.t]);have cy:=Step.cons e.ok e.lt (dI 6 1 [c.t]);have X:=Lb.new e.lt e.fp (dI 6 1 [c.t]);replace o:=o.step cy;replace v:=v.step cy;have a7:(h.cons (dI 6 1 [c.t])).get 2=h.get 2:=by rw[dW,ao (by have:=e.lt;omega)]
  rw[R]at a7;generalize eI:h.size=bS at*
  generalize h.cons (dI 6 1 [c.t])=et at*
  by_cases eb:c.kind=1\/c.kind=2
  ·have bk:∃N:Nat,max c.size 1=N/\1<=N/\N<=4:=⟨(max c.size 1).toNat,dB,dB,dB⟩;obtain⟨N,bk,dd,eC⟩:=bk;rcases eb with hk|hk<;>(
    simp[hk];refine fI N dB (λk j h=>∃Z,Ys h i 0 0 Z/\Lb 2 h 0 (dI 2 0 [d.t])/\Lb 2 h 1 GG/\Lb 2 h bS (dI 6 1 [c.t])/\Z.length<=4*i+k/\(∀n,Jv n z->Jv n Z)/\(1<=k->Jv c.name Z)/\dJ j 1 (.ptr 0 0 0 0)/\dJ j 2 (.ptr 1 0 0 0)/\dJ j 3 (.ptr 2 0 0 0)/\dJ j 6 (dG i)/\dJ j 7 (.ptr bS 0 0 0)/\dJ j 8 (dG k)) ?_ ?_ dB ⟨z,⟨ver,D,K,E,G,H,A,Lk,O,P,Th,J,B,av,aA,aE,S,U⟩,o,v,X,dB,λ_ h=>h,λh=>by omega,by simp[u,x,y,M]⟩
    ·rintro k j h dm di ⟨Z,⟨ver,D,K,E,G,H,A,Lk,O,P,Th,J,e,av,aA,aE,S,U⟩,o,v,X,c9,al,bp,u,x,y,M,bz,bB⟩;have R:=e.get;simp at R;have eE:(k:Int)<max c.size 1:=dB;obtain⟨V,aN,L,l⟩:=(e.gr 0 rfl).nq (cx:=cx) (f:=ig.t) e.ok WB rfl SP rfl dC dC (⟨c.name,k,c.size,decide (c.kind=2),c.j7⟩:ig) dD;obtain⟨s,aX,I⟩:=e.app 0 rfl l;obtain⟨g,m⟩:=I _ rfl;simp at s g m;simp[hk]at L;simp[hk,u,x,y,M,bz,bB,X.get,R,dm,bk,L,s,ed,l.1.im,l.1.cells,di];exact⟨_,⟨ver+1,V,K,E,G,H,A,Lk,O,P,Th,J,m,av,aA,aE,S,U⟩,o.step g,v.step g,X.step g,dD,λn bH=>by have:=al n bH;unfold Jv at*;rw[List.map_append];exact dc _ this,by unfold Jv;simp⟩
    ·rintro j h ⟨Z,er,o,v,X,c9,al,bp,u,x,y,M,bz,bB⟩;simp[hk,u,x,y,M,bz,bB,X.get,bk,ae];exact⟨Z,er.le dB,o,v,dB,λC Y dn=>by
      rcases bi C Y with q|rfl
      ·exact al _ (ap C q dn)
      ·exact bp dd⟩)
  have ec:¬c.kind=1/\¬c.kind=2:=dB;by_cases b9:c.kind=3
  ·obtain⟨V,aN,L,l⟩:=(B.gr 1 rfl).nq (cx:=cx) (f:=iF.t) B.ok P8 rfl Lg rfl dC dC (⟨c.name,false⟩:iF) dD;obtain⟨s,aX,I⟩:=B.app 1 rfl l;obtain⟨g,m⟩:=I _ rfl;simp at s g m;simp[b9,u,x,y,M,X.get,a7,ae,L,s,ed,l.1.im,l.1.cells];exact⟨z,⟨ver+1,D,V,E,G,H,A,_,O,P,Th,J,m,dD,dB,dB,S,U⟩,o.step g,v.step g,dB,λC Y hk=>ap C ((bi C Y).resolve_right λQ=>by subst Q;omega) hk⟩
  by_cases ca:c.kind=4
  ·obtain⟨V,aN,L,l⟩:=(B.gr 1 rfl).nq (cx:=cx) (f:=iF.t) B.ok P8 rfl Lg rfl dC dC (⟨c.name,true⟩:iF) dD;obtain⟨s,aX,I⟩:=B.app 1 rfl l;obtain⟨g,m⟩:=I _ rfl;simp at s g m;simp[ca,u,x,y,M,X.get,a7,ae,L,s,ed,l.1.im,l.1.cells];exact⟨z,⟨ver+1,D,V,E,G,H,A,_,O,P,Th,J,m,dD,dB,dB,S,U⟩,o.step g,v.step g,dB,λC Y hk=>ap C ((bi C Y).resolve_right λQ=>by subst Q;omega) hk⟩
  by_cases cb:c.kind=5
  ·have c4:=(B.gr 1 rfl).rn dC;have c1:=λ{tb:fN} (h:tb.p 146=some qO)=>Lv h Lk c.on dB;obtain⟨V,aN,L,l⟩:=(B.gr 2 rfl).nq (cx:=cx) (f:=iT.t) B.ok WA rfl SO rfl dC dC (⟨c.name,sd (Lk.map iF.name) c.on 0⟩:iT) dD;obtain⟨s,aX,I⟩:=B.app 2 rfl l;obtain⟨g,m⟩:=I _ rfl;simp at s g m;simp[cb,u,x,y,M,X.get,a7,ae,L,s,ed,l.1.im,l.1.cells,c4,c1];exact⟨z,⟨ver+1,D,K,V,G,H,A,Lk,_,P,Th,J,m,dB,dD,dB,S,U⟩,o.step g,v.step g,dB,λC Y hk=>ap C ((bi C Y).resolve_right λQ=>by subst Q;omega) hk⟩
  ·obtain⟨V,aN,L,l⟩:=(B.gr 3 rfl).nq (cx:=cx) (f:=T.str) B.ok qx rfl wa rfl dC dC (c.name) dD;obtain⟨s,aX,I⟩:=B.app 3 rfl l;obtain⟨g,m⟩:=I _ rfl;simp at s g m;simp[ec,b9,ca,cb,u,x,y,M,X.get,a7,ae,L,s,ed,l.1.im,l.1.cells];exact⟨z,⟨ver+1,D,K,E,V,H,A,Lk,O,_,Th,J,m,dB,dB,dD,S,U⟩,o.step g,v.step g,dB,λC Y hk=>ap C ((bi C Y).resolve_right λQ=>by subst Q;omega) hk⟩
 ·rintro j h ⟨z,⟨ver,D,K,E,G,H,A,Lk,O,P,Th,J,e,av,aA,aE,S,U⟩,o,v,c7,ap,u,x,y,M⟩;have eM:=bs.1.2.1;have ea:∀{i:Nat} (b8:i<d.dM.length),pT (d.dM.take (i+1))=pT (d.dM.take i)+dR.ws d.dM[i].body:=λ{i} b8=>by
   unfold pT;rw[aW b8,List.map_append,List.sum_append];simp
  have dv:∀i,pT (d.dM.take i)<=1000000:=λi=>by
   have:pT d.dM<=1000000:=bs.2.1;have x:pT d.dM=pT (d.dM.take i)+pT (d.dM.drop i):=by unfold pT;rw[<-List.sum_append,<-List.map_append,cR]
   omega
  simp[u,M,o.get];refine fI d.dM.length dB (λi j h=>Ys h 1000000 i (pT (d.dM.take i)) z/\Lb 2 h 0 (dI 2 0 [d.t])/\Lb 2 h 1 GG/\dJ j 1 (.ptr 0 0 0 0)/\dJ j 2 (.ptr 1 0 0 0)/\dJ j 3 (.ptr 2 0 0 0)/\dJ j 9 (dG i)) ?_ ?_ dB ⟨⟨ver,D,K,E,G,H,A,Lk,O,P,Th,J,e,dB,dB,dB,S,by simpa[pT]using U⟩,o,v,by simp[u,x,y]⟩
  ·rintro i j h an ae ⟨⟨ver,D,K,E,G,H,A,Lk,O,P,Th,J,e,av,aA,aE,S,U⟩,o,v,u,x,y,a8⟩;have eu:=ea an;have ey:=dv (i+1);have R:=e.get;simp at R;obtain⟨V,aN,L,l⟩:=(e.gr 4 rfl).nq (cx:=cx) (f:=T.str) e.ok qx rfl wa rfl dC dC (d.dM[i].name) dD;obtain⟨s,aX,I⟩:=e.app 4 rfl l;obtain⟨g,m⟩:=I _ rfl;simp at s g m;simp[u,y,a8,an,o.get,R,L,s,ed,l.1.im,l.1.cells];have ce:=o.step g;have ef:=v.step g;have b6:=m.get;simp at b6;generalize d8 aN 2 _=eA at*
   simp[u,a8,an,ce.get,b6,(m.gr 5 rfl).rn,Be];refine iu Ml dC ⟨J,A,i,0,d.dM[i].body⟩ ⟨⟨rfl,m.gr 5 rfl,m.ok,dE⟩,dE⟩ ?_;rintro _ eB ⟨eo,eN,cL,rfl,de,bu⟩;simp only at de bu;obtain⟨s,aX,I⟩:=m.app 5 rfl bu;obtain⟨GN,cp⟩:=I _ rfl;simp at s GN cp;simp[u,x,y,a8,s,ed,bu.1.im,bu.1.cells,ae];exact⟨⟨ver+1+1,D,K,E,G,V,eo,Lk,O,P,_,cL,cp,av,aA,aE,dD,dB⟩,ce.step GN,ef.step GN⟩
  ·rintro j h ⟨⟨ver,D,K,E,G,H,A,Lk,O,P,Th,J,e,av,aA,aE,S,U⟩,o,v,u,x,y,a8⟩;have R:=e.get;simp at R;have a6:=e.sk v (dI 6 1 [.agg [D,K,E,G,H,A]]);have bN:=v.get;unfold GG at bN;have c6:(d8 h 1 (dI 6 1 [.agg [D,K,E,G,H,A]])).get 1=_:=(dQ bN _ 1).trans (aq rfl);simp[u,x,y,a8,o.get,R,bN,ed,c6,(a6.gr 0 rfl).fz dC,(a6.gr 1 rfl).fz dC,(a6.gr 2 rfl).fz dC,(a6.gr 3 rfl).fz dC,(a6.gr 4 rfl).fz dC,(a6.gr 5 rfl).fz dC];refine⟨⟨_,rfl,λ_=>⟨dE,dE,dE,dE,dE,?_⟩⟩,e.ok.hp⟩;obtain⟨c,dk,hk,bp⟩:=ds;have al:=ap c (by rw[aL];exact dk) hk;unfold Jv at al;rw[bp]at al;rcases Gv (z.map ig.name) [113] 0 with Q|⟨n,bH,Q⟩
   ·have:=Gw (z.map ig.name) [113] 0;rw[Q,eq_true al]at this;simp at this
   ·exact⟨n,by simpa using bH,by rw[Q];simp⟩
 ·obtain⟨eh,bT⟩:=nS.start (h:=((hE.cons (dI 2 0 [d.t])).cons GG).cons GG) (w:=2) (szw:=6) (ver:=0) (F:=[(dH,some (5,[])),(dH,some (2,[])),(dH,some (2,[])),(dH,some (1,[])),(dH,some (1,[])),(dH,some (3,[]))]) ⟨dC,dC,dC⟩ (by simp[GG]) dC;exact⟨[],⟨0,_,_,_,_,_,_,[],[],[],[],[],eh,dC,dC,dC,dC,dC⟩,⟨dC,λq=>absurd (bT 0 q) dF⟩,⟨by simp[GG],λq=>absurd (bT 1 q) dF⟩,dC⟩
def eT(a:Int×T):T:= .agg [.int .i64 a.1,a.2]
def abn{e:H}{c:Nat->Prop}{g:Int}{b d f:Nat}{a:List fU}(h:c b)(j:e.ji (.arr b d 0 f false)=some (a.map fU.t)):FT e c 4 (eT (g,.arr b d 0 f false)) (fZ.t ⟨g,a⟩):=by
 have i:∀a:List fU,iG (FT e c 2) (a.map fU.t) (a.map fU.t):=λa=>by
  induction a with
  |nil=>exact .nil
  |cons l a k=>exact .cons (.inr (.inr ⟨_,_,rfl,.cons (f9 ..) (.cons (f9 ..) (.cons (f9 ..) (.cons (f9 ..) (.cons (f9 ..) (.cons (f9 ..) .nil))))),rfl⟩)) k
 exact .inr (.inr ⟨_,_,rfl,.cons (f9 ..) (.cons (.inr (.inl ⟨b,d,0,f,false,_,_,rfl,h,j,i a,rfl⟩)) .nil),rfl⟩)
def PcS(W:ee)(a:H)(f:Nat):Prop:=∃g e,∃b:List (Int×T),∃d:List fZ,nS a 2 7 g [(sl (W.cells.map ig.t),none),(sl (W.ew.map iF.t),none),(sl (W.gW.map iT.t),none),(sl (W.ei.map T.str),none),(sl (W.dM.map T.str),none),(sl (W.iH.map iI.t),none),(e,some (2,b.map eT))]/\
 iG (FT a (λc=>2<c/\c<a.size/\¬Fp a 2 c) 4) (b.map eT) (d.map fZ.t)/\b.length=f/\∀h∈d,h.jk.length<=10000001
def PL{h:H}{w:Nat}{x:iY}(f:h.get w=some x)(g:∀b∈fx x.eZ,dU b=none)(c:Nat)(e:Fp h w c):c=w:=by
 rcases e with a|⟨j,d,b,i,a⟩
 ·exact a
 ·rw[f]at d;cases d;rw[g b i]at a;simp at a
structure Kp(h h':H):Prop where
 sz:h.size<h'.size
 get:∀b,b<h.size->h'.get b=h.get b
 fp:∀b,Fp h' h.size b->h.size<=b
def Kp.step{c f g:H}(b:Kp c f)(e:Step c.size f g):Kp c g:=
 ⟨bG b.sz e.ok.sz,λa d=>(e.get a (by have:=b.sz;omega) λh=>by have:=b.fp a h;omega).trans (b.get a d),λa d=>(e.fp a d).elim (b.fp a) λh=>by have:=b.sz;omega⟩
def Kp.new{h:H}(g:ij 0 h)(W:ee)(a:List (List Nat))(c:Int):Kp h (h.cons ⟨10,0,0,true,false,[.agg (tu W a (.dN [] false) 0 c)]⟩)/\Gn W a 0 (h.cons ⟨10,0,0,true,false,[.agg (tu W a (.dN [] false) 0 c)]⟩) h.size:=by
 have f:=PL (h:=h.cons ⟨10,0,0,true,false,[.agg (tu W a (.dN [] false) 0 c)]⟩) (w:=h.size) (x:=⟨10,0,0,true,false,[.agg (tu W a (.dN [] false) 0 c)]⟩) (by rw[dW,aq rfl]) (λi e=>by
  simp[fx,tu,T.cells]at e;rcases e with rfl|rfl|rfl|rfl|rfl|rfl|rfl|rfl|rfl|rfl<;>simp)
 exact⟨⟨dC,λb d=>by rw[dW,ao dB],λb d=>by rw[f b d];exact au _⟩,g.cons _,λb d=>by rw[f b d];simp,0,.dN [] false,0,c,[],by rw[dW,aq rfl],Gr.nil _ _,rfl⟩
structure Sn(h h':H):Prop where
 ok:ij 0 h'
 size:h'.size=h.size+1
 get:∀c,c<h.size->h'.get c=h.get c
def Sn.new{h:H}(c:ij 0 h)(a:iY):Sn h (h.cons a):=⟨c.cons a,dC,λd e=>by rw[dW,ao dB]⟩
def Sn.put{a b:H}(d:Sn a b){x:iY}(g:b.get a.size=some x)(e:iY):Sn a (d8 b a.size e):=⟨d.ok.put _ e,by rw[fV];exact d.size,λc f=>by rw[dQ g,ao dB];exact d.get c f⟩
def Ik:iY:=⟨7,0,0,true,false,[.agg [.dN [] false,.dN [] false,.dN [] false,.dN [] false,.dN [] false,.dN [] false,.dN [] false]]⟩
def AH:nK Tryz.prog cx 59 (λc:fM=>[c.t]) (λc=>Pa c/\c.dM.length<=100) (λc k=>∃(b:jO) (e l:Int),k= .tuple [b.t,.int .i64 e,.int .i64 l]/\∀J∈b.dM,J.jk.length<=10000001):=by
 refine ju (tb:=⟨pt [(93,j2.jx),(94,B7.jx),(97,mT)],ht [(95,Du 10000001),(96,jF Di uE qS)]⟩) fc fa (je 19808249554385699031857790975 [] Tryz.func59) (λc=>10000005) (λR j h=>by simp at h;exact fM.inj h) dC (by simp[Tryz.f59]) ?_;rintro c ⟨bC,eS⟩ a bH;simp at bH;have a8:=bC.1;have cL:=λ{tb:fN} (ht:tb.p 93=some j2.jx)=>c04 ht c a8;obtain⟨_,⟨W,rfl,aX⟩,cX⟩:=B7.use c bC;simp[Tryz.f59,bH,cL];refine em (λU=> ?_) (λU=> ?_)
 ·simp at U;simp[U];exact⟨⟨⟨[],[],[],[],[],[]⟩,[]⟩,rfl,dC⟩
 have aX:=aX (by simpa using U);simp[cX];refine fI c.dM.length dB (λi a h=>PcS W h i/\Lb 2 h 0 ⟨2,0,0,true,false,[c.t]⟩/\Lb 2 h 1 Ik/\TI.dO a 1=some (.ptr 0 0 0 0)/\TI.dO a 2=some (.ptr 1 0 0 0)/\TI.dO a 7=some (.ptr 2 0 0 0)/\(∃al:Int,TI.dO a 8=some (.int .i64 al))/\TI.dO a 9=some (.int .i64 i)) ?_ ?_ dB ?_
 ·rintro i a h V de ⟨cb,Q,P,r,x,s,⟨al,y⟩,u⟩;have e5:=cb;obtain⟨ver,an,E,X,g,R,hE,a6⟩:=cb;have O:=g.get;simp at O;have eb:(0=h.size)=False:=by have:=g.lt;simp;omega
  have eN:(2=h.size)=False:=by have:=g.lt;simp;omega
  simp[r,s,y,u,V,Q.get,O,eb];have ht:=a8.1.2.2 c.dM[i] (aC V);have ea:=a8.2.2.1 c.dM[i] (aC V);have eU:c.dM[i]? =some c.dM[i]:=aB V;generalize c.dM[i]=t at*
  obtain⟨o,ec⟩:=Kp.new g.ok W t.locals al;refine Lu (Mh 10000001) dC ec aX ht.1 ea dB dB λeC b9 et eW eX b7=> ?_;replace o:=o.step et;obtain⟨e9,e4,e7,bk,eA,gA,c6,dd⟩:=b7.ex;obtain⟨GN,ef⟩:=b7.HA gA c6 dd (-1) bk;replace o:=o.step GN;simp only[tu]at gA;simp[gA,ed];refine ow (i:=⟨28,0,0,0,0,0⟩) dC ef dB λG eu b8=> ?_;replace o:=o.step eu;obtain⟨fb,e8,e0,cy,j,S,fe,eB,ey,gC,av,eF,dn,b6,eD,ds⟩:=b8.opn dB;have eO:(G.size=h.size)=False:=by have:=o.sz;simp;omega
  have bN:j<G.size:=H.eJ av;have eH:=o.fp j dn;have ca:=b8.ok;simp only[tu]at gC;have eM:b9+1<=1000001:=dB;generalize b9+1=M at*
  generalize bS:h.size=N at*
  simp[gC,ca.low];refine fI M dB (λZ a v=>∃(k:Int) (B:Nat),Sn G v/\v.get G.size=some ⟨2,0,B,true,false,[.agg [.int .i64 k,.arr j S 0 M false]]⟩/\TI.dO a 1=some (.ptr 0 0 0 0)/\TI.dO a 2=some (.ptr 1 0 0 0)/\TI.dO a 7=some (.ptr 2 0 0 0)/\TI.dO a 8=some (.int .i64 bk)/\TI.dO a 9=some (.int .i64 i)/\TI.dO a 10=some (.ptr N 0 0 0)/\TI.dO a 11=some (.ptr G.size 0 0 0)/\TI.dO a 12=some (.int .i64 Z)) ?_ ?_ dB ?_
  ·rintro Z a v bT di ⟨k,B,m,z,r,x,s,y,u,C,K,D⟩;have ap:=(m.get N (by rw[<-bS];exact o.sz)).trans gC;have c7:=(m.get j bN).trans av;obtain⟨J,bi⟩:=ds Z bT;simp[C,D,ap,c7,bT,bi,uS];have eP:(iU J).length<=3:=by unfold iU;(repeat' split)<;>simp
   refine fI (iU J).length dB (λn a v=>∃(k:Int) (B:Nat),Sn G v/\v.get G.size=some ⟨2,0,B,true,false,[.agg [.int .i64 k,.arr j S 0 M false]]⟩/\TI.dO a 1=some (.ptr 0 0 0 0)/\TI.dO a 2=some (.ptr 1 0 0 0)/\TI.dO a 7=some (.ptr 2 0 0 0)/\TI.dO a 8=some (.int .i64 bk)/\TI.dO a 9=some (.int .i64 i)/\TI.dO a 10=some (.ptr N 0 0 0)/\TI.dO a 11=some (.ptr G.size 0 0 0)/\TI.dO a 12=some (.int .i64 Z)/\TI.dO a 13=some (sl ((iU J).map (T.int .i64)))/\TI.dO a 14=some (.int .i64 n)) ?_ ?_ dB ⟨k,B,m,z,by simp[r,x,s,y,u,C,K,D]⟩
   ·rintro n a v a7 dk ⟨k,B,m,z,r,x,s,y,u,C,K,D,aA,aE⟩;simp[r,x,s,y,u,C,K,D,aA,aE,a7,z,oh,ed];exact⟨m.put z _,⟨_,_,(dQ z _ _).trans (aq rfl)⟩,by simpa[oh]using dk⟩
   ·rintro a v ⟨k,B,m,z,r,x,s,y,u,C,K,D,aA,aE⟩;simp[r,x,s,y,u,C,K,D,aA,aE,di];exact⟨m,k,B,z⟩
  ·rintro a v ⟨k,B,m,z,r,x,s,y,u,C,K,D⟩;have L:∀b,b<h.size->v.get b=h.get b:=λb A=>(m.get b (by have:=o.sz;omega)).trans (o.get b A);have bn:=g.step m.ok λb A=>L b (g.fp b A);have bB:=bn.get;simp at bB;obtain⟨bp,aN,bu,bs⟩:=(bn.gr 6 rfl).nq (cx:=cx) (f:=eT) m.ok Wr rfl SF rfl dC (λJ=>rfl) (k,.arr j S 0 M false) dD;obtain⟨ce,e6,eh⟩:=bn.app 6 rfl bs;obtain⟨I,cp⟩:=eh _ rfl;simp at ce I cp;simp only[eT]at bu;have ap:=(m.get N (by rw[<-bS];exact o.sz)).trans gC;simp[ap,r,x,s,y,u,C,K,D,z,bB,bu,ce,ed,bs.1.im,bs.1.cells,de];have eR:=m.size;have eI:=o.sz;have Y:=iV (L 2 g.lt);have dm:∀b,b<N->¬Fp h 2 b->(d8 aN 2 _).get b=h.get b:=λb A a7=>(I.get b dB (by rw[Y];exact a7)).trans (L b dB);have eL:=g.lt;refine⟨⟨_,bp,E++[(k,.arr j S 0 M false)],X++[⟨k,cy⟩],by simpa using cp,?_,dD,λJ bi=> ?_⟩,(Q.kS (L 2 g.lt) (L 0 Q.lt)).step I,(P.kS (L 2 g.lt) (L 1 P.lt)).step I⟩
   ·rw[List.map_append,List.map_append];have eV:v.size<=(d8 aN 2 (⟨7,0,ver+1,true,false,[.agg [sl (W.cells.map ig.t),sl (W.ew.map iF.t),sl (W.gW.map iT.t),sl (W.ei.map T.str),sl (W.dM.map T.str),sl (W.iH.map iI.t),bp]]⟩:iY)).size:=I.ok.sz;refine iG.append (R.ft λb A=>⟨⟨A.1,dB,λq=> ?_⟩,dm b A.2.1 A.2.2⟩) (.cons (abn ⟨dB,dB,λq=> ?_⟩ ?_) .nil)
    ·rcases I.fp b q with q|q
     ·rw[Y]at q;exact A.2.2 q
     ·omega
    ·rcases I.fp j q with q|q
     ·rw[Y]at q;have:=g.fp j q;omega
     ·omega
    ·have c9:(d8 aN 2 (⟨7,0,ver+1,true,false,[.agg [sl (W.cells.map ig.t),sl (W.ew.map iF.t),sl (W.gW.map iT.t),sl (W.ei.map T.str),sl (W.dM.map T.str),sl (W.iH.map iI.t),bp]]⟩:iY)).get j=_:=((I.get j dB λq=>by rw[Y]at q;have:=g.fp j q;omega).trans (m.get j bN)).trans av;have dv:M<=ey.length:=by
      have:=bP List.length b6;rw[List.length_take,aG]at this;omega
     rw[gH,c9];simp[dv,b6]
   ·rcases List.mem_append.1 bi with q|q
    ·exact a6 J q
    ·rw[List.mem_singleton.1 q];simp only;omega
  ·exact⟨t.locals.length,1,Sn.new ca _,dC,by simp[r,x,s,u]⟩
 ·rintro a h ⟨⟨ver,an,E,X,g,R,hE,a6⟩,Q,P,r,x,s,⟨al,y⟩,u⟩;have O:=g.get;simp at O;have ae:=P.get;unfold Ik at ae;have er:=g.sk P ⟨7,0,1,true,false,[.agg [sl (W.cells.map ig.t),sl (W.ew.map iF.t),sl (W.gW.map iT.t),sl (W.ei.map T.str),sl (W.dM.map T.str),sl (W.iH.map iI.t),an]]⟩;have c4:(d8 h 1 ⟨7,0,1,true,false,[.agg [sl (W.cells.map ig.t),sl (W.ew.map iF.t),sl (W.gW.map iT.t),sl (W.ei.map T.str),sl (W.dM.map T.str),sl (W.iH.map iI.t),an]]⟩).get 1=_:=(dQ ae _ 1).trans (aq rfl);have c1:=(er.gr 6 rfl).H6 (d:=4) dB (R.ft (V':=λ_=>True) λj eE=>⟨trivial,by rw[dQ ae,ao dB]⟩);simp[r,x,s,u,Q.get,O,ae,ed,c4,c1];exact⟨⟨⟨W,X⟩,rfl,a6⟩,g.ok.hp⟩
 ·obtain⟨eo,bz⟩:=nS.start (h:=((hE.cons ⟨2,0,0,true,false,[c.t]⟩).cons Ik).cons ⟨7,0,1,true,false,[.agg [sl (W.cells.map ig.t),sl (W.ew.map iF.t),sl (W.gW.map iT.t),sl (W.ei.map T.str),sl (W.dM.map T.str),sl (W.iH.map iI.t),.dN [] false]]⟩) (w:=2) (szw:=7) (ver:=1) (F:=[(sl (W.cells.map ig.t),none),(sl (W.ew.map iF.t),none),(sl (W.gW.map iT.t),none),(sl (W.ei.map T.str),none),(sl (W.dM.map T.str),none),(sl (W.iH.map iI.t),none),(.dN [] false,some (2,[]))]) ⟨dC,dC,dC⟩ (by simp[Ik]) dC;exact⟨⟨_,_,[],[],eo,.nil,rfl,dC⟩,⟨dC,λq=>absurd (bz 0 q) dF⟩,⟨by simp[Ik],λq=>absurd (bz 1 q) dF⟩,dC⟩
end
noncomputable section
open Go Go.TI
attribute [-simp] List.map_take List.map_drop List.map_append fH fh ej Bool.not_or Bool.not_and
attribute [simp] fG fj
attribute [-simp] size_cons
def XA(a:List Nat×T×T):T:= .agg [.str a.1,dG 0,a.2.1,a.2.2]
def RN(a:fT):Prop:=a.locals.length<=10/\dR.ws a.body<=100000/\∀b∈a.body,MS b
def PgV(c:Nat)(b:H)(a:Nat):Prop:=4<a/\a<c/\¬Fp b 2 a/\¬Fp b 3 a
def Pg(e:Nat)(b:H)(f:Nat):Prop:=∃h a,∃d:List (List Nat×T×T),∃c:List fT,nS b 3 2 h [(sl (vi.map iw.t),none),(a,some (4,d.map XA))]/\
 iG (FT b (PgV e b) 10) (d.map XA) (c.map fT.t)/\c.length=f/\(∀g∈c,RN g)/\(∀a,Fp b 3 a->a=3\/4<a)/\∀a,Fp b 3 a->¬Fp b 2 a
def Pg.step{f j:Nat}{b e:H}(r:Pg f b j)(c:Step 2 b e)(x:f<=b.size):Pg f e j:=by
 obtain⟨w,d,m,n,l,o,s,t,u,k⟩:=r;obtain⟨v,p⟩:=l.other k c;have h:e.get 3=b.get 3:=c.get 3 l.lt (k 3 (.inl rfl));refine⟨w,d,m,n,v,o.ft λg a=>⟨⟨a.1,a.2.1,λq=> ?_,by rw[iV h];exact a.2.2.2⟩,c.get g (by have:=a.2.1;omega) a.2.2.1⟩,s,t,λd i=>by rw[iV h]at i;exact u d i,p⟩;rcases c.fp g q with q|q
 ·exact a.2.2.1 q
 ·have:=a.2.1;omega
def Pg.wide{c d e:Nat}{b:H}(j:Pg c b e)(o:c<=d):Pg d b e:=by
 obtain⟨m,i,f,g,l,h,k⟩:=j;exact⟨m,i,f,g,l,h.ft λn a=>⟨⟨a.1,by have:=a.2.1;omega,a.2.2⟩,rfl⟩,k⟩
def XU:List (List Nat):=[[109,97,105,110],[116,49],[116,50],[116,51]]
def Cg:iY:=⟨1,0,0,true,false,XU.map T.str⟩
def Eh:iY:=(dI 2 0 [.agg [dH,dH]])
structure Rd(L:List Int)(h:H)(i:Nat):Prop where
 k:Mk L 0 h 2 1
 pg:Pg h.size h i
 re:Lb 2 h 0 Eh
 nm:Lb 2 h 4 Cg
def Ry(i:List Int){c:H}(d:c=((((hE.cons Eh).cons (dI 2 0 [.agg [sl (i.map (T.int .u8)),dG 0]])).cons (dI 8 0 [.agg (so 1 0 20 false false false false dH)])).cons (dI 2 1 [.agg [sl (vi.map iw.t),dH]]))):
 Mk i 0 c 2 1/\Pg 4 c 0/\Lb 2 c 0 Eh/\c.size=4:=by
 have m:ij 0 c:=by subst d;exact⟨dC,dC,dC⟩
 have k:c.get 2=some (dI 8 0 [.agg (so 1 0 20 false false false false dH)]):=by subst d;simp
 have f:∀a,Fp c 2 a->a=2\/a=1:=by
  rintro a (rfl|⟨p,g,o,l,b⟩)
  ·exact .inl rfl
  ·rw[k]at g;simp only[ar]at g;subst g;simp[fx,T.cells,so]at l;rcases l with rfl|rfl|rfl|rfl|rfl|rfl|rfl|rfl<;>first|(have b:(none:aa Nat)=some a:=b;simp at b;done)|(have b:some 1=some a:=b;simp at b;exact .inr b.symm)
 obtain⟨n,j⟩:=nS.start (h:=c) (w:=3) (szw:=2) (ver:=1) (F:=[(sl (vi.map iw.t),none),(dH,some (4,[]))]) m (by subst d;simp) dC;refine⟨⟨m,λa e=> ?_,⟨0,0,by subst d;simp,Int.le_refl _⟩,0,0,20,false,false,false,false,dH,[],k,Gr.nil _ _,rfl⟩,⟨1,dH,[],[],n,.nil,rfl,dC,λa e=> .inl (j a e),λa e b=> ?_⟩,⟨by subst d;simp[Eh],λb=> ?_⟩,by subst d;simp⟩
 ·have:=f a e;subst d;simp;omega
 ·have:=f a b;have:=j a e;omega
 ·have:=f 0 b;omega
def LV(a:Int)(b:List Nat):dR:=⟨a,0,b,[],[],⟨0,0,[],[]⟩,[],[]⟩
def Vc(a:Int)(b:List Nat):T:= .agg [dG a,dG 0,.str b,.str [],dH,dG 0,dG 0,.str [],dH,dH,dH]
def T5{e:H}{c:Nat->Prop}(a:Int)(b:List Nat)(d:Nat):FT e c (d+2) (Vc a b) (LV a b).t:=
 .inr (.inr ⟨_,(LV a b).cs,rfl,.cons (f9 ..) (.cons (f9 ..) (.cons (kj ..) (.cons (kj ..) (.cons (jh ..) (.cons (f9 ..) (.cons (f9 ..) (.cons (kj ..) (.cons (jh ..) (.cons (jh ..) (.cons (jh ..) .nil)))))))))),dR.nD _⟩)
def T4{k:Int}{nm:List Nat}(d:k=12\/k=13):MS (LV k nm)/\(LV k nm).w<=wd 2:=by
 refine⟨.mk (λa=>by unfold LV at a;simp at a;omega) (λa=>by unfold LV at a;simp at a;omega) (λc b=>by unfold LV at b;simp at b) (λa=>by unfold LV at a;simp at a;omega) (λc b=>by unfold LV at b;simp at b) (λc b=>by unfold LV at b;simp at b),?_⟩;rw[dR.lr,dX.lr];unfold LV wd;simp only[dR.rV,dR.JX,dR.uU,dR.xV,dR.iQ,dX.iQ,dX.Fw];omega
def FT.stmt{i:H}{g:Nat->Prop}{d:Nat}{c:T}{f:dR}(b:FT i g d c f.t):c.cells.length=11:=by
 cases d with
 |zero=>exact b.elim
 |succ d=>
  rw[f.nD]at b;rcases b with⟨j,k,a⟩|⟨_,_,_,_,_,_,h,_,_,_,_,a⟩|⟨e,n,rfl,l,a⟩
  ·cases c<;>first|exact absurd rfl (k _)|(rw[nl]at a;rename_i m b;cases m<;>simp[sl]at a;done)|(simp at a;done)|(simp[jW]at j;done)
  ·cases h<;>simp[sl]at a
  ·simp only[T.agg.injEq]at a;subst a;rw[show(T.agg e).cells=e from rfl,l.length];rfl
structure Th(L:List Int)(hC:H)(nm:List Nat)(bl cnt:Nat)(h:H)(v:T)(ver:Nat)(l:List dR):Prop where
 sv:SV (hC.size+1) h.size h 2 6 v l
 k:Mk L 0 h 2 1
 st:Step 2 hC h
 l8:Lb 2 h hC.size (dI 4 ver [.agg [.str nm,dG 0,.arr bl 0 0 2 false,v]])
 ms:∀s∈l,MS s/\s.w<=wd 2
 len:l.length<=cnt
 z:2<hC.size
def Th.cons{d:List Int}{h g:H}{j:List Nat}{e f m:Nat}{l:T}{i:List dR}(a:Th d h j e f g l m i)(c:iY):Th d h j e f (g.cons c) l m i:=by
 have b:=Step.cons a.k.ok a.k.lt c;exact⟨(a.sv.step b (au _)).wide (au _) dC,a.k.cons c,a.st.trans b,a.l8.step b,a.ms,a.len,a.z⟩
def Th.step{c:List Int}{h g d:H}{j:List Nat}{e f l:Nat}{k:T}{i:List dR}(a:Th c h j e f g k l i)(b:Step 2 g d)(m:Mk c 0 d 2 1):Th c h j e f d k l i:=
 ⟨(a.sv.step b (au _)).wide (au _) b.ok.sz,m,a.st.trans b,a.l8.step b,a.ms,a.len,a.z⟩
def Th.more{e:List Int}{i h:H}{j:List Nat}{f g m d:Nat}{c:T}{b:List dR}(a:Th e i j f g h c d b)(l:g<=m):∃c d b,Th e i j f m h c d b:=⟨c,d,b,a.sv,a.k,a.st,a.l8,a.ms,aS a.len l,a.z⟩
def O9{X:List fT}(hl:X.length<=4)(b:∀a∈X,RN a):Pa ⟨vi,X⟩:=by
 refine⟨⟨⟨by simp[vi],dE,λa ht=>⟨by have:=(b a ht).1;omega,by have:=(b a ht).2.1;omega⟩⟩,?_,λa ht=>(b a ht).2.2,7,by simp[vi],by simp[vi,sd]⟩,by simp[vi],by simp[vi],⟨1,0,[113],2,0,[]⟩,by simp[vi],rfl,rfl⟩;have d:∀X:List fT,(∀a∈X,RN a)->pT X<=X.length*100000:=by
  intro X;induction X with
  |nil=>intro _;simp[pT]
  |cons e X c=>
   intro b;have f:=c λa ht=>b a (by simp[ht]);have g:=(b e dC).2.1;unfold pT at*
   simp only[aT,List.sum_cons,bh];omega
 have:=d X b;unfold pT at this;simp only;omega
def UL{b:H}{a c:T}(i:SL a []\/∃d e h,a= .arr d e 0 h false)(f:oN a=true)(g:b.ji c=some []):iM cx b 172 172 a c=some (.val a b):=by
 unfold iM oP mh;rw[yU,dY,dY];simp only[show GI.u= .slice 211 from rfl,yS,g,dY];show(gh (fits _ []) (jz (gh (oN a) (some (a,b)))))=_;rw[f];rfl
def Th.app{o:List Int}{c f:H}{i:List Nat}{h p n m:Nat}{l x:T}{xs:List T}{r l2:List dR}(b:Th o c i h p f l m r)(v:f.ji x=some xs)(s:iG (FT f (Nw (c.size+1) f.size f 2 l) 8) xs (l2.map dR.t))(K:∀j∈l2,MS j/\j.w<=wd 2)(U:l2.length<=n)(S:p+n<=1000):
 ∃e a,iM cx f 172 172 l x=some (.val e a)/\a.get c.size=f.get c.size/\e.im=true/\e.cells=[e]/\Th o c i h (p+n) (d8 a c.size (dI 4 (m+1) [.agg [.str i,dG 0,.arr h 0 0 2 false,e]])) e (m+1) (r++l2):=by
 have fin:∀e a,SV (c.size+1) a.size a 2 6 e (r++l2)->Mk o 0 a 2 1->Step 2 c a->Lb 2 a c.size (dI 4 m [.agg [.str i,dG 0,.arr h 0 0 2 false,l]])->Th o c i h (p+n) (d8 a c.size (dI 4 (m+1) [.agg [.str i,dG 0,.arr h 0 0 2 false,e]])) e (m+1) (r++l2):=λe a M D N g=>
  ⟨by rw[fV];exact M.sk g (.inl (dg _)) _,D.sk g _,Step.sk D.ok g _ _ N (au _),⟨(dQ g.get _ _).trans (aq rfl),by rw[iV (show(d8 a c.size _).get 2=a.get 2 by rw[dQ g.get,ao (bm g.ne)])];exact g.nf⟩,λj I=>(List.mem_append.1 I).elim (b.ms j) (K j),by rw[aU];have:=b.len;omega,b.z⟩
 by_cases B:xs=[]
 ·subst B;have:l2=[]:=by cases l2 with|nil=>rfl|cons=>cases s
  subst this;obtain⟨R,u,_⟩:=b.sv;refine⟨l,f,?_,rfl,u.im,u.cells,fin l f (by rw[bL];exact b.sv) b.k b.st b.l8⟩;rcases u with⟨rfl,rfl⟩|⟨P,Q,_,_,_,rfl,_⟩
  ·exact UL (.inl (Tq _ _)) rfl v
  ·exact UL (.inr ⟨_,_,_,rfl⟩) rfl v
 have E:∀q∈xs,q.cells.length=11:=λq F=>by
  obtain⟨V,G,J⟩:=s.HI F;obtain⟨j,_,rfl⟩:=List.mem_map.1 G;exact FT.stmt (d:=8) J
 obtain⟨e,a,q,y,L,O,C⟩:=b.sv.app b.k (by have:=b.l8.lt;omega) (au _) v s E B (by have:=b.len;omega);have A:=C c.size (dg _);refine⟨e,a,q,A,y.gc.1,y.gc.2,fin e a y L (O c b.st dB) ⟨A.trans b.l8.get,?_⟩⟩;rw[iV (C 2 (by have:=b.z;omega))];exact b.l8.nf
def abl{z:List Int}{F b d:H}{m:List Nat}{e Z L G i:Nat}{x K:T}{v:List dR}{n:List (List Nat×T×T)}{l:List fT}(g:Th z F m e 7 b x Z v)(V:Lb 2 b 0 Eh)(S:Lb 2 b 4 Cg)
 (o:Lb 2 b e (dI 1 0 [.str [97],.str [98]])) (X:nS d 3 2 L [(sl (vi.map iw.t),none),(K,some (4,(n++[(m,T.arr e 0 0 2 false,x)]).map XA))]) (f:Step 3 b d) (M:iG (FT b (PgV i b) 10) (n.map XA) (l.map fT.t)) (P:∀w∈l,RN w)
 (B:∀a,Fp b 3 a->a=3\/4<a) (A:∀a,Fp b 3 a->¬Fp b 2 a) (al:l.length=G) (N:∀a,Fp b 3 a->a<i\/a=3) (ae:4<i) (an:i<=F.size) (O:4<e/\i<=e):Rd z d (G+1):=by
 have ap:=g.l8.lt;have Y:b.size<=d.size:=f.ok.sz;have U:ij 0 d:=⟨f.ok.hp,f.ok.low,aw _⟩;have D:∀a,Fp b 2 a->d.get a=b.get a:=λa c=>f.get a (g.k.fp a c) λq=>A a q c;have p:=D 2 (.inl rfl);have R:∀a,a<=4->a≠3->¬Fp b 3 a:=λa j h q=>(B a q).elim h λq=>by omega
 have J:∀a y,Lb 2 b a y->a<=4->a≠3->Lb 2 d a y:=λa y u j h=>⟨(f.get a u.lt (R a j h)).trans u.get,by rw[iV p];exact u.nf⟩;have s:∀a,4<a->a<b.size->¬Fp b 2 a->¬Fp b 3 a->PgV d.size d a/\d.get a=b.get a:=λa j h E r=>⟨⟨j,dB,by rw[iV p];exact E,λq=>(f.fp a q).elim r λq=>by omega⟩,f.get a h r⟩;have C:∀a,Fp b 3 a->a<i\/a=3:=λa c=>N a c;refine⟨g.k.same U Y D,⟨L,K,n++[(m,T.arr e 0 0 2 false,x)],l++[⟨m,0,[[97],[98]],v⟩],X,?_,dD,λw ht=> ?_,λa c=> ?_,λa c q=> ?_⟩,J 0 _ V dB dB,J 4 _ S dB dB⟩
 ·rw[List.map_append,List.map_append];refine iG.append (M.ft λa c=>s a c.1 (by have:=c.2.1;omega) c.2.2.1 c.2.2.2) (.cons ?_ .nil);have I:=s e O.1 o.lt o.nf λq=>(C e q).elim (λq=>by omega) λq=>by omega
  refine .inr (.inr ⟨_,_,rfl,.cons (kj ..) (.cons (f9 ..) (.cons (.inr (.inl ⟨e,0,0,2,false,[.str [97],.str [98]],[.str [97],.str [98]],rfl,I.1,?_,.cons (kj ..) (.cons (kj ..) .nil),rfl⟩)) (.cons (g.sv.ft.mono λa c=>s a (by have:=c.1;omega) c.2.1 c.2.2.1 λq=>(C a q).elim (λq=>by have:=c.1;omega) λq=>by have:=c.1;omega) .nil))),rfl⟩);rw[gH,I.2,o.get];simp
 ·rcases List.mem_append.1 ht with q|q
  ·exact P w q
  ·rw[List.mem_singleton.1 q];refine⟨dC,?_,λW Q=>(g.ms W Q).1⟩;have j:=wX g.ms;have h:=g.len;have E:v.length*wd 2<=7*wd 2:=aY _ h;have r:wd 2=10000:=rfl;simp only;omega
 ·rcases f.fp a c with q|q
  ·exact B a q
  ·exact .inr dB
 ·rw[iV p]at q;rcases f.fp a c with k|k
  ·exact A a k q
  ·have:=g.k.fp a q;omega
def OT:nK Tryz.prog cx 77 (λI:List Int=>[sl (I.map (T.int .u8))]) okB (λI r=>∃p:fM,r=p.t/\Pa p/\p.dM.length<=100):=by
 refine ju (tb:=⟨pt [(117,zG),(120,G6),(119,I8),(93,j2.jx)],ht [(63,jF zf uF rM),(118,Vo 11)]⟩) fc fa (je 2535301804919368649890680801277 [(15,[(1,7),(1,9)])] Tryz.func77) (λ_=>1000) (λa b e=>by simp at e;exact jy (λ_ _ e=>by simpa using e) e) dC (by simp[Tryz.f77]) ?_;rintro I bs c eb;simp at eb;simp[Tryz.f77,eb,Qx];generalize u:(((H.cons (H.cons hE _) _).cons _).cons _:H)=hc;obtain⟨ce,gv,gE,ha⟩:=Ry I u.symm;clear u;refine r8 dC ce.tp ce.ok dB dB bs λbz l hn t2 eC=> ?_;obtain⟨aN,eI⟩:=ce.tape eC t2;have gw:=gv.step eI dB;have eU:l.size=4:=eC.size.trans ha;have eX:binop .add (dG 2) (dG bz)=some (dG ((2+bz:Nat):Int)):=by rw[iy dB dB];simp
 simp[eX,eU];have hs:2+bz<=4:=dB;generalize b9:2+bz=n at*
 refine fI n dB (λj c e=>Rd I e j/\dJ c 2 (.ptr 0 0 0 0)/\dJ c 3 (.ptr 2 0 0 0)/\dJ c 4 (.ptr 3 0 0 0)/\dJ c 5 (dG n)/\dJ c 6 (.arr 4 0 0 4 false)/\dJ c 7 (dG j)) ?_ ?_ dB ?_
 ·rintro j c e fA fb ⟨⟨aE,bB,a7,nm⟩,l,B,o,C,D,h⟩;obtain⟨bC,g,left,set,c1,bH,cb,er,bu,A,av,hl⟩:=aE.ex;obtain⟨ae,N⟩:=aE.set (th':=j) (left':=left) (se':=set) (tx':=c1) (at2:=bH) (lp':=cb) A av hl;have cp:=nm.step ae;have eB:=a7.step ae;simp only[so]at A ae N cp eB;have fl:j<4:=dB;obtain⟨Z,fS⟩:∃s,XU[j]? =some s:=⟨XU[j]'(by show j<4;omega),aB (by show j<4;omega)⟩;simp[B,C,D,h,fA,A,ed];generalize d8 e 2 _=i at*
  have dk:=cp.get;unfold Cg at dk;have fv:i.low<=i.size+1:=Nat.le_succ_of_le N.ok.low;simp[h,dk,fS,fl,fv];have hv:=N.lt;have cy:=Step.cons N.ok N.lt (dI 1 0 [.str [97],.str [98]]);have aX:=N.cons (dI 1 0 [.str [97],.str [98]]);have gg:=Lb.new N.lt N.fp (dI 1 0 [.str [97],.str [98]]);have a8:=ae.trans cy;have O:Th I (i.cons (dI 1 0 [.str [97],.str [98]])) Z i.size 0 ((i.cons (dI 1 0 [.str [97],.str [98]])).cons (dI 4 1 [.agg [.str Z,dG 0,.arr i.size 0 0 2 false,dH]])) dH 1 []:=
   ⟨SV.nil _ _ _ _ _,aX.cons _,Step.cons aX.ok aX.lt _,by simpa using Lb.new aX.lt aX.fp (dI 4 1 [.agg [.str Z,dG 0,.arr i.size 0 0 2 false,dH]]),dC,dC,dD⟩
  have fi:i.size+1=(i.cons (dI 1 0 [.str [97],.str [98]])).size:=rfl;simp only[fi];generalize hh:i.cons (dI 1 0 [.str [97],.str [98]])=F at*
  refine lq (λc R=>∃v bC Y,Th I F Z i.size 3 R v bC Y/\dJ c 2 (.ptr 0 0 0 0)/\dJ c 3 (.ptr 2 0 0 0)/\dJ c 4 (.ptr 3 0 0 0)/\dJ c 5 (dG n)/\dJ c 6 (.arr 4 0 0 4 false)/\dJ c 7 (dG j)/\dJ c 8 (.ptr F.size 0 0 0)) (λu=> ?_) (λu=> ?_) ?_
  ·simp;refine sr n (λk c R=>1<=k/\(∃v bC Y,Th I F Z i.size (k-1) R v bC Y/\dJ c 2 (.ptr 0 0 0 0)/\dJ c 3 (.ptr 2 0 0 0)/\dJ c 4 (.ptr 3 0 0 0)/\dJ c 5 (dG n)/\dJ c 6 (.arr 4 0 0 4 false)/\dJ c 7 (dG j)/\dJ c 8 (.ptr F.size 0 0 0))/\dJ c 9 (dG k)) ?_ dB (k:=1) dB ⟨au _,⟨_,_,_,O,by simp[l,B,o,C,D,h]⟩,dC⟩;rintro k c R hj ⟨fo,⟨v,eR,Y,g,l,B,o,C,D,h,J⟩,dv⟩;have W:=g.l8.get;have gk:=(nm.step a8).step g.st;have dm:=gk.get;unfold Cg at dm;have hq:decide ((k:Int)<n)=decide (k<n):=by rw[decide_eq_decide];omega
   simp[C,dv];refine em (λu=> ?_) (λu=> ?_)
   ·have b9:k<n:=by simpa using u
    have fs:k<4:=dB;obtain⟨a6,fL⟩:∃s,XU[k]? =some s:=⟨XU[k]'(by show k<4;omega),aB (by show k<4;omega)⟩;have bp:=g.cons (dI 11 0 [Vc 12 a6]);obtain⟨eP,b6,M,gA,al,an,P⟩:=bp.app (x:= .arr R.size 0 0 1 false) (xs:=[Vc 12 a6]) (l2:=[LV 12 a6]) (n:=1) (by rw[gH];simp) (.cons (T5 12 a6 6) .nil) (by simp[T4 (k:=12) (nm:=a6) (.inl rfl)]) dC dB;have bT:=gA.trans bp.l8.get;have ds:(F.size=R.size)=False:=by have:=g.l8.lt;simp;omega
    simp only[Vc]at M;simp[D,J,dv,dm,fL,fs,W,M,bT,ed,al,an];have e6:binop .add (dG (k:Int)) (dG 1)=some (dG ((k+1:Nat):Int)):=by rw[iy dB dB];simp
    simp[l,B,o,C,D,h,J,e6];exact⟨k+1,dB,dB,dB,⟨eP,_,_,by rw[show k+1-1=k-1+1 by omega];exact P⟩,dC⟩
   ·have b9:k=n:=by simp at u;omega
    subst b9;simp[l,B,o,C,D,h,J];exact⟨v,eR,Y,g.sv,g.k,g.st,g.l8,g.ms,by have:=g.len;omega,g.z⟩
  ·simp[l,B,o,C,D,h];exact⟨_,_,_,O.sv,O.k,O.st,O.l8,O.ms,by have:=O.len;omega,O.z⟩
  ·rintro c R ⟨v,eR,Y,g,l,B,o,C,D,h,J⟩;have W:=g.l8.get;obtain⟨gY,th',left,gP,c1,bH,cb,er,bu,A,av,hl⟩:=g.k.ex;simp only[so]at A;simp[B,J,W,A];clear A av hl;refine Kd dC g.k.tp g.k.ok dB dB bs λaA b7 fo eO eD=> ?_;obtain⟨eu,eL⟩:=g.k.tape eD eO;have bk:=g.step eL eu;have bN:binop .add (dG 1) (dG aA)=some (dG ((1+aA:Nat):Int)):=by rw[iy dB dB];simp
   have gS:=fk (bk.l8.get.trans W.symm);simp[bN,gS];refine kZ (adM 11) dC ⟨I,2,1,0,2,1+aA⟩ ⟨⟨dC,eu,bs,dC,dC,dE⟩,dC⟩ ?_;rintro w hE ⟨l2,bi,ef,fE,ey,cL⟩;simp only at bi ef fE ey cL;have cX:=bk.step cL ey;obtain⟨hb,de,c7,gB⟩:=bi;have hD:=bk.l8.lt;obtain⟨eP,b6,M,gA,al,an,P⟩:=cX.app (n:=3) de.ji (c7.ft λQ K=>⟨⟨by have:=K.1;omega,K.2.1,K.2.2.1,bk.sv.box (by have:=K.1;omega)⟩,rfl⟩) ef dB dB;have bi:=fk (cX.l8.get.trans bk.l8.get.symm);have di:=gA.trans cX.l8.get;have eN:=fk gA;clear gA eD eL cL eO c7 de gB;cases ec:decide (j=0)
   case' false=>
    simp[o,h,J,M,di,eN,bi,ed,al,an,ec];generalize d8 b6 F.size _=S at*
    obtain⟨c4,eS,et,G⟩:=P.more (m:=7) dB
   case' true=>
    simp[B,h,J,M,di,eN,bi,ed,al,an,ec];generalize d8 b6 F.size _=S at*
    obtain⟨gY,th',left,gP,c1,bH,cb,er,bu,A,av,hl⟩:=P.k.ex;simp only[so]at A;simp[A];clear A av hl;refine r8 dC P.k.tp P.k.ok dB dB bs λgd b8 ho gV gM=> ?_;obtain⟨gi,gQ⟩:=P.k.tape gM gV;have bn:=P.step gQ gi;have e8:=bn.l8.get;have eo:=((nm.step a8).step bn.st).get;unfold Cg at eo;simp;refine em (λu=> ?gn) (λu=> ?gp)
    case' gp=>
     simp;generalize b8=S at*
     obtain⟨c4,eS,et,G⟩:=bn.more (m:=7) dB
    case' gn=>
     have bp:=bn.cons (dI 11 0 [Vc 13 [116,49]]);obtain⟨hB,e9,M,gA,al,an,gX⟩:=bp.app (x:= .arr b8.size 0 0 1 false) (xs:=[Vc 13 [116,49]]) (l2:=[LV 13 [116,49]]) (n:=1) (by rw[gH];simp) (.cons (T5 13 [116,49] 6) .nil) (by simp[T4 (k:=13) (nm:=[116,49]) (.inr rfl)]) dC dB;have bT:=gA.trans bp.l8.get;have ds:(F.size=b8.size)=False:=by have:=bn.l8.lt;simp;omega
     have fC:XU[1]? =some [116,49]:=rfl;simp only[Vc]at M;simp[o,D,J,eo,fC,e8,M,bT,ed,al,an];generalize d8 e9 F.size _=S at*
     obtain⟨c4,eS,et,G⟩:=gX.more (m:=7) dB
   all_goals
    have gy:=bB.step (a8.trans G.st) (au _);have gI:=(eB.step cy).step G.st;have gm:=(cp.step cy).step G.st;have W:=G.l8.get;have eV:=gg.step G.st;obtain⟨gZ,c9,E,X,L,ap,ea,ca,bS,dd⟩:=gy;have V:=L.get;simp at V;have ds:(F.size=S.size)=False:=by have:=G.l8.lt;simp;omega
    have e7:∀Q,Fp S 3 Q->Q<e.size:=λQ K=>by
     obtain⟨_,_,_,_,eF,_,_,_,_,eW⟩:=bB;have e0:S.get 3=e.get 3:=(a8.trans G.st).get 3 eF.lt (eW 3 (.inl rfl));rw[iV e0]at K;exact eF.fp Q K
    have hd:(3=S.size)=False:=by have:=L.lt;simp;omega
    have hf:E.length=j:=by have:=ap.length;simp at this;omega
    obtain⟨hC,hg,eT,c6⟩:=(L.gr 1 rfl).nq (cx:=cx) (f:=XA) L.ok SQ rfl SI rfl dC (λx=>rfl) (Z,.arr i.size 0 0 2 false,c4) dD;obtain⟨eA,hA,gz⟩:=L.app 1 rfl c6;obtain⟨eM,eH⟩:=gz _ rfl;simp at eA eM eH;simp only[XA]at eT;simp[l,B,o,C,D,h,J,V,W,eT,eA,ed,c6.1.im,c6.1.cells,fb];exact abl G gI gm eV eH eM ap ca bS dd ea (λQ K=> .inl (e7 Q K)) (by have:=nm.lt;omega) (by have:=a8.ok.sz;omega) ⟨by have:=nm.lt;have:=ae.ok.sz;omega,ae.ok.sz⟩
 ·rintro c e ⟨⟨aE,bB,a7,nm⟩,l,B,o,C,D,h⟩;obtain⟨gZ,c9,E,X,L,ap,ea,ca,bS,dd⟩:=bB;have V:=L.get;simp at V;have U:=a7.get;unfold Eh at U;have b7:=O9 (X:=X) dB ca;have e4:=(L.gr 1 rfl).H6 (d:=10) dB ap;have bN:=λ{tb:fN} (ht:tb.p 93=some j2.jx)=>c04 ht ⟨vi,X⟩ b7.1;simp[o,C,h,V,e4,bN];have gj:(0=e.size)=False:=by have:=a7.lt;simp;omega
  have dn:∀y,(d8 e 0 y).get 0=some y:=λy=>(dQ U y 0).trans (aq rfl);refine em (λu=> ?_) (λu=> ?_)
  ·have aA:(e.size=e.size+1+1)=False:=by simp<;>omega
   have gd:(e.size+1=e.size+1+1)=False:=dC;have hy:(e.size=e.size+1)=False:=dC;simp[l,U,Qx,Ta,sq,gj,dn,ed,a7.lt,gH,xR,dW,aA];have fB:∀t∈ [(⟨[109,97,105,110],0,[[97],[98]],[Dl [120] [] ⟨1,1,[],[]⟩]⟩:fT)],RN t:=λt ht=>by
    rw[List.mem_singleton.1 ht];have fY:(Dl [120] [] ⟨1,1,[],[]⟩).w<=wd 0:=Ly (by rw[dX.iQ];omega) (by rw[dX.lr];simp[dX.iQ]);refine⟨dC,?_,λs bu=> ?_⟩
    ·simp only[dR.j9,dR.iQ];unfold wd at fY;omega
    ·rw[List.mem_singleton.1 bu];exact C9 dC (.num 1) (λq=>absurd rfl q)
   exact⟨⟨⟨vi,[⟨[109,97,105,110],0,[[97],[98]],[Dl [120] [] ⟨1,1,[],[]⟩]⟩]⟩,rfl,O9 dC fB,dC⟩,aE.ok.hp⟩
  ·have l3:Lb 3 e 0 (dI 2 0 [.agg [dH,dH]]):=⟨U,λq=>(bS 0 q).elim dB dB⟩;have e5:=((L.sk l3 (dI 2 1 [.agg [sl (vi.map iw.t),c9]])).gr 1 rfl).H6 (d:=10) dB (ap.ft (V':=λ_=>True) λb fe=>⟨trivial,by rw[dQ U,ao (by have:=fe.1;omega)]⟩);simp[l,o,V,U,ed,dn,e5];exact⟨⟨⟨vi,X⟩,rfl,b7,dE⟩,aE.ok.hp⟩
 ·have eE:=Step.cons aN.ok aN.lt Cg;have eh:=Lb.new aN.lt aN.fp Cg;rw[eU]at eh;simp;exact⟨⟨aN.cons _,(gw.step eE dB).wide dD,(gE.step eI).step eE,eh⟩,dB⟩
end
noncomputable section
open Go Go.TI
attribute [-simp] List.map_take List.map_drop List.map_append fH fh ej Bool.not_or Bool.not_and
attribute [simp] fG fj
def Ew:nK Tryz.prog cx 44 (λa:List Int=>[sl (a.map (T.int .u8))]) (λa=>okB a/\a.length<=1000000) (λa w=>∃c:List jf,w=sl (c.map jf.t)/\c.length=a.length):=by
 refine ju (tb:=⟨pt [],ht []⟩) fc fa (je 285 [] Tryz.func44) (λa=>a.length+5) (λx y b=>by simp at b;exact jy (λ_ _ b=>by simpa using b) b) dC (by simp[Tryz.f44]) ?_;rintro a ⟨⟨_,u⟩,A⟩ e o;simp at o;simp[Tryz.f44];refine fI a.length dB (λd e b=>∃g,∃c:List jf,Gr b g 2 (c.map jf.t)/\ij 0 b/\c.length=d/\dJ e 0 (sl (a.map (T.int .u8)))/\dJ e 3 g/\dJ e 4 (dG d)) ?_ ?_ dB ⟨dH,[],Gr.nil _ _,by exact⟨dC,dC,dC⟩,rfl,by simp[o]⟩
 ·rintro d e b p v ⟨g,c,h,l,n,i,j,k⟩;have B:=u a[d] (aC p);have q: -9223372036854775808<=a[d]:=dB;have r:a[d]<9223372036854775808:=dB;obtain⟨C,z,s,m⟩:=h.nq (cx:=cx) (f:=jf.t) l SR rfl SK rfl dC (λ_=>rfl) (⟨a[d].tmod 4,IntKind.i64.wrap ((IntKind.i64.wrap (a[d].tdiv 4)).tmod 5-1)⟩:jf) dD;simp[i,j,k,p,s,v,q,r,Dt (show¬(4:Int)=0 by omega),ZW (show¬(4:Int)=0 by omega),Dt (show¬(5:Int)=0 by omega),uv];exact⟨_,_,m.1,⟨m.2.2.2.hp,m.2.2.2.low,aw _⟩,dD,rfl⟩
 ·rintro e b ⟨g,c,h,l,n,i,j,k⟩;simp[i,j,k];exact⟨_,⟨c,rfl,n⟩,l.hp,by rw[Wi g h.im,h.rn dC]⟩
def adx(b:T):Prop:=∃(a:kh) (c:iL),b= .tuple [a.t,c.t]/\JU a.dS/\a.dS.length<=80
def KP:nK Tryz.prog cx 42 (λi:jO×List jf=>[i.1.t,sl (i.2.map jf.t)]) (λi=>(∀o∈i.1.dM,o.jk.length<=10000001)/\i.2.length<=80) (λ_=>adx):=by
 refine ju (tb:=⟨pt [(74,wA.jx),(76,Er.jx)],ht [(75,jF IFr Uk Oo)]⟩) fc fa (je 1271 [(3,[(0,2),(2,8),(4,8)]),(4,[(4,5)])] Tryz.func42) (λ_=>105) (λi r l=>by simp at l;exact aP (jO.inj l.1) (jy (λ_ _ l=>jf.inj l) l.2)) dC (by simp[Tryz.f42]) ?_;rintro⟨k,A⟩ ⟨n,x⟩ an y;simp only at n x;simp at y;obtain⟨w,I⟩:=y;obtain⟨_,⟨r,rfl,al⟩,u⟩:=wA.use k n;obtain⟨_,⟨N,rfl,P,D⟩,B⟩:=Er.use k n;cases r with
 |false=>
  simp[Tryz.f42,w,u];exact⟨⟨⟨[],[],[],[],[],[]⟩,[]⟩,⟨⟨[],0,[],[]⟩,[],[],[]⟩,rfl,λe J=>by simp at J,dC⟩
 |true=>
  simp[Tryz.f42,w,I,u,B];generalize j:((hE.cons _).cons _).cons _=h;have M:ij 0 h:=by rw[<-j];exact⟨dC,dC,dC⟩
  have ae:h.size=3:=by rw[<-j];rfl
  have T:h.get 0=some (dI 7 0 [k.t]):=by rw[<-j];simp
  have U:h.get 1=some (dI 7 0 [.agg [dH,dH,dH,dH,dH,dH,dH]]):=by rw[<-j];simp
  have V:h.get 2=some (dI 7 0 [.agg [dH,dG 0,dH,dH,dH,dH,dH]]):=by rw[<-j];simp
  clear j;refine kZ OY dC ⟨k,N,A⟩ ⟨rfl,M,n,P,D,x⟩ ?_;rintro _ b ⟨z,d,S,rfl,m,s,f,C,hl⟩;have Z:=f.ok.sz;rw[ae]at s Z;have a0:=(f.get 0 dB).trans T;have a1:=(f.get 1 dB).trans U;have a2:=(f.get 2 dB).trans V;have sv:=λa (K:a<h.size)=>fk (f.get a K);have Q:=sv 0 dB;have W:(0=b.size)=False:=dD;have X:(1=b.size)=False:=dD;have Y:(2=b.size)=False:=dD;have L:=f.ok.low;have O:ff h b b.size=true:=jc (ll _ f.ok.sz);have okB:ij 0 (b.cons (dI 7 1 [d.t])):=ij.cons ⟨f.ok.hp,f.ok.low,aw _⟩ _;have q:∀a,(b.cons (dI 7 1 [d.t])).get a=if a=b.size then some (dI 7 1 [d.t])else b.get a:=λa=>dW ..;have v:=(q 1).trans ((ao dB).trans a1);have p:∀c a,(d8 (b.cons (dI 7 1 [d.t])) 1 c).get a=if a=1 then some c else if a=b.size then some (dI 7 1 [d.t])else b.get a:=λc a=>(dQ v c a).trans (by rw[q]);have G:=λc=>(p c 2).trans ((ao dB).trans ((ao dB).trans a2));have G2:∀c g a,(d8 (d8 (b.cons (dI 7 1 [d.t])) 1 c) 2 g).get a=if a=2 then some g else if a=1 then some c else if a=b.size then some (dI 7 1 [d.t])else b.get a:=λc g a=>(dQ (G c) g a).trans (by rw[p]);have R:∀c,ff (b.cons (dI 7 1 [d.t])) (d8 (b.cons (dI 7 1 [d.t])) 1 c) b.size=true:=λc=>mR v dB c;have ap:(b.size=1)=False:=dD;have E:∀c g,TI.fz (d8 (d8 (b.cons (dI 7 1 [d.t])) 1 c) 2 g) S=some (sl (z.map eK.t)):=λc g=>(m.mono (h':=d8 (d8 (b.cons (dI 7 1 [d.t])) 1 c) 2 g) λa o=>by
   obtain⟨_,_,_,_,F,_⟩:=m.box o;have:=H.eJ F;have:=s a o;rw[G2,ao dB,ao dB,ao dB]).fz dC
  simp[m.im,m.cells,a0,a1,a2,Q,W,X,Y,L,O,ed,p,G2,R,E,q,f.ok.hp];exact⟨⟨k.fq,z⟩,d,rfl,C,hl⟩
def Hx:nK Tryz.prog cx 43 (λc:List Int=>[sl (c.map (T.int .u8))]) okB (λ_ l=>∃a:jO,l=a.t/\∀m∈a.dM,m.jk.length<=10000001):=by
 refine ju (tb:=⟨pt [(77,OT.jx),(59,AH.jx)],ht []⟩) fc fa (je 13 [] Tryz.func43) (λ_=>105) (λn o b=>by simp at b;exact jy (λ_ _ b=>by simpa using b) b) dC (by simp[Tryz.f43]) ?_;rintro c g r d;simp at d;obtain⟨_,⟨k,rfl,i,j⟩,e⟩:=OT.use c g;obtain⟨_,⟨a,p,q,rfl,h⟩,f⟩:=AH.use k ⟨i,j⟩;simp[Tryz.f43,d,e,f];exact⟨a,rfl,h⟩
def ado(b:T):Prop:=∃a:kh,b=a.t/\JU a.dS/\a.dS.length<=80
def Ep:nK Tryz.prog cx 19 (λa:List Int×List Int=>[sl (a.1.map (T.int .u8)),sl (a.2.map (T.int .u8))]) (λa=>okB a.1/\okB a.2/\a.2.length<=80) (λ_=>ado):=by
 refine ju (tb:=⟨pt [(43,Hx.jx),(44,Ew.jx),(42,KP.jx)],ht []⟩) fc fa (je 51 [] Tryz.func19) (λ_=>105) (λa s b=>by simp at b;exact aP (jy (λ_ _ b=>by simpa using b) b.1) (jy (λ_ _ b=>by simpa using b) b.2)) dC (by simp[Tryz.f19]) ?_;rintro⟨i,h⟩ ⟨e,d,p⟩ v f;simp only at e d p;simp at f;obtain⟨n,o⟩:=f;obtain⟨_,⟨j,rfl,q⟩,k⟩:=Hx.use i e;obtain⟨_,⟨g,rfl,t⟩,l⟩:=Ew.use h ⟨d,dB⟩;obtain⟨_,⟨r,u,rfl,m,hl⟩,c⟩:=KP.use (j,g) ⟨q,dE⟩;simp only at c;simp[Tryz.f19,n,o,k,l,c];exact⟨r,rfl,m,hl⟩
end
end Go.Proofs.YtmaeadedikngoaaGreatDoor
