/- Texts W09f to W06x. -/
import Derived.Test.YtmaeadedikngoaaGreatDoorA33
set_option linter.unusedVariables false
set_option linter.unusedSimpArgs false
set_option linter.defProp false
set_option maxRecDepth 100000
set_option maxHeartbeats 8000000
namespace Go.Proofs.YtmaeadedikngoaaGreatDoor
noncomputable section
open Go Go.TI
attribute [-simp] List.map_take List.map_drop List.map_append fj eG dY Bool.not_or Bool.not_and
attribute [simp] fh eJ
def Sp9(f:H)(a:fg)(b c:List Int):Prop:=∃g d e,m9 f 2 7 g [(sl (a.dV.map dS.t),none),(dw a.tx,none),(sl (a.done.map T.bool),none),(sl (a.dB.map dD.t),none),(d,some (1,ge b)),(e,some (1,ge c)),(dx,none)]
structure Tt9(c:jv)(S:fg)(C F:List Int)(cc cf:T)(n1 k:Nat)(h:H)(ver:Nat)(ct:T)(es:List T)(ts:List dZ)(lo hi:Nat->Nat):Prop where
 ok:gu 0 h
 n:3<=n1/\n1<=h.size
 b0:h.get 0=some (dy 7 0 [c.t])
 b1:h.get 1=some mO
 b2:h.get 2=some (dy 7 ver [.agg [sl (S.dV.map dS.t),dw S.tx,sl (S.done.map T.bool),sl (S.dB.map dD.t),cc,cf,ct]])
 gc:Gr h cc 1 (ge C)
 gf:Gr h cf 1 (ge F)
 bx:∀q,dL cc=some q\/dL cf=some q->3<=q/\q<n1
 th:RY n1 h ct es ts lo hi
 l:ts.length=k
 t:∀t∈ts,Ts 1000000 t/\t.dH=0
def abL(b:T):Prop:=∃a:iu,b=a.t/\StI a/\UW 0 a
def DH:mU Tryz.prog cx 76 (λk:jv=>[k.t]) (λk=>∀x∈k.dB,x.iS.length<=10000001) (λ_=>abL):=by
 refine iZ (tb:=⟨pt [(74,vL.jb),(73,qG)],ht []⟩) ei eg (iL 4504699140047487 [] Tryz.func76) (λ_=>1005) (λa b h=>by simp at h;exact jv.inj h) dp (by simp[Tryz.f76]) ?_;rintro k di r X;simp at X;obtain⟨_,⟨b,rfl,bi⟩,bH⟩:=vL.use k di;cases b with
 |false=>
  simp[Tryz.f76,X,bH];exact⟨⟨⟨[],0,[],[]⟩,[],[],[]⟩,rfl,⟨dp,λl hl=>by simp at hl,λl hl=>by simp at hl,λK ht=>by simp at ht⟩,λK ht=>by simp at ht⟩
 |true=>
  have U:=bi rfl;have aA:=qB U.1;obtain⟨eR,eS,eU,eV,eW,b6⟩:=aA;have eM:k.dB.length<=4:=by rw[U.2.1];exact b6
  simp[Tryz.f76,X,bH,Hr,show k.ez.dV.length<=1000000 by omega,show k.ez.dT.length<=1000000 by omega,show k.ez.dB.length<=1000000 by omega];have a8:(kM k.ez).dV.length=k.ez.dV.length/\(kM k.ez).done.length=k.ez.dT.length/\(kM k.ez).dB.length=k.ez.dB.length:=by simp[kM]
  have c7:HC 4 (kM k.ez):=(uH 4 k.ez);have c9:(kM k.ez).Ee:=rF k.ez;generalize kM k.ez=o at*
  refine fc k.ez.cells.length dj (λs r h=>∃G,Sp9 h o G []/\G.length=s/\Lb 2 h 0 (dy 7 0 [k.t])/\Lb 2 h 1 mO/\dz r 1 (.ptr 0 0 0 0)/\dz r 2 (.ptr 1 0 0 0)/\dz r 3 (.ptr 2 0 0 0)/\dz r 4 (dw s)) ?_ ?_ dj ?_
  ·rintro s r h P Y ⟨G,⟨ver,I,J,u⟩,c4,z,N,v,C,D,E⟩;have B:=u.get;simp at B;obtain⟨eu,h',S,y⟩:=(u.gr 4 rfl).mM (cx:=cx) (f:=T.int .i64) u.ok og rfl yh rfl dp (λ_=>rfl) k.ez.cells[s].jG dq;obtain⟨Z,ec,bz⟩:=u.app 4 rfl y;obtain⟨Q,ae⟩:=bz _ rfl;simp only[aR,cm,cV,cJ]at Z Q ae;simp[v,C,D,E,P,z.get,B,S,Z,dP,y.1.gD,y.1.cells,Y];exact⟨G++[k.ez.cells[s].jG],⟨_,_,_,ae⟩,dq,z.step Q,N.step Q⟩
  ·rintro r h ⟨G,ef,c4,z,N,v,C,D,E⟩;simp[v,E,z.get];refine fc k.ez.dT.length dj (λs r h=>∃F,Sp9 h o G F/\F.length=s/\Lb 2 h 0 (dy 7 0 [k.t])/\Lb 2 h 1 mO/\dz r 1 (.ptr 0 0 0 0)/\dz r 2 (.ptr 1 0 0 0)/\dz r 3 (.ptr 2 0 0 0)/\dz r 5 (dw s)) ?_ ?_ dj ?_
   ·rintro s r h P Y ⟨F,⟨ver,I,J,u⟩,a7,z,N,v,C,D,E⟩;have B:=u.get;simp at B;obtain⟨eu,h',S,y⟩:=(u.gr 5 rfl).mM (cx:=cx) (f:=T.int .i64) u.ok og rfl yh rfl dp (λ_=>rfl) 0 dq;obtain⟨Z,ec,bz⟩:=u.app 5 rfl y;obtain⟨Q,ae⟩:=bz _ rfl;simp only[aR,cm,cV,cJ]at Z Q ae;simp[v,C,D,E,P,z.get,B,S,Z,dP,y.1.gD,y.1.cells,Y];exact⟨F++[0],⟨_,_,_,ae⟩,dq,z.step Q,N.step Q⟩
   ·rintro r h ⟨F,⟨ver,I,J,u⟩,a7,z,N,v,C,D,E⟩;simp[v,E,z.get];have B:=u.get;simp at B;have an:=u.gr 4 rfl;have ap:=u.gr 5 rfl;have b9:∀q,dL I=some q\/dL J=some q->3<=q/\q<h.size:=λq M=>by
     have bl:Fp h 2 q:=by
      rcases M with x|x
      ·exact u.AO (f:=(I,some (1,ge G))) dp x
      ·exact u.AO (f:=(J,some (1,ge F))) dp x
     refine⟨?_,u.fp q bl⟩;have b7:q≠0:=λx=>z.nf (by rw[<-x];exact bl);have ey:q≠1:=λx=>N.nf (by rw[<-x];exact bl);have eX:q≠2:=λx=>by
      subst x;rcases M with x|x
      ·obtain⟨_,_,_,_,O,_⟩:=an.box x;rw[B]at O;simp at O
      ·obtain⟨_,_,_,_,O,_⟩:=ap.box x;rw[B]at O;simp at O
     omega
    have eL:=H.ej B;have eH:=an.gD;have eD:=an.cells;have eI:=ap.gD;have eE:=ap.cells;refine fc k.dB.length dj (λs r h'=>∃ver R aN al bs bn,Tt9 k o G F I J h.size s h' ver R aN al bs bn/\dz r 1 (.ptr 0 0 0 0)/\dz r 2 (.ptr 1 0 0 0)/\dz r 3 (.ptr 2 0 0 0)/\dz r 6 (dw s)) ?_ ?_ (by have:=U.2.1;have:=b6;omega) ?_
    ·rintro s r h' P Y ⟨ver,R,aN,al,bs,bn,i,v,C,D,E⟩;obtain⟨m,dk,eN⟩:∃m:Nat,k.dB[s].iA=m/\m<=32:=⟨k.dB[s].iA.toNat,by have:=U.2.2 _ (aF P);have:=this.1;omega,by have:=U.2.2 _ (aF P);have:=this.2.1;omega⟩;have ca:m*8<=70368744177664:=dj;have cb:m*24<=70368744177664:=dj;have c6:=i.n;have b7:∀q,q<3->(q=h'.size)=False:=λq M=>by simp;omega
     have ey:∀q,q<3->(q=h'.size+1)=False:=λq M=>by simp;omega
     have bT:=i.ok;have eP:=bT.low;have V4:gu 0 ((h'.cons ⟨1,0,0,true,false,List.replicate m (dw 0)⟩).cons ⟨1,0,0,true,false,List.replicate m dx⟩):=(bT.cons _).cons _;have aX:∀q,((h'.cons ⟨1,0,0,true,false,List.replicate m (dw 0)⟩).cons ⟨1,0,0,true,false,List.replicate m dx⟩).get q=if q=h'.size+1 then some ⟨1,0,0,true,false,List.replicate m dx⟩else if q=h'.size then some ⟨1,0,0,true,false,List.replicate m (dw 0)⟩else h'.get q:=λq=>by rw[dM,dM];rfl
     have b8:((h'.cons ⟨1,0,0,true,false,List.replicate m (dw 0)⟩).cons ⟨1,0,0,true,false,List.replicate m dx⟩).size=h'.size+1+1:=rfl;have bu:Nb h' ((h'.cons ⟨1,0,0,true,false,List.replicate m (dw 0)⟩).cons ⟨1,0,0,true,false,List.replicate m dx⟩):=⟨⟨V4.hp,V4.low,dj⟩,λq M=>(aX q).trans ((ao dj).trans (ao dj))⟩;have c1:=i.th.g.mono (h':=(h'.cons ⟨1,0,0,true,false,List.replicate m (dw 0)⟩).cons ⟨1,0,0,true,false,List.replicate m dx⟩) λq x=>bu.get q (by obtain⟨_,_,_,_,O,_⟩:=i.th.g.box x;exact H.ej O);obtain⟨W,L,S,y⟩:=c1.FA (cx:=cx) V4 OG rfl Ka rfl dp (x:= .agg [dw 0,.arr h'.size 0 0 m false,.arr (h'.size+1) 0 0 m false,dw 0]) rfl (by have:=i.th.l;have:=i.l;have:=U.2.1;simp;omega);simp only[b8]at S;have eA:=y.2.2.2.sz;rw[b8]at eA;have aE:∀q,dL R=some q->h.size<=q:=λq x=>(i.th.c q x).1;have gN:∀q,q<h'.size->dL R≠some q->L.get q=h'.get q:=λq M dm=>(y.2.1 q dj dm).trans (bu.get q M);have a6:∀q,q<3->L.get q=h'.get q:=λq M=>gN q dj λx=>by have:=aE q x;omega
     have p2:=(a6 2 dj).trans i.b2;simp[v,C,D,E,P,i.b0,i.b2,dk,ca,cb,b7,S,p2,y.1.gD,y.1.cells,dP,Y];have eb:gu 0 L:=⟨y.2.2.2.hp,y.2.2.2.low,aw _⟩;have A:∀q,(dQ L 2 (dy 7 (ver+1) [.agg [sl (o.dV.map dS.t),dw o.tx,sl (o.done.map T.bool),sl (o.dB.map dD.t),I,J,W]])).get q=if q=2 then some (dy 7 (ver+1) [.agg [sl (o.dV.map dS.t),dw o.tx,sl (o.done.map T.bool),sl (o.dB.map dD.t),I,J,W]])else L.get q:=λq=>dE p2 _ q;have dv:=eb.put 2 (dy 7 (ver+1) [.agg [sl (o.dV.map dS.t),dw o.tx,sl (o.done.map T.bool),sl (o.dB.map dD.t),I,J,W]]);have e0:(dQ L 2 (dy 7 (ver+1) [.agg [sl (o.dV.map dS.t),dw o.tx,sl (o.done.map T.bool),sl (o.dB.map dD.t),I,J,W]])).size=L.size:=fG ..;generalize dQ L 2 _=a7 at*
     have eO:List.replicate m (T.int .i64 0)=ge (List.replicate m 0):=by simp[ge]
     have eo:Al h'.size (h'.size+1+1) ((h'.cons ⟨1,0,0,true,false,List.replicate m (dw 0)⟩).cons ⟨1,0,0,true,false,List.replicate m dx⟩) (.arr h'.size 0 0 m false) (.arr (h'.size+1) 0 0 m false) (List.replicate m dx) ⟨0,List.replicate m 0,List.replicate m [],0⟩:=by
      refine⟨.inr ⟨h'.size,0,0,true,_,dp,(aX _).trans ((ao dj).trans (aq rfl)),dp⟩,.inr ⟨h'.size+1,0,0,true,_,dp,(aX _).trans (aq rfl),dp⟩,AW dp λj a b X bi=> ?_,λq x=> ?_,λq x=> ?_⟩
      ·have dd:=bO (ax X);have de:=bO (ax bi);subst dd;subst de;exact⟨.inr (Gr.nil _ _),λq x=>by simp at x⟩
      ·simp at x;subst x;exact⟨au _,dj,dp⟩
      ·simp at x;subst x;exact⟨dj,dj⟩
     have eh:=(i.th.app i.n.2 bu eo y).mono (h':=a7) dj λq v _=>(A q).trans (ao dj);refine⟨ver+1,W,_,_,_,_,⟨dv,⟨i.n.1,dj⟩,(A 0).trans ((ao dj).trans ((a6 0 dj).trans i.b0)),(A 1).trans ((ao dj).trans ((a6 1 dj).trans i.b1)),(A 2).trans (aq rfl),i.gc.mono λq x=> ?_,i.gf.mono λq x=> ?_,i.bx,eh,by simp[i.l],λK ht=> ?_⟩⟩
     ·have:=i.bx q (.inl x);exact(A q).trans ((ao dj).trans (gN q dj λp=>by have:=aE q p;omega))
     ·have:=i.bx q (.inr x);exact(A q).trans ((ao dj).trans (gN q dj λp=>by have:=aE q p;omega))
     ·rcases List.mem_append.1 ht with q|q
      ·exact i.t K q
      ·simp at q;subst q;exact⟨⟨dq,dq,λl hl=>by have:=bO hl;subst this;exact Tn.nil _⟩,rfl⟩
    ·rintro r h' ⟨ver,R,aN,al,bs,bn,i,v,C,D,E⟩;have bk:=i.b1;unfold mO at bk;have A:∀p q,(dQ h' 1 p).get q=if q=1 then some p else h'.get q:=λp q=>dE bk p q;have c6:=i.n;have ce:∀p,TI.fz (dQ h' 1 p) I=some (sl (ge G)):=λp=>(i.gc.mono (h':=dQ h' 1 p) λq x=>by have:=i.bx q (.inl x);rw[A,ao dj]).fz dp;have cp:∀p,TI.fz (dQ h' 1 p) J=some (sl (ge F)):=λp=>(i.gf.mono (h':=dQ h' 1 p) λq x=>by have:=i.bx q (.inr x);rw[A,ao dj]).fz dp;have cL:∀p,TI.fz (dQ h' 1 p) R=some (sl (al.map dZ.t)):=λp=>by
      have bC:=i.th.mono (h':=dQ h' 1 p) (by rw[fG];exact au _) λq v _=>by rw[A,ao dj]
      refine bC.g.IP (V:=λ_=>True) (d:=4) dj (AW (by simp[bC.l]) λj x w ds aA=> ?_);rw[aQ]at aA;obtain⟨et,dn,rfl⟩:=Option.map_eq_some_iff.1 aA;obtain⟨eB,eC,eF,rfl,er⟩:=bC.e j x et ds dn;exact .inr (.inr ⟨_,_,rfl,er.fz _ λ_ _ _=>trivial,rfl⟩)
     simp[v,C,D,E,i.b0,i.b2,bk,dP,A,ce,cp,cL,i.ok.hp];have hl:=i.l;refine⟨⟨o,G,F,al⟩,rfl,⟨⟨by rw[a8.1];omega,by rw[a8.2.1];omega,by rw[a8.2.2];omega,dt,dt,dt⟩,c7,c9,λK ht=>(i.t K ht).1⟩,λK ht=>by have:=(i.t K ht).2;omega⟩
    ·refine⟨ver,dx,[],[],λ_=>0,λ_=>0,⟨u.ok,⟨dj,au _⟩,z.get,N.get,B,an,ap,b9,⟨Gr.nil _ _,rfl,λs e K x=>by simp at x,λs x=>by simp at x,λs j x p=>by simp at p,λk x=>by simp at x⟩,rfl,λK ht=>by simp at ht⟩,by simp[v,C,D]⟩
   ·exact⟨[],ef,rfl,z,N,by simp[v,C,D]⟩
  ·generalize av:H.cons _ _=bN;have ea:gu 0 bN:=by rw[<-av];exact⟨dp,dp,dp⟩
   have bB:=m9.start (h:=bN) (w:=2) (szw:=7) (ver:=1) (F:=[(sl (o.dV.map dS.t),none),(dw o.tx,none),(sl (o.done.map T.bool),none),(sl (o.dB.map dD.t),none),(dx,some (1,[])),(dx,some (1,[])),(dx,none)]) ea (by rw[<-av];simp) (λf bS=>by
    simp only[ci,cY,or_false]at bS;rcases bS with rfl|rfl|rfl|rfl|rfl|rfl|rfl
    iterate 4 exact .inl ⟨rfl,dp⟩
    iterate 2 exact .inr ⟨rfl,1,rfl,du⟩
    exact .inl ⟨rfl,rfl⟩)
   exact⟨[],⟨1,_,_,bB.1⟩,rfl,⟨by rw[<-av];simp,λx=>absurd (bB.2 0 x) dj⟩,⟨by rw[<-av];simp[mO],λx=>absurd (bB.2 1 x) dj⟩,dp⟩
end
noncomputable section
open Go Go.TI
attribute [-simp] List.map_take List.map_drop List.map_append fj eG dY Bool.not_or Bool.not_and
attribute [simp] fh eJ
attribute [-simp] size_cons
structure IFr where
 (c:jv) (s:iu) (L:List iN)
def SI(a:IFr)(b:List T)(d:H):Prop:=b=[a.c.t,a.s.t,dx,sl (a.L.map iN.t)]/\gu 0 d/\(∀e∈a.c.dB,e.iS.length<=10000001)/\StI a.s/\UW 0 a.s/\a.L.length<=80
def M9(i:IFr)(h:List T)(c:H)(f:T)(d:H):Prop:=∃(a:List dX) (g:iu) (b:T),f= .tuple [b,g.t]/\Gr d b 7 (a.map dX.t)/\(∀e,dL b=some e->c.size<=e)/\Nb c d/\IV a/\a.length<=80
structure Fr9(c:jv)(h0:H)(n:Nat)(h:H)(s:iu)(l:List dX)(v:T)(ver:Nat):Prop where
 nb:Nb h0 h
 z:h0.size+3<=h.size
 b0:h.get h0.size=some (dy 7 0 [c.t])
 b1:h.get (h0.size+1)=some (dy 7 ver [s.t])
 b2:h.get (h0.size+1+1)=some mO
 g:Gr h v 7 (l.map dX.t)
 bx:∀q,dL v=some q->h0.size+3<=q
 st:StI s
 ev:UW n s
 es:IV l
 l:l.length<=n
def Fr9.ok{c:jv}{d a:H}{g:Nat}{h:iu}{f:List dX}{j:T}{k:Nat}(b:Fr9 c d g a h f j k):gu 0 a:=⟨b.nb.ok.hp,b.nb.ok.low,aw _⟩
def NI:(jp IFr SI M9).Ok Tryz.prog cx 75:=by
 refine jk (tb:=⟨pt [(116,Gg.jb)],ht []⟩) ei eg (iL 68723687231 [(4,[(6,11),(6,12)])] Tryz.func75) (λ_ _=>1005) (λi S d bB=>by obtain⟨rfl,_⟩:=bB;simp[Tryz.f75]) ?_;rintro⟨r,j,D⟩ _ c ⟨rfl,ae,W,Y,V,bl⟩ o I;simp only at W Y V bl;simp at I;obtain⟨a8,bi,s,u⟩:=I;have P:=ae.hr;simp[Tryz.f75,a8,bi];have ce:=ae.low;generalize p:((H.cons _ _).cons _).cons _=v;have cp:gu 0 v:=by rw[<-p];exact((P.cons _).cons _).cons _
 have dd:v.size=c.size+1+1+1:=by rw[<-p];rfl
 have bH:Nb c v:=by rw[<-p];exact⟨((((Nb.refl P).cons _).cons _).cons _).ok,λr bn=>(((((Nb.refl P).cons _).cons _).cons _).get r bn).trans (fX c r)⟩
 have b7:v.get c.size=some (dy 7 0 [r.t]):=by rw[<-p];simp
 have b8:v.get (c.size+1)=some (dy 7 0 [j.t]):=by rw[<-p];simp
 have b9:v.get (c.size+1+1)=some mO:=by rw[<-p];simp[mO]
 clear p;refine yt D.length (λm o d=>∃j A B n,Fr9 r c m d j A B n/\dz o 4 (.ptr c.size 0 0 0)/\dz o 5 (.ptr (c.size+1) 0 0 0)/\dz o 9 (.ptr (c.size+1+1) 0 0 0)/\dz o 2 B/\dz o 3 (sl (D.map iN.t))/\dz o 10 (dw m)) ?_ dj (aw _) ?_
 ·rintro m o d cb ⟨j,A,B,n,b,K,x,L,s,u,F⟩;have Z:=b.g.len (cx:=cx) d TL _ rfl;rw[aH]at Z;simp[s,u,F,Z];refine dU (λe=> ?_) (λe=> ?_)
  ·have bz:m<D.length:=by simp at e;exact e.1
   have bC:=b.z;have a6:UW 999000 j:=λQ ht=>by have:=b.ev Q ht;omega
   obtain⟨_,⟨q,E,bS,rfl,bu,X⟩,T⟩:=Gg.use (r,j,D[m]) ⟨W,b.st,a6⟩;simp only at T X;have cL:(c.size=d.size)=False:=by simp<;>omega
   have c4:(c.size+1=d.size)=False:=by simp<;>omega
   have c1:(c.size=d.size+1)=False:=by simp<;>omega
   have c6:(c.size+1=d.size+1)=False:=by simp<;>omega
   simp[u,K,x,F,b.b0,b.b1,bz,T,b.ok.low];generalize G:dQ _ (d.size+1) _=h;have O:gu 0 ((d.cons (dy 7 1 [q.t])).cons (dy 7 0 [.agg [dw 0,dw 0,dw 0,dw 0,dw 0,dx,dx]])):=(b.ok.cons _).cons _;have N:gu 0 h:=by rw[<-G];exact O.put _ _
   have ca:h.size=d.size+1+1:=by rw[<-G,fG];rfl
   have J:∀a,h.get a=if a=d.size+1 then some (dy 7 1 [E.t])else if a=d.size then some (dy 7 1 [q.t])else d.get a:=λa=>by
    rw[<-G,md O.hp (by show _<d.size+1+1;omega)];split
    ·rfl
    ·rw[dM,ao (by assumption),dM]
   clear G O;have Go:∀a,a<d.size->h.get a=d.get a:=λa e=>(J a).trans ((ao dj).trans (ao dj));have a0:=(Go c.size dj).trans b.b0;have a1:=(Go (c.size+1) dj).trans b.b1;have a2:=(Go (c.size+1+1) dj).trans b.b2;have an:=(J d.size).trans ((ao dj).trans (aq rfl));have al:=(J (d.size+1)).trans (aq rfl);have gA:=b.g.mono (h':=h) λa f=>by obtain⟨_,_,_,_,g,_⟩:=b.g.box f;exact Go a (H.ej g)
   cases bS with
   |false=>
    simp[s,u,K,x,L,F,nD];rw[<-ji,jr dj dj];exact⟨m+1,dj,dj,j,A,B,⟨n,⟨⟨⟨N.hp,N.low,dj⟩,λa e=>(Go a dj).trans (b.nb.get a e)⟩,dj,a0,a1,a2,gA,b.bx,b.st,λQ ht=>by have:=b.ev Q ht;omega,b.es,by have:=b.l;omega⟩⟩,rfl,dp⟩
   |true=>
    obtain⟨bT,aX⟩:=X rfl;have bN:gu 0 (dQ h (c.size+1) (dy 7 (n+1) [q.t])):=N.put _ _;have k:∀a,(dQ h (c.size+1) (dy 7 (n+1) [q.t])).get a=if a=c.size+1 then some (dy 7 (n+1) [q.t])else h.get a:=λa=>dE a1 _ a;have c7:(dQ h (c.size+1) (dy 7 (n+1) [q.t])).size=d.size+1+1:=by rw[fG];exact ca
    simp[s,x,an,a1];generalize dQ h (c.size+1) _=U at*
    have ap:=(k c.size).trans ((ao dj).trans a0);have av:=(k (c.size+1)).trans (aq rfl);have aA:=(k (c.size+1+1)).trans ((ao dj).trans a2);have aE:=(k (d.size+1)).trans ((ao dj).trans al);have a7:=gA.mono (h':=U) λa f=>(k a).trans (ao (by have:=b.bx a f;omega));obtain⟨b6,bk,aN,w⟩:=a7.mM (cx:=cx) bN OK rfl OH rfl dp (λ_=>rfl) E (by have:=b.l;simp;omega);simp[u,K,x,L,F,aE,aN,nD];rw[<-ji,jr dj dj];have c9:=w.2.2.2.sz;have C:∀a,a<c.size+3->bk.get a=U.get a:=λa e=>w.2.1 a dj λf=>by have:=b.bx a f;omega
    exact⟨m+1,dj,dj,q,A++[E],b6,⟨n+1,⟨⟨⟨w.2.2.2.hp,w.2.2.2.low,dj⟩,λa e=>(C a dj).trans ((k a).trans ((ao dj).trans ((Go a dj).trans (b.nb.get a e))))⟩,dj,(C c.size dj).trans ap,(C (c.size+1) dj).trans av,(C (c.size+1+1) dj).trans aA,w.1,λa f=>by
     rcases w.2.2.1 a f with y|y
     ·exact b.bx a y
     ·omega,bT,aX m b.ev,λS I=>by
     rcases List.mem_append.1 I with y|y
     ·exact b.es S y
     ·simp at y;subst y;exact bu,by have:=b.l;simp;omega⟩⟩,rfl,dp⟩
  ·have M:=b.b2;unfold mO at M;have bC:=b.z;have k:∀y a,(dQ d (c.size+1+1) y).get a=if a=c.size+1+1 then some y else d.get a:=λy a=>dE M y a;simp[s,x,L,b.b1,M,dP,k];have R:∀a,a≠c.size+1+1->(lA c (dQ d (c.size+1+1) (dy 7 1 [j.t]))).get a=d.get a:=λa e=>by rw[fK,k,ao e]
   exact⟨A,j,B,rfl,b.g.mono λa f=>R a (by have:=b.bx a f;omega),λa f=>by have:=b.bx a f;omega,⟨⟨((b.ok.put _ _).out c).hp,((b.ok.put _ _).out c).low,by rw[vK,fG];exact b.nb.ok.sz⟩,λa e=>(R a dj).trans (b.nb.get a e)⟩,b.es,by have:=b.l;omega⟩
 ·exact⟨j,[],_,_,⟨bH,dj,b7,b8,b9,Gr.nil _ _,λa f=>by simp at f,Y,V,λE bs=>by simp at bs,au _⟩,by simp[s,u]⟩
end
noncomputable section
open Go Go.TI
attribute [-simp] List.map_take List.map_drop List.map_append fj eG dY Bool.not_or Bool.not_and
attribute [simp] fh eJ
def Tx(a:H)(j:Nat):Prop:=∃i d e f c g h,∃b:List dG,a.get j=some (dy 6 i [.agg [d,e,f,c,g,h]])/\Gr a c 11 (b.map dG.t)/\b.length<=1000000/\gu 0 a
def Es:kA:=⟨λd a=>∃b c e h,d=[.ptr b 0 0 0,dw c,dw e,.str h]/\Tx a b,λ_ a g f=>f=a/\D1 g⟩
def NH:Es.Ok Tryz.prog cx 226:=by
 refine HM (tb:=⟨pt [],ht []⟩) ei eg (iL 70368744310543 [] Tryz.func226) false (λ_ _=>1000005) (λN b L=>by obtain⟨g,y,e,G,rfl,_⟩:=L;simp[Tryz.f226]) ?_;rintro _ b ⟨g,y,e,G,rfl,Y,O,P,Q,z,R,S,h,s,n,hl,v⟩ d B;simp at B;obtain⟨f,i,j,k⟩:=B;have u:=H.ej s;simp[Tryz.f226];refine fc h.length dj (λo d c=>Fr b.size (hr b) c/\gu 0 c/\dz d 0 (.ptr g 0 0 0)/\dz d 1 (dw y)/\dz d 2 (dw e)/\dz d 3 (.str G)/\dz d 9 (dw o)) ?_ ?_ dj (by simp[f,i,j,k,Fr.refl,v.hr])
 ·rintro o d c D J ⟨a,w,f,i,j,k,m⟩;have p:=(a.get g u).trans ((fX b g).trans s);have l:Gr c z 11 (h.map dG.t):=n.mono λe q=>by obtain⟨_,_,_,_,x,_⟩:=n.box q;rw[a.get e (H.ej x),fX]
  have K:o<(h.map dG.t).length:=by simpa using D
  obtain⟨I,T,Z,U,ae,W,M,E,F⟩:=l.ID (te:=FL) rfl K;have V:=Nat.ne_of_lt (bE u a.size);simp at F;have X:(I=c.size)=False:=by simp;have:=H.ej E;omega
  simp[f,i,j,k,m,p,l.len (cx:=cx),M,E,F,D,w.low];have A:=a.trans (Fr.cons (lo:=b.size) (by have:b.size<=c.size:=a.size;omega) (dy 11 1 [h[o].t]))
  repeat' (refine dU (λC=> ?_) (λC=> ?_)<;>simp[C,f,i,j,k,m,J,A,w.cons])
  exact pq b _ _ v.hp A (r:= .bool true) rfl ⟨rfl,dp⟩
 ·rintro d c ⟨a,w,f,i,j,k,m⟩;have p:=(a.get g u).trans ((fX b g).trans s);have l:Gr c z 11 (h.map dG.t):=n.mono λe q=>by obtain⟨_,_,_,_,x,_⟩:=n.box q;rw[a.get e (H.ej x),fX]
  simp[f,m,p,l.len (cx:=cx)];exact pq b _ _ v.hp a (r:= .bool false) rfl ⟨rfl,dp⟩
structure Wk(p:fk)(A:List dG)(n:Nat)(h:H)(w:Nat):Prop where
 ok:gu 0 h
 fp:∀b,Fp h w b->b<h.size
 ex:∃ver t av sv ev,∃S E:List (List Nat),h.get w=some (dy 6 ver [.agg [sl (p.iX.map gG.t),sl (p.dB.map fD.t),dw t,av,sv,ev]])/\
  Gr h av 11 (A.map dG.t)/\Gr h sv 1 (S.map T.str)/\Gr h ev 1 (E.map T.str)/\S.length<=n/\E.length<=n/\∀b,dL sv=some b->dL ev≠some b
def Wk.ins{k:fk}{a:List dG}{j:Nat}{b:H}{d:Nat}(c:Wk k a j b d)(i:a.length<=1000000):Tx b d:=by
 obtain⟨l,o,e,sv,f,n,m,g,h,_⟩:=c.ex;exact⟨l,_,_,_,e,sv,f,a,g,h,i,c.ok⟩
def rY{c:H}{d:Nat}{a:iJ}(f:c.get d=some a){v:T}(g:v∈eQ a.ee){b:Nat}(e:dL v=some b):Fp c d b:= .inr ⟨a,f,v,g,e⟩
def Wk.same{m:fk}{h:List dG}{l k:Nat}{c d:H}{g:Nat}(j:Wk m h l c g)(B:l<=k)(w:gu 0 d)(f:∀a,Fp c g a->d.get a=c.get a)(v:c.size<=d.size):Wk m h k d g:=by
 obtain⟨y,x,p,sv,q,o,n,e,r,s,t,z,A,u⟩:=j.ex;have i:=f g (.inl rfl);refine⟨w,λa b=>by rw[iE i]at b;exact bE (j.fp a b) v,y,x,p,sv,q,o,n,by rw[i];exact e,?_,?_,?_,dj,dj,u⟩
 ·exact r.mono λa b=>f a (rY e (by simp[eQ,T.cells]) b)
 ·exact s.mono λa b=>f a (rY e (by simp[eQ,T.cells]) b)
 ·exact t.mono λa b=>f a (rY e (by simp[eQ,T.cells]) b)
def Wk.lt{f:fk}{c:List dG}{e:Nat}{b:H}{a:Nat}(d:Wk f c e b a):a<b.size:=d.fp a (.inl rfl)
def Wk.cons{e:fk}{b:List dG}{d:Nat}{c:H}{w:Nat}(a:Wk e b d c w)(f:iJ):Wk e b d (c.cons f) w:=
 a.same (au _) (a.ok.cons f) (λg h=>by rw[dM,ao (by have:=a.fp g h;omega)]) dp 
def Wk.hr{e:fk}{b:List dG}{d:Nat}{a:H}{f:Nat}(c:Wk e b d a f):Wk e b d (TI.hr a) f:=c.same (au _) c.ok.hr (λg _=>fX a g) (au _)
def Wk.out{e:fk}{b:List dG}{d m:Nat}{h a:H}{f:Nat}(c:Wk e b d a f)(i:d<=m):Wk e b m (lA h a) f:=c.same i (c.ok.out h) (λg _=>fK h a g) (au _)
def Wk.spawn{a:fk}{m:List dG}{k d h:Nat}{c f:H}{g:Int}{e sv b l:T}{j n:List (List Nat)}{w:List Nat}(u:Wk a m k c d)(o:c.get d=some (dy 6 h [.agg [sl (a.iX.map gG.t),sl (a.dB.map fD.t),dw g,e,sv,b]]))
 (gA:Gr c e 11 (m.map dG.t)) (s:Gr c sv 1 (j.map T.str)) (C:Gr c b 1 (n.map T.str)) (F:j.length<=k) (G:n.length<=k) (B:∀r,dL sv=some r->dL b≠some r) (D:AC c sv 1 (j.map T.str++[.str w]) l f):
 f.get d=some (dy 6 h [.agg [sl (a.iX.map gG.t),sl (a.dB.map fD.t),dw g,e,sv,b]])/\ew c f d=true/\
  Step d c (dQ f d (dy 6 (h+1) [.agg [sl (a.iX.map gG.t),sl (a.dB.map fD.t),dw g,e,l,b]]))/\
  Wk a m (k+1) (dQ f d (dy 6 (h+1) [.agg [sl (a.iX.map gG.t),sl (a.dB.map fD.t),dw g,e,l,b]])) d:=by
 obtain⟨p,E⟩:=vM (i:=4) u.ok u.fp o rfl du s D.xt;obtain⟨q,z,A,v⟩:=E _ rfl;obtain⟨a1,a2⟩:=v e 11 _ dp gA (s.ne gA du) du;obtain⟨x,y⟩:=v b 1 _ dp C B du;exact⟨p.trans o,eZ p,q,⟨q.ok.hp,q.ok.low,aw _⟩,z,h+1,g,e,l,b,j++[w],n,by rw[dE (p.trans o),aq rfl],a1,by rw[List.map_append];exact A,x,dq,dj,y⟩
def Wk.set{a:fk}{o:List dG}{m c k:Nat}{b h:H}{j:Int}{d sv g n:T}{p l:List (List Nat)}{x:List Nat}(f:Wk a o m b c)(q:b.get c=some (dy 6 k [.agg [sl (a.iX.map gG.t),sl (a.dB.map fD.t),dw j,d,sv,g]]))
 (gA:Gr b d 11 (o.map dG.t)) (D:Gr b sv 1 (p.map T.str)) (v:Gr b g 1 (l.map T.str)) (G:p.length<=m) (I:l.length<=m) (C:∀e,dL sv=some e->dL g≠some e) (E:AC b g 1 (l.map T.str++[.str x]) n h):
 h.get c=some (dy 6 k [.agg [sl (a.iX.map gG.t),sl (a.dB.map fD.t),dw j,d,sv,g]])/\ew b h c=true/\
  Step c b (dQ h c (dy 6 (k+1) [.agg [sl (a.iX.map gG.t),sl (a.dB.map fD.t),dw j,d,sv,n]]))/\
  Wk a o (m+1) (dQ h c (dy 6 (k+1) [.agg [sl (a.iX.map gG.t),sl (a.dB.map fD.t),dw j,d,sv,n]])) c:=by
 obtain⟨s,F⟩:=vM (i:=5) f.ok f.fp q rfl du v E.xt;obtain⟨u,A,B,w⟩:=F _ rfl;obtain⟨a1,a2⟩:=w d 11 _ dp gA (v.ne gA du) du;obtain⟨y,z⟩:=w sv 1 _ dp D (λe r f=>C e f r) du;exact⟨s.trans q,eZ s,u,⟨u.ok.hp,u.ok.low,aw _⟩,A,k+1,j,d,sv,n,p,l++[x],by rw[dE (s.trans q),aq rfl],a1,y,by rw[List.map_append];exact B,dj,dq,λe r f=>z e f r⟩
def Wk.VA{a:fk}{h:List dG}{k d g:Nat}{c e:H}{f:Int}{j sv b l:T}{n m:List (List Nat)}{x:dG}(v:Wk a h k c d)(o:c.get d=some (dy 6 g [.agg [sl (a.iX.map gG.t),sl (a.dB.map fD.t),dw f,j,sv,b]]))
 (gA:Gr c j 11 (h.map dG.t)) (u:Gr c sv 1 (n.map T.str)) (s:Gr c b 1 (m.map T.str)) (B:n.length<=k) (C:m.length<=k) (D:∀r,dL sv=some r->dL b≠some r) (E:AC c j 11 (h.map dG.t++[x.t]) l e):
 e.get d=some (dy 6 g [.agg [sl (a.iX.map gG.t),sl (a.dB.map fD.t),dw f,j,sv,b]])/\ew c e d=true/\
  Step d c (dQ e d (dy 6 (g+1) [.agg [sl (a.iX.map gG.t),sl (a.dB.map fD.t),dw f,l,sv,b]]))/\
  Wk a (h++[x]) k (dQ e d (dy 6 (g+1) [.agg [sl (a.iX.map gG.t),sl (a.dB.map fD.t),dw f,l,sv,b]])) d:=by
 obtain⟨p,F⟩:=vM (i:=3) v.ok v.fp o rfl du gA E.xt;obtain⟨q,z,A,w⟩:=F _ rfl;obtain⟨a1,a2⟩:=w sv 1 _ dp u (gA.ne u du) du;obtain⟨y,G⟩:=w b 1 _ dp s (gA.ne s du) du;exact⟨p.trans o,eZ p,q,⟨q.ok.hp,q.ok.low,aw _⟩,z,g+1,f,l,sv,b,n,m,by rw[dE (p.trans o),aq rfl],by rw[List.map_append];exact A,a1,y,B,C,D⟩
def Wk.back{b:fk}{p:List dG}{o i k:Nat}{d:H}{j:Int}{m sv f h:T}{r q:List (List Nat)}{G:dG}(g:Wk b (p++[G]) o d i)(c:d.get i=some (dy 6 k [.agg [sl (b.iX.map gG.t),sl (b.dB.map fD.t),dw j,m,sv,f]]))
 (E:Gr d sv 1 (r.map T.str)) (D:Gr d f 1 (q.map T.str)) (A:r.length<=o) (B:q.length<=o) (C:∀e,dL sv=some e->dL f≠some e) (gA:Gr d h 11 (p.map dG.t)) (n:dL h=dL m):
   Step i d (dQ d i (dy 6 (k+1) [.agg [sl (b.iX.map gG.t),sl (b.dB.map fD.t),dw j,h,sv,f]]))/\
   Wk b p o (dQ d i (dy 6 (k+1) [.agg [sl (b.iX.map gG.t),sl (b.dB.map fD.t),dw j,h,sv,f]])) i:=by
 have w:=Step.put g.ok c (dy 6 (k+1) [.agg [sl (b.iX.map gG.t),sl (b.dB.map fD.t),dw j,h,sv,f]]) (λv l e a=>by
  simp[eQ,T.cells]at l;rcases l with rfl|rfl|rfl|rfl|rfl|rfl
  ·simp at a
  ·simp at a
  ·simp at a
  ·exact .inl (rY c (v:=m) (by simp[eQ,T.cells]) (by rw[<-n];exact a))
  ·exact .inl (rY c (v:=v) (by simp[eQ,T.cells]) a)
  ·exact .inl (rY c (v:=v) (by simp[eQ,T.cells]) a))
 have u:∀{v:T} {x:Nat} {y:List T},Gr d v x y->x≠6->Gr (dQ d i (dy 6 (k+1) [.agg [sl (b.iX.map gG.t),sl (b.dB.map fD.t),dw j,h,sv,f]])) v x y:=λz F=>z.mono λe n=>by
  obtain⟨_,_,_,_,a,_⟩:=z.box n;rw[dE c,ao (λg=>by subst g;rw[c]at a;simp at a;exact F a.1.symm)]
 refine⟨w,⟨w.ok.hp,w.ok.low,aw _⟩,λe a=> ?_,k+1,j,h,sv,f,r,q,by rw[dE c,aq rfl],u gA du,u E du,u D du,A,B,C⟩;rw[fG];rcases a with rfl|⟨I,s,v,l,a⟩
 ·exact g.lt
 rw[dE c,aq rfl]at s;simp only[ar]at s;subst s;simp[eQ,T.cells]at l;rcases l with rfl|rfl|rfl|rfl|rfl|rfl
 ·simp at a
 ·simp at a
 ·simp at a
 ·exact g.fp e (rY c (v:=m) (by simp[eQ,T.cells]) (by rw[<-n];exact a))
 ·exact g.fp e (rY c (v:=v) (by simp[eQ,T.cells]) a)
 ·exact g.fp e (rY c (v:=v) (by simp[eQ,T.cells]) a)
def Wk.dN{b:fk}{n:List dG}{m h k:Nat}{d:H}{G:Int}{f sv e:T}{p o:List (List Nat)}(l:Wk b n m d h)(g:d.get h=some (dy 6 k [.agg [sl (b.iX.map gG.t),sl (b.dB.map fD.t),dw G,f,sv,e]]))
 (gA:Gr d f 11 (n.map dG.t)) (D:Gr d sv 1 (p.map T.str)) (C:Gr d e 1 (o.map T.str)) (z:p.length<=m) (A:o.length<=m) (B:∀c,dL sv=some c->dL e≠some c) (j:Int):
   Step h d (dQ d h (dy 6 (k+1) [.agg [sl (b.iX.map gG.t),sl (b.dB.map fD.t),dw j,f,sv,e]]))/\
   Wk b n m (dQ d h (dy 6 (k+1) [.agg [sl (b.iX.map gG.t),sl (b.dB.map fD.t),dw j,f,sv,e]])) h:=by
 have y:∀v∈ [sl (b.iX.map gG.t),sl (b.dB.map fD.t),dw j,f,sv,e],∀c,dL v=some c->Fp d h c:=λv i c a=>by
  simp at i;rcases i with rfl|rfl|rfl|rfl|rfl|rfl
  ·simp at a
  ·simp at a
  ·simp at a
  ·exact rY g (v:=v) (by simp[eQ,T.cells]) a
  ·exact rY g (v:=v) (by simp[eQ,T.cells]) a
  ·exact rY g (v:=v) (by simp[eQ,T.cells]) a
 have s:=Step.put l.ok g (dy 6 (k+1) [.agg [sl (b.iX.map gG.t),sl (b.dB.map fD.t),dw j,f,sv,e]]) (λv i c a=> .inl (y v (by simpa[eQ,T.cells]using i) c a));have r:∀{v:T} {u:Nat} {w:List T},Gr d v u w->u≠6->Gr (dQ d h (dy 6 (k+1) [.agg [sl (b.iX.map gG.t),sl (b.dB.map fD.t),dw j,f,sv,e]])) v u w:=λx F=>x.mono λc E=>by
  obtain⟨_,_,_,_,a,_⟩:=x.box E;rw[dE g,ao (λl=>by subst l;rw[g]at a;simp at a;exact F a.1.symm)]
 refine⟨s,⟨s.ok.hp,s.ok.low,aw _⟩,λc a=> ?_,k+1,j,f,sv,e,p,o,by rw[dE g,aq rfl],r gA du,r D du,r C du,z,A,B⟩;rw[fG];rcases a with rfl|⟨I,q,v,i,a⟩
 ·exact l.lt
 rw[dE g,aq rfl]at q;simp only[ar]at q;subst q;exact l.fp c (y v (by simpa[eQ,T.cells]using i) c a)
structure VJ where
 (p:fk) (A:List dG) (n w:Nat) (s:dG)
def T5(a:VJ)(c:List T)(d:H):Prop:=c=[.ptr a.w 0 0 0,a.s.t]/\Wk a.p a.A a.n d a.w/\Ql a.p/\a.n<=10000000/\a.s.w<=1000000/\a.A.length<=1000000/\
 (9<=a.s.op/\a.s.op<=11->∃b,b<a.p.iX.length/\rj (a.p.iX.map gG.name) a.s.name 0=b)
def JH(a:VJ)(e:List T)(c:H)(d:T)(b:H):Prop:=D0 d/\Step a.w c b/\Wk a.p a.A (a.n+1) b a.w
noncomputable abbrev Yn:kA:=jp VJ T5 JH
def YJ:Yn.Ok Tryz.prog cx 193:=by
 obtain⟨K,c4⟩:=hlB NH (λ_ _ _ _ o=>o);refine jk (tb:=⟨pt [(228,yT.jb),(229,Bx.jb),(227,Uf.jb),(230,DJ.jb),(110,AG),(191,mG),(192,kJ)],ht [(226,Es)]⟩) ei eg (iL 14474012017383023515249485065460760621927424225494418519668988771800801378299 [(1,[(7,9)]),(8,[(4,5),(4,8)]),(9,[(4,5),(4,8),(4,9),(4,10),(4,12),(11,12),(4,15),(11,15)]),(28,[(2,7)]),(49,[(4,5),(4,8)])] Tryz.func193) (λ_ _=>5) (λi l h dd=>by obtain⟨rfl,_⟩:=dd;simp[Tryz.f193]) ?_;rintro⟨d,A,n,f,a⟩ _ h ⟨rfl,k,y,c9,de,bk,bs⟩ eu bl;simp only at k y c9 de bk bs;simp at bl;obtain⟨F,c1⟩:=bl;have s:=(k.hr.cons (dy 11 0 [a.t])).cons (dy 2 1 [d.t]);have H:Step f h (lA h (((hr h).cons (dy 11 0 [a.t])).cons (dy 2 1 [d.t]))):=
  ((Step.cons k.ok.hr k.lt _).trans (Step.cons (k.hr.cons _).ok (k.hr.cons _).lt _)).out
 have dn:Step f (hr h) (((hr h).cons (dy 11 0 [a.t])).cons (dy 2 1 [d.t])):=(Step.cons k.ok.hr k.lt _).trans (Step.cons (k.hr.cons _).ok (k.hr.cons _).lt _);have I:=s.out (h:=h) (m:=n+1) dj;have M:∀o:Int,9<=o/\o<=11->decide (a.op=o)=true->∃m:Nat,m<d.iX.length/\rj (d.iX.map gG.name) a.name 0=m:=λo ef N=>bs (by simp at N;omega);have Y:=λ{tb:fq} (ht:tb.h 226=some Es) l b z=>c4 ht [.ptr f 0 0 0,dw l,dw b,.str z] _ ⟨f,l,b,z,rfl,s.ins bk⟩;have eh:=k.lt;have bu:(f=h.size)=False:=dq;have bz:(f=h.size+1)=False:=dq;have cp:(((hr h).cons (dy 11 0 [a.t])).cons (dy 2 1 [d.t])).get f=h.get f:=by simp[bu,bz]
 obtain⟨et,z,bN,sv,ca,S,E,w,gA,bi,a8,aN,aX,a6⟩:=s.ex;have aE:=cp.symm.trans w;have ce:=bi.ry dp;have cb:=a8.ry dp;have b8:=λ{tb:fq} (h:tb.p 110=some AG) x=>Mg h S x dj;have b7:=λ{tb:fq} (h:tb.p 110=some AG) x=>Mg h E x dj;obtain⟨Nw,R⟩:=yT.fnI (λc:List Nat×Int×Int=>(d,z,c)) (λ_=>y);have R:=λ{tb:fq} (ht:tb.p 228=some yT.jb) x l b=>R ht (x,l,b);obtain⟨dv,av⟩:=DJ.fnI (λb:Bool=>b) (λ_=>trivial);have Q:∀{tb:fq},tb.p 227=some Uf.jb->∀l b,rl Tryz.prog cx tb 227 [dw l,dw b]=some (dw (if l=0 then b else l)):=λht l b=>by
  obtain⟨_,rfl,N⟩:=Uf.use (l,b) trivial;exact N ht
 have di:=a.kP;obtain⟨_,⟨eo,rfl⟩,P⟩:=Bx.use (d,z,a.e) ⟨y,dt⟩;have eT:=λ{tb:fq} (h:tb.p 192=some kJ) x=>vY h d.dB x (by have:=y.2.1;omega);have b6:=λ{tb:fq} (h:tb.p 191=some mG) x=>AU h d.iX x (by have:=y.1;omega);simp[Tryz.f193,F,c1,aE,bu,bz,Y];have u:(((hr h).cons (dy 11 0 [a.t])).cons (dy 2 1 [d.t])).get h.size=some (dy 11 0 [a.t]):=dp;have L:(((hr h).cons (dy 11 0 [a.t])).cons (dy 2 1 [d.t])).get (h.size+1)=some (dy 2 1 [d.t]):=dp;have G:(((hr h).cons (dy 11 0 [a.t])).cons (dy 2 1 [d.t])).size=h.size+2:=dp;generalize(((hr h).cons (dy 11 0 [a.t])).cons (dy 2 1 [d.t]))=j at*
 generalize K [T.ptr f 0 0 0,T.int IntKind.i64 7,T.int IntKind.i64 7,T.str []] j=ea;generalize K [T.ptr f 0 0 0,T.int IntKind.i64 8,T.int IntKind.i64 8,T.str []] j=eb;generalize K [T.ptr f 0 0 0,T.int IntKind.i64 3,T.int IntKind.i64 3,T.str []] j=ec;have U:=(show(j.cons (dy 1 0 [.str a.name])).get f=j.get f from by rw[dM,ao dj]).trans w;have J:=s.cons (dy 1 0 [.str a.name]);have bC:=dn.trans (Step.cons s.ok s.lt (dy 1 0 [.str a.name]));have X:∀{v:T} {bH:Nat} {aA:List T},v=bN\/v=sv\/v=ca->Gr j v bH aA->Gr (j.cons (dy 1 0 [.str a.name])) v bH aA:=λdk g=>g.mono λb bn=>by
  have:b<j.size:=s.fp b (rY w (v:=_) (by rcases dk with rfl|rfl|rfl<;>simp[eQ,T.cells]) bn);rw[dM,ao dj]
 have W:=X dp bi;have V:=X dp a8;have a7:=X dp gA
 repeat' (refine dU (λq=> ?_) (λq=> ?_)<;>simp[q,F,w,u,L,Y,R,av,Q,P,eT,b6,JH,H,I])
 ·cases Z:a.index with
  |nil=>rename_i q;simp[Z]at q
  |cons x r=>
   obtain⟨_,⟨er,rfl⟩,b9⟩:=Bx.use (d,z,x) ⟨y,by simp only;rw[Z,dK.jM]at di;omega⟩;simp[u,L,Q,P,H,I,Z,b9]
 iterate 3
  ·obtain⟨m,c6,c7⟩:∃m,m<d.iX.length/\rj (d.iX.map gG.name) a.name 0=m:=by first|exact M 9 dj (by assumption)|exact M 10 dj (by assumption)|exact M 11 dj (by assumption)
   simp[u,Y,av,H,I,c6,c7]
 ·simp[ce,b8];refine dU (λq=> ?_) (λq=> ?_)
  ·simp[H,I]
  obtain⟨ds,cL,O,B⟩:=W.app (cx:=cx) J.ok (x:= .arr (h.size+2) 0 0 1 false) (xs:=[.str a.name]) pO rfl u5 pO rfl rfl dp (by rw[fW];simp[G]) (by simp[T.cells]) dp dq;obtain⟨ae,dm,D,al⟩:=J.spawn U a7 W V aN aX a6 B;have C:=B.gr;have an:=(bC.trans D).out;have ap:=al.out (h:=h) (au _);simp[F,w,u,G,O,ae,C.gD,C.cells,dP,an,ap]
 ·obtain⟨ds,cL,O,B⟩:=V.app (cx:=cx) J.ok (x:= .arr (h.size+2) 0 0 1 false) (xs:=[.str a.name]) pO rfl u5 pO rfl rfl dp (by rw[fW];simp[G]) (by simp[T.cells]) dp dq;obtain⟨ae,dm,D,al⟩:=J.set U a7 W V aN aX a6 B;have C:=B.gr;have an:=(bC.trans D).out;have ap:=al.out (h:=h) (au _);have bB:∀b,h.size<=b->¬Fp (j.cons (dy 1 0 [.str a.name])) f b:=λb bn o=>by rw[iE (U.trans aE.symm)]at o;have:=k.fp b o;omega
  have bS:=(D.get h.size dq (bB _ (au _))).trans ((show(j.cons (dy 1 0 [.str a.name])).get h.size=j.get h.size by rw[dM,ao dj]).trans u);have bT:=(D.get (h.size+1) dq (bB _ dj)).trans ((show(j.cons (dy 1 0 [.str a.name])).get (h.size+1)=j.get (h.size+1)by rw[dM,ao dj]).trans L);simp[cb,b7];refine dU (λq=> ?_) (λq=> ?_)<;>simp[F,w,u,G,O,ae,C.gD,C.cells,dP,an,ap,bS,bT,P,Q]
structure Jo where
 (p:fk) (A:List dG) (n w:Nat) (l:List dG)
def Ev(a:Jo)(c:List T)(d:H):Prop:=c=[.ptr a.w 0 0 0,sl (a.l.map dG.t)]/\Wk a.p a.A a.n d a.w/\Ql a.p/\a.n+dG.ws a.l<=10000000/\dG.ws a.l<=1000000/\a.A.length<=6/\(∀e∈a.l,MS e)/\
 ∃b,b<a.p.iX.length/\rj (a.p.iX.map gG.name) [99] 0=b
def xL(a:Jo)(e:List T)(c:H)(d:T)(b:H):Prop:=GN d/\Step a.w c b/\Wk a.p a.A (a.n+dG.ws a.l) b a.w
def Pu(A:Nat)(bB:(jp Jo (λf a m=>Ev f a m/\dG.ws f.l<A) xL).Ok Tryz.prog cx 145):(jp Jo (λf a m=>Ev f a m/\dG.ws f.l<A+1) xL).Ok Tryz.prog cx 145:=by
 refine jk (tb:=⟨pt [],ht [(193,Yn),(145,jp Jo (λf a m=>Ev f a m/\dG.ws f.l<A) xL)]⟩) ei eg (iL 151115745466229840684019 [(10,[(8,12),(9,12)])] Tryz.func145) (λ_ _=>1000005) (λf a m dm=>by obtain⟨⟨rfl,_⟩,_⟩:=dm;simp[Tryz.f145]) ?_;rintro⟨I,c,n,j,l⟩ _ m ⟨⟨rfl,aX,O,dk,dv,dd,bl,N⟩,di⟩ B bn;simp only at aX O dk dv dd bl N di;simp at bn;obtain⟨i,w⟩:=bn;have hl:=dG.ue (l:=l);simp[Tryz.f145];refine fc l.length dj (λA B F=>Step j (hr m) F/\Wk I c (n+dG.ws (l.take A)) F j/\dz B 0 (.ptr j 0 0 0)/\dz B 1 (sl (l.map dG.t))/\dz B 6 (dw A)) ?_ ?_ dj (by simp[i,w,dG.iz,aX.hr,Step.refl aX.ok.hr])
 ·rintro f B F ap bs ⟨aA,s,i,w,G⟩;have bz:=dG.Ek l ap;have eF:=dG.wK l (f+1);have av:=bl l[f] (aF ap);simp[i,w,G,ap,s.ok.low];generalize l[f]=d at*
  have eE:=d.kP;refine gJ YJ dp ⟨I,c,n+dG.ws (l.take f),j,d⟩ ⟨rfl,s.cons _,O,dt,dt,dt,λq=>by simp only;rw[av.cond q];exact N⟩ ?_;rintro _ p ⟨⟨e,rfl⟩,aE,k⟩;simp only at aE k;have H:=(Lb.new s.lt s.fp (dy 11 1 [d.t])).step aE;have bS:=(aA.trans (Step.cons s.ok s.lt _)).trans aE;obtain⟨eN,t,b9,sv,cb,S,E,K,gA,c7,c6,cL,c1,c4⟩:=k.ex;have bk:∀r,GN r->xL ⟨I,c,n,j,l⟩ [.ptr j 0 0 0,sl (l.map dG.t)] m r (lA m p):=λr hr=>⟨hr,bS.out,k.out dt⟩;have ae:=gY (a:=(c.length:Int)) (b:=1) dj dj;simp[i,K,gA.len (cx:=cx),ae];refine dU (λo=> ?_) (λo=> ?_)
  ·simp[H.get];exact bk _ dp
  have eC:c.length<=5:=by simp at o;omega
  simp;refine dU (λo=> ?_) (λo=> ?_)
  ·simp[H.get];exact bk _ dp
  have eH:(j=p.size)=False:=by simp;have:=k.lt;omega
  have eB:(F.size=p.size)=False:=by simp;have:=H.lt;omega
  have b6:=k.cons (dy 11 0 [.agg [dw 0,dw 0,.str [],.str [],dx,dw 0,dw 0,.str [],dx,dx,dx]]);have eb:=bS.trans (Step.cons k.ok k.lt (dy 11 0 [.agg [dw 0,dw 0,.str [],.str [],dx,dw 0,dw 0,.str [],dx,dx,dx]]));have cp:=(show(p.cons (dy 11 0 [.agg [dw 0,dw 0,.str [],.str [],dx,dw 0,dw 0,.str [],dx,dx,dx]])).get j=p.get j by rw[dM,ao (by have:=k.lt;omega)]).trans K;have L:∀{v:T} {bT:Nat} {bi:List T},v=b9\/v=sv\/v=cb->Gr p v bT bi->Gr (p.cons (dy 11 0 [.agg [dw 0,dw 0,.str [],.str [],dx,dw 0,dw 0,.str [],dx,dx,dx]])) v bT bi:=λds g=>g.mono λb ae=>by
   have:b<p.size:=k.fp b (rY K (v:=_) (by rcases ds with rfl|rfl|rfl<;>simp[eQ,T.cells]) ae);rw[dM,ao dj]
  obtain⟨Q,eA,a8,a7⟩:=(L dp gA).app (cx:=cx) b6.ok (x:= .arr p.size 0 0 1 false) (xs:=[.agg [dw 0,dw 0,.str [],.str [],dx,dw 0,dw 0,.str [],dx,dx,dx]]) yi rfl yg yi rfl rfl dp (by rw[fW];simp) (by simp[T.cells]) dp dq;obtain⟨b,eu,eO,ey,rfl,M,eD⟩:=id a7;have a2:=a7.set M c.length d.t;have dn:(List.map dG.t c++[T.agg [dw 0,dw 0,.str [],.str [],dx,dw 0,dw 0,.str [],dx,dx,dx]]).set c.length d.t=List.map dG.t c++[d.t]:=dp;rw[dn]at a2;simp only[bh,aH,aZ,cR]at a2 a8;obtain⟨P,eM,bH,ea⟩:=b6.VA cp (L dp gA) (L dp c7) (L dp c6) cL c1 c4 a2;have bu:b≠j:=λq=>by subst q;rw[dE M,aq rfl]at P;simp at P
  have bC:=(H.step (Step.cons k.ok k.lt _)).step bH;simp[i,K,H.get,gA.len (cx:=cx),a8,M,dP,P,zK P _ bu,zK M _ (bg bu),bC.get];refine gJ bB dp ⟨I,c++[d],n+dG.ws (l.take f)+1,j,d.body⟩ ⟨⟨rfl,ea,O,dt,dt,dq,av.bd,N⟩,dt⟩ ?_;rintro _ c9 ⟨⟨er,eI,rfl⟩,aN,a6⟩;simp only at aN a6;have ec:=eb.trans bH;have l4:=bC.step aN;have FQ:=ec.trans aN;simp;refine dU (λo=> ?_) (λo=> ?_)
  ·simp[i,l4.get];refine gJ bB dp ⟨I,c++[d],n+dG.ws (l.take f)+1+dG.ws d.body,j,d.LJ⟩ ⟨⟨rfl,a6,O,dt,dt,dq,av.el,N⟩,dt⟩ ?_;rintro _ Z ⟨⟨et,eL,rfl⟩,bN,C⟩;simp only at bN C;replace FQ:=FQ.trans bN;simp[i];obtain⟨eo,eh,ca,ef,ce,b8,b7,u,D,Y,X,U,V,W⟩:=C.ex;obtain⟨Q,R,h,al⟩:=D.cut (cx:=cx) (ty:=FM) (te:=FL) rfl yg rfl (n:=c.length) dp dp;have h:Gr Z Q 11 (c.map dG.t):=by rw[List.map_append,cT dp]at h;rwa[bF dp]at h
   obtain⟨J,z⟩:=C.back u Y X U V W h al;have de:(c++[d]).length=c.length+1:=dp;have y:=kL (a:=((c++[d]).length:Int)) (b:=1) dj dj;have an:((c++[d]).length:Int)-1=(c.length:Int):=dp;rw[an]at y;simp[i,u,D.len (cx:=cx)];simp at y;simp[y,R,h.gD,h.cells,dP,u];refine dU (λo=> ?_) (λo=> ?_)
   ·simp;exact⟨dp,(FQ.trans J).out,z.out dt⟩
   ·simp[i,w,G,bs];exact⟨FQ.trans J,by rw[bz];exact z.same dj z.ok (λ_ _=>rfl) (au _)⟩
  ·have C:=a6;generalize c9=Z at*
   simp[i];obtain⟨eo,eh,ca,ef,ce,b8,b7,u,D,Y,X,U,V,W⟩:=C.ex;obtain⟨Q,R,h,al⟩:=D.cut (cx:=cx) (ty:=FM) (te:=FL) rfl yg rfl (n:=c.length) dp dp;have h:Gr Z Q 11 (c.map dG.t):=by rw[List.map_append,cT dp]at h;rwa[bF dp]at h
   obtain⟨J,z⟩:=C.back u Y X U V W h al;have de:(c++[d]).length=c.length+1:=dp;have y:=kL (a:=((c++[d]).length:Int)) (b:=1) dj dj;have an:((c++[d]).length:Int)-1=(c.length:Int):=dp;rw[an]at y;simp[i,u,D.len (cx:=cx)];simp at y;simp[y,R,h.gD,h.cells,dP,u];refine dU (λo=> ?_) (λo=> ?_)
   ·simp;exact⟨dp,(FQ.trans J).out,z.out dt⟩
   ·simp[i,w,G,bs];exact⟨FQ.trans J,by rw[bz];exact z.same dj z.ok (λ_ _=>rfl) (au _)⟩
 ·rintro B F ⟨aA,s,i,w,G⟩;rw[aL]at s;simp[w,G];exact⟨dp,aA.out,s.out (au _)⟩
def DO:mU Tryz.prog cx 142 (λa:List gG=>[sl (a.map gG.t)]) (λa=>a.length<=1000000) (λ_=>GN):=by
 refine iZ (tb:=⟨pt [(191,mG)],ht []⟩) ei eg (iL 1242795222330225588904675325 [] Tryz.func142) (λG=>1000005) (λA B c=>jt (λ_ _=>gG.inj) (by simpa using c)) dp (by simp[Tryz.f142]) ?_;rintro a hl b r;simp at r;simp[Tryz.f142];refine fc a.length dj (λx b c=>gu 0 c/\dz b 0 (sl (a.map gG.t))/\(∃d,dz b 4 (dw d))/\(∃d,dz b 5 (dw d))/\(∃d,dz b 6 (dw d))/\(∃d,dz b 7 (dw d))/\dz b 8 (dw x)) ?_ ?_ dj (by simp[r];exact⟨dp,dp,dp⟩)
 ·rintro i b c j s ⟨e,f,⟨C,m⟩,⟨D,n⟩,⟨E,o⟩,⟨F,q⟩,g⟩;have l:=λ{tb:fq} (c:tb.p 191=some mG) z=>AU c (a.take i) z (by rw[List.length_take];omega);simp[f,g,j,e.low,l,bp j];rcases Fx ((a.take i).map gG.name) a[i].on 0 with k|⟨y,v,k⟩
  ·generalize a[i]=u at*
   repeat' (refine dU (λh=> ?_) (λh=> ?_)<;>simp[h,f,m,n,o,q,g,e.hp,e.cons,l,bp j,nD,s,k])
  ·simp at v k;have w:y<a.length:=dj;generalize a[i]=u at*
   repeat' (refine dU (λh=> ?_) (λh=> ?_)<;>simp[h,f,m,n,o,q,g,e.hp,e.cons,l,bp j,nD,s,k,w])
 ·rintro b c ⟨e,f,_,_,_,_,g⟩;simp[f,g,e.hp]
def In(a:fk):Prop:=Ql a/\(a.dB.map λb=>dG.ws b.body).sum<=1000000/\(∀b∈a.dB,∀d∈b.body,MS d)/\∃c,c<a.iX.length/\rj (a.iX.map gG.name) [99] 0=c
def o7(a:List fD):Nat:=(a.map λb=>dG.ws b.body).sum
def jH:mU Tryz.prog cx 93 (λa:fk=>[a.t]) In (λ_=>GN):=by
 have av:=yx (λi:Jo=>dG.ws i.l) Pu 1000001;refine iZ (tb:=⟨pt [(141,Gh.jb),(142,DO.jb),(143,z7.jb),(144,JO.jb)],ht [(145,jp Jo (λi B b=>Ev i B b/\dG.ws i.l<1000001) xL)]⟩) ei eg (iL 19342850151455133005856767 [] Tryz.func93) (λa=>1000005) (λB j b=>by simp at b;exact fk.inj b) dp (by simp[Tryz.f93]) ?_;rintro a ⟨m,an,Y,Z⟩ d D;simp at D;obtain⟨_,⟨aX,rfl⟩,L⟩:=Gh.use a m;obtain⟨_,⟨bi,bl,rfl⟩,M⟩:=DO.use a.iX m.1;obtain⟨_,⟨bk,bn,rfl⟩,N⟩:=z7.use a m;have hl:=m.2.1;simp[Tryz.f93,D,L];refine dU (λf=> ?_) (λf=> ?_)
 ·simp
 simp[M];refine dU (λf=> ?_) (λf=> ?_)
 ·simp
 simp;refine dU (λf=> ?_) (λf=> ?_)
 ·simp
 simp[N];refine dU (λf=> ?_) (λf=> ?_)
 ·simp
 simp;refine fc a.dB.length dj (λo d b=>b=hE.cons (dy 2 0 [a.t])/\dz d 1 (.ptr 0 0 0 0)/\(∃q,dz d 8 (dw q))/\dz d 9 (dw o)) ?_ ?_ dj dp
 ·rintro i d b k x ⟨rfl,g,⟨q,u⟩,w⟩;obtain⟨_,⟨c,rfl⟩,O⟩:=JO.use a.dB[i].body (by have:=(m.2.2 _ (aF k)).2;omega);simp[g,u,w,k,O,nD,x]
 rintro d b ⟨rfl,g,⟨q,u⟩,w⟩;simp[g,u,w];refine dU (λf=> ?_) (λf=> ?_)
 ·simp
 simp[g];have al:∀{i:Nat} (H:i<a.dB.length),o7 (a.dB.take (i+1))=o7 (a.dB.take i)+dG.ws a.dB[i].body:=λ{i} H=>by
  unfold o7;rw[aU H,List.map_append,List.sum_append];simp
 have ae:∀i,o7 (a.dB.take i)<=1000000:=λi=>by
  have:o7 a.dB<=1000000:=an;have X:o7 a.dB=o7 (a.dB.take i)+o7 (a.dB.drop i):=by unfold o7;rw[<-List.sum_append,<-List.map_append,cK]
  omega
 refine fc a.dB.length dj (λo d b=>Wk a [] (o7 (a.dB.take o)) b 1/\Lb 1 b 0 (dy 2 0 [a.t])/\dz d 1 (.ptr 0 0 0 0)/\dz d 10 (.ptr 1 0 0 0)/\dz d 11 (dw o)) ?_ ?_ dj ?_
 ·rintro i d b k x ⟨r,p,g,s,n⟩;have W:=al k;have a7:=ae (i+1);obtain⟨a8,t,aN,sv,a6,S,E,C,gA,V,U,P,Q,R⟩:=r.ex;obtain⟨aA,aE⟩:=r.dN C gA V U P Q R i;have J:=p.step aA;simp[p.get,g,s,n,k,C,dP,J.get];refine gJ av dp ⟨a,[],o7 (a.dB.take i),1,a.dB[i].body⟩ ⟨⟨rfl,aE,m,dt,dt,dp,Y _ (aF k),Z⟩,dt⟩ ?_;rintro _ X ⟨⟨e,q,rfl⟩,K,A⟩;simp only at K A;have ap:=J.step K;simp;refine dU (λf=> ?_) (λf=> ?_)
  ·simp[A.ok.hp]
  ·simp[g,s,n,x];exact⟨by rw[W];exact A,ap⟩
 ·rintro d b ⟨r,p,g,s,n⟩;simp[p.get,g,n,r.ok.hp]
 ·have G:((hE.cons (dy 2 0 [a.t])).cons (dy 6 0 [.agg [sl (a.iX.map gG.t),sl (a.dB.map fD.t),dw 0,dx,dx,dx]])).get 1=some (dy 6 0 [.agg [sl (a.iX.map gG.t),sl (a.dB.map fD.t),dw 0,dx,dx,dx]]):=dp;have F:∀j,Fp ((hE.cons (dy 2 0 [a.t])).cons (dy 6 0 [.agg [sl (a.iX.map gG.t),sl (a.dB.map fD.t),dw 0,dx,dx,dx]])) 1 j->j=1:=λj h=>by
   rcases h with rfl|⟨z,y,v,I,h⟩
   ·rfl
   ·rw[G]at y;simp only[ar]at y;subst y;simp[eQ,T.cells]at I;rcases I with rfl|rfl|rfl|rfl|rfl|rfl<;>simp at h
  simp[g];exact⟨⟨⟨dp,dp,dp⟩,λj h=>by rw[F j h];simp,0,0,_,_,_,[],[],G,Gr.nil _ _,Gr.nil _ _,Gr.nil _ _,dp,dp,dp⟩,dp,λh=>absurd (F 0 h) du⟩
structure ISi where
 (O:List il) (v:T) (t n:Int) (l:List dG)
def Yy(a:ISi)(c:List T)(b:H):Prop:=c=[a.v,dw a.t,dw a.n,sl (a.l.map dG.t)]/\Gr b a.v 3 (a.O.map il.t)/\gu 0 b/\a.O.length+dG.ws a.l<=10000000
def T8(a:ISi)(h:List T)(d:H)(g:T)(e:H):Prop:=∃c f,∃b:List il,g= .tuple [c,dw f]/\b.length<=a.O.length+dG.ws a.l/\Xt d a.v 3 (b.map il.t) c e
abbrev Ym(d:Nat):kA:=jp ISi (λa b c=>Yy a b c/\dG.ws a.l<d) T8
def HZ(y:Nat)(C:(Ym y).Ok Tryz.prog cx 147):(Ym (y+1)).Ok Tryz.prog cx 147:=by
 refine jk (tb:=⟨pt [],ht [(147,Ym y)]⟩) ei eg (iL 18191 [] Tryz.func147) (λ_ _=>10000005) (λa U k K=>by obtain⟨⟨rfl,_⟩,_⟩:=K;simp[Tryz.f147]) ?_;rintro⟨u,s,n,L,l⟩ _ k ⟨⟨rfl,z,N,J⟩,I⟩ c A;simp only at z J I;simp at A;obtain⟨m,d,h,b⟩:=A;have hl:=dG.ue (l:=l);have S:Xt (hr k) s 3 (u.map il.t) s (hr k):=Xt.refl (z.mono λF _=>fX k F) N.hr;simp[Tryz.f147];refine fc l.length dj (λa c v=>∃o i,∃e:List il,dz c 0 o/\dz c 1 (dw n)/\dz c 2 (dw i)/\dz c 3 (sl (l.map dG.t))/\dz c 10 (dw a)/\e.length<=u.length+dG.ws (l.take a)/\Xt (hr k) s 3 (e.map il.t) o v) ?_ ?_ dj ⟨s,L,u,by simp[m,d,h,b,S]⟩
 ·rintro a c v x H ⟨o,i,e,m,d,h,b,g,w,j⟩;have ae:=dG.Ek l x;have Z:=dG.wK l (a+1);obtain⟨Q,V,G,p⟩:=j.1.mM (cx:=cx) (f:=il.t) ⟨j.2.2.2.hp,j.2.2.2.low,aw _⟩ U8 rfl Ri rfl dp dp (⟨n,i,l[a].uc⟩:il) dq;simp[m,d,h,b,g,x];have B:l[a]? =some l[a]:=az x;generalize l[a]=r at*
  have Y:=r.kP;simp[d,h,b,g,G,nD,B,p.1.ry,AF];refine gJ C dp ⟨e++[⟨n,i,r.uc⟩],Q,n,_,r.body⟩ ⟨⟨rfl,p.1,⟨p.2.2.2.hp,p.2.2.2.low,aw _⟩,dq⟩,dt⟩ ?_;rintro _ W ⟨R,M,D,rfl,O,q⟩;simp only[bh,List.length_singleton]at O;simp[d,b,g,B,q.1.ry,AF];refine gJ C dp ⟨D,R,n,M,r.LJ⟩ ⟨⟨rfl,q.1,⟨q.2.2.2.hp,q.2.2.2.low,aw _⟩,dt⟩,dt⟩ ?_;rintro _ X ⟨an,al,E,rfl,P,T⟩;simp only at P;simp[d,b,g,H];exact⟨E,dj,((j.trans p).trans q).trans T⟩
 ·rintro c v ⟨o,i,e,m,d,h,b,g,w,j⟩;rw[aL]at w;simp[m,h,b,g];exact⟨o,i,e,rfl,w,j.out⟩
def K9:(Ym 10000001).Ok Tryz.prog cx 147:=yx (λa:ISi=>dG.ws a.l) HZ 10000001
def e04(c:fk):Int:=Classical.epsilon λa=>∃b,jH.jb.R c= .tuple [dw a,dw b]
def l04(a:fk):Int:=Classical.epsilon λb=>jH.jb.R a= .tuple [dw (e04 a),dw b]
def c04{c:fq}(ht:c.p 93=some jH.jb)(p:fk)(b:In p):rl Tryz.prog cx c 93 [p.t]=some (.tuple [dw (e04 p),dw (l04 p)]):=by
 have e:∃a,jH.jb.R p= .tuple [dw (e04 p),dw a]:=Classical.epsilon_spec (p:=λd=>∃a,jH.jb.R p= .tuple [dw d,dw a]) (jH.2 p b);exact(gF ht jH.1 p b).trans (bM some (Classical.epsilon_spec e))
def NR(b:fk):Prop:=In b/\b.iX.length<=100/\(∀a∈b.iX,a.size<=4)/\∃a∈b.iX,a.kind=1/\a.name=[113]
def WL(m:H)(a n f:Nat)(e:List fZ):Prop:=∃o g h i j k l,∃(Lk:List ij) (b:List iB) (c Th:List (List Nat)) (d:List il),m9 m 2 6 o [(g,some (5,e.map fZ.t)),(h,some (2,Lk.map ij.t)),(i,some (2,b.map iB.t)),(j,some (1,c.map T.str)),(k,some (1,Th.map T.str)),(l,some (3,d.map il.t))]/\
 Lk.length<=a/\b.length<=a/\c.length<=a/\Th.length<=n/\d.length<=f
def WL.le{e:H}{b c f d:Nat}{a:List fZ}(r:WL e b f d a)(x:b<=c):WL e c f d a:=by
 obtain⟨t,j,k,l,m,n,o,Lk,g,h,Th,i,s,u,v,w,p,q⟩:=r;exact⟨t,j,k,l,m,n,o,Lk,g,h,Th,i,s,dj,dj,dj,p,q⟩
def Iu(b:List Nat)(a:List fZ):Prop:=b∈a.map fZ.name
def FK:iJ:=(dy 6 0 [.agg [dx,dx,dx,dx,dx,dx]])
def Bt:mU Tryz.prog cx 94 (λd:fk=>[d.t]) NR (λd r=>∃W:dR,r=W.t/\(e04 d=0->okW W)):=by
 refine iZ (tb:=⟨pt [(93,jH.jb),(146,p8)],ht [(147,Ym 10000001)]⟩) ei eg (iL 316913254556860716756833993695 [(21,[(1,8),(3,8)])] Tryz.func94) (λd=>1000005) (λa b h=>by simp at h;exact fk.inj h) dp (by simp[Tryz.f94]) ?_;rintro d ⟨bs,eF,bl,ea⟩ j b7;simp at b7;have c4:=λ{tb:fq} (ht:tb.p 93=some jH.jb)=>c04 ht d bs;have hl:=bs.1.1;simp[Tryz.f94,b7,c4];refine dU (λbC=> ?_) (λbC=> ?_)
 ·simp at bC;simp[bC];exact⟨⟨[],[],[],[],[],[]⟩,rfl⟩
 simp;refine fc d.iX.length dj (λi j h=>∃z,WL h i 0 0 z/\Lb 2 h 0 (dy 2 0 [d.t])/\Lb 2 h 1 FK/\z.length<=4*i/\(∀c∈d.iX.take i,c.kind=1->Iu c.name z)/\dz j 1 (.ptr 0 0 0 0)/\dz j 2 (.ptr 1 0 0 0)/\dz j 3 (.ptr 2 0 0 0)/\dz j 6 (dw i)) ?_ ?_ dj ?_
 ·rintro i j h an ae ⟨z,⟨ver,D,K,E,G,H,A,Lk,O,P,Th,J,e,av,aA,aE,S,U⟩,o,v,dd,ap,u,x,y,M⟩;have R:=e.get;simp at R;have eI:(0=h.size)=False:=by have:=e.lt;simp;omega
  have eL:(2=h.size)=False:=by have:=e.lt;simp;omega
  have bi:∀c∈d.iX.take (i+1),c∈d.iX.take i\/c=d.iX[i]:=λc bl=>by
   rw[aU an]at bl;exact(List.mem_append.1 bl).imp id λq=>List.mem_singleton.1 q
  have eN:=bl d.iX[i] (aF an);simp[u,M,an,o.get,e.ok.low];generalize d.iX[i]=c at*
  have B:=e.cons (dy 6 1 [c.t]);have cL:=Step.cons e.ok e.lt (dy 6 1 [c.t]);have X:=Lb.new e.lt e.fp (dy 6 1 [c.t]);replace o:=o.step cL;replace v:=v.step cL;have a7:(h.cons (dy 6 1 [c.t])).get 2=h.get 2:=by rw[dM,ao (by have:=e.lt;omega)]
  rw[R]at a7;generalize eM:h.size=bS at*
  generalize h.cons (dy 6 1 [c.t])=ey at*
  by_cases ef:c.kind=1\/c.kind=2
  ·have bk:∃N:Nat,max c.size 1=N/\1<=N/\N<=4:=⟨(max c.size 1).toNat,dj,dj,dj⟩;obtain⟨N,bk,di,eE⟩:=bk;rcases ef with hk|hk<;>(
    simp[hk];refine fc N dj (λk j h=>∃Z,WL h i 0 0 Z/\Lb 2 h 0 (dy 2 0 [d.t])/\Lb 2 h 1 FK/\Lb 2 h bS (dy 6 1 [c.t])/\Z.length<=4*i+k/\(∀n,Iu n z->Iu n Z)/\(1<=k->Iu c.name Z)/\dz j 1 (.ptr 0 0 0 0)/\dz j 2 (.ptr 1 0 0 0)/\dz j 3 (.ptr 2 0 0 0)/\dz j 6 (dw i)/\dz j 7 (.ptr bS 0 0 0)/\dz j 8 (dw k)) ?_ ?_ dj ⟨z,⟨ver,D,K,E,G,H,A,Lk,O,P,Th,J,B,av,aA,aE,S,U⟩,o,v,X,dj,λ_ h=>h,λh=>by omega,by simp[u,x,y,M]⟩
    ·rintro k j h ds dm ⟨Z,⟨ver,D,K,E,G,H,A,Lk,O,P,Th,J,e,av,aA,aE,S,U⟩,o,v,X,de,al,bn,u,x,y,M,bz,bB⟩;have R:=e.get;simp at R;have eH:(k:Int)<max c.size 1:=dj;obtain⟨V,aN,L,l⟩:=(e.gr 0 rfl).mM (cx:=cx) (f:=fZ.t) e.ok Va rfl Rk rfl dp dp (⟨c.name,k,c.size,decide (c.kind=2),c.jG⟩:fZ) dq;obtain⟨s,aX,I⟩:=e.app 0 rfl l;obtain⟨g,m⟩:=I _ rfl;simp at s g m;simp[hk]at L;simp[hk,u,x,y,M,bz,bB,X.get,R,ds,bk,L,s,dP,l.1.gD,l.1.cells,dm];exact⟨_,⟨ver+1,V,K,E,G,H,A,Lk,O,P,Th,J,m,av,aA,aE,S,U⟩,o.step g,v.step g,X.step g,dq,λn bH=>by have:=al n bH;unfold Iu at*;rw[List.map_append];exact cU _ this,by unfold Iu;simp⟩
    ·rintro j h ⟨Z,eu,o,v,X,de,al,bn,u,x,y,M,bz,bB⟩;simp[hk,u,x,y,M,bz,bB,X.get,bk,ae];exact⟨Z,eu.le dj,o,v,dj,λC Y dv=>by
      rcases bi C Y with q|rfl
      ·exact al _ (ap C q dv)
      ·exact bn di⟩)
  have eh:¬c.kind=1/\¬c.kind=2:=dj;by_cases b9:c.kind=3
  ·obtain⟨V,aN,L,l⟩:=(B.gr 1 rfl).mM (cx:=cx) (f:=ij.t) B.ok OM rfl Kc rfl dp dp (⟨c.name,false⟩:ij) dq;obtain⟨s,aX,I⟩:=B.app 1 rfl l;obtain⟨g,m⟩:=I _ rfl;simp at s g m;simp[b9,u,x,y,M,X.get,a7,ae,L,s,dP,l.1.gD,l.1.cells];exact⟨z,⟨ver+1,D,V,E,G,H,A,_,O,P,Th,J,m,dq,dj,dj,S,U⟩,o.step g,v.step g,dj,λC Y hk=>ap C ((bi C Y).resolve_right λQ=>by subst Q;omega) hk⟩
  by_cases ca:c.kind=4
  ·obtain⟨V,aN,L,l⟩:=(B.gr 1 rfl).mM (cx:=cx) (f:=ij.t) B.ok OM rfl Kc rfl dp dp (⟨c.name,true⟩:ij) dq;obtain⟨s,aX,I⟩:=B.app 1 rfl l;obtain⟨g,m⟩:=I _ rfl;simp at s g m;simp[ca,u,x,y,M,X.get,a7,ae,L,s,dP,l.1.gD,l.1.cells];exact⟨z,⟨ver+1,D,V,E,G,H,A,_,O,P,Th,J,m,dq,dj,dj,S,U⟩,o.step g,v.step g,dj,λC Y hk=>ap C ((bi C Y).resolve_right λQ=>by subst Q;omega) hk⟩
  by_cases cb:c.kind=5
  ·have c7:=(B.gr 1 rfl).ry dp;have c6:=λ{tb:fq} (h:tb.p 146=some p8)=>Ko h Lk c.on dj;obtain⟨V,aN,L,l⟩:=(B.gr 2 rfl).mM (cx:=cx) (f:=iB.t) B.ok U9 rfl Rj rfl dp dp (⟨c.name,rj (Lk.map ij.name) c.on 0⟩:iB) dq;obtain⟨s,aX,I⟩:=B.app 2 rfl l;obtain⟨g,m⟩:=I _ rfl;simp at s g m;simp[cb,u,x,y,M,X.get,a7,ae,L,s,dP,l.1.gD,l.1.cells,c7,c6];exact⟨z,⟨ver+1,D,K,V,G,H,A,Lk,_,P,Th,J,m,dj,dq,dj,S,U⟩,o.step g,v.step g,dj,λC Y hk=>ap C ((bi C Y).resolve_right λQ=>by subst Q;omega) hk⟩
  ·obtain⟨V,aN,L,l⟩:=(B.gr 3 rfl).mM (cx:=cx) (f:=T.str) B.ok pO rfl u5 rfl dp dp (c.name) dq;obtain⟨s,aX,I⟩:=B.app 3 rfl l;obtain⟨g,m⟩:=I _ rfl;simp at s g m;simp[eh,b9,ca,cb,u,x,y,M,X.get,a7,ae,L,s,dP,l.1.gD,l.1.cells];exact⟨z,⟨ver+1,D,K,E,V,H,A,Lk,O,_,Th,J,m,dj,dj,dq,S,U⟩,o.step g,v.step g,dj,λC Y hk=>ap C ((bi C Y).resolve_right λQ=>by subst Q;omega) hk⟩
 ·rintro j h ⟨z,⟨ver,D,K,E,G,H,A,Lk,O,P,Th,J,e,av,aA,aE,S,U⟩,o,v,dd,ap,u,x,y,M⟩;have eO:=bs.1.2.1;have ec:∀{i:Nat} (b8:i<d.dB.length),o7 (d.dB.take (i+1))=o7 (d.dB.take i)+dG.ws d.dB[i].body:=λ{i} b8=>by
   unfold o7;rw[aU b8,List.map_append,List.sum_append];simp
  have eb:∀i,o7 (d.dB.take i)<=1000000:=λi=>by
   have:o7 d.dB<=1000000:=bs.2.1;have x:o7 d.dB=o7 (d.dB.take i)+o7 (d.dB.drop i):=by unfold o7;rw[<-List.sum_append,<-List.map_append,cK]
   omega
  simp[u,M,o.get];refine fc d.dB.length dj (λi j h=>WL h 1000000 i (o7 (d.dB.take i)) z/\Lb 2 h 0 (dy 2 0 [d.t])/\Lb 2 h 1 FK/\dz j 1 (.ptr 0 0 0 0)/\dz j 2 (.ptr 1 0 0 0)/\dz j 3 (.ptr 2 0 0 0)/\dz j 9 (dw i)) ?_ ?_ dj ⟨⟨ver,D,K,E,G,H,A,Lk,O,P,Th,J,e,dj,dj,dj,S,by simpa[o7]using U⟩,o,v,by simp[u,x,y]⟩
  ·rintro i j h an ae ⟨⟨ver,D,K,E,G,H,A,Lk,O,P,Th,J,e,av,aA,aE,S,U⟩,o,v,u,x,y,a8⟩;have eA:=ec an;have eB:=eb (i+1);have R:=e.get;simp at R;obtain⟨V,aN,L,l⟩:=(e.gr 4 rfl).mM (cx:=cx) (f:=T.str) e.ok pO rfl u5 rfl dp dp (d.dB[i].name) dq;obtain⟨s,aX,I⟩:=e.app 4 rfl l;obtain⟨g,m⟩:=I _ rfl;simp at s g m;simp[u,y,a8,an,o.get,R,L,s,dP,l.1.gD,l.1.cells];have ce:=o.step g;have eo:=v.step g;have b6:=m.get;simp at b6;generalize dQ aN 2 _=eC at*
   simp[u,a8,an,ce.get,b6,(m.gr 5 rfl).ry,AF];refine gJ K9 dp ⟨J,A,i,0,d.dB[i].body⟩ ⟨⟨rfl,m.gr 5 rfl,m.ok,dt⟩,dt⟩ ?_;rintro _ eD ⟨et,eP,c1,rfl,dk,bu⟩;simp only at dk bu;obtain⟨s,aX,I⟩:=m.app 5 rfl bu;obtain⟨FQ,cp⟩:=I _ rfl;simp at s FQ cp;simp[u,x,y,a8,s,dP,bu.1.gD,bu.1.cells,ae];exact⟨⟨ver+1+1,D,K,E,G,V,et,Lk,O,P,_,c1,cp,av,aA,aE,dq,dj⟩,ce.step FQ,eo.step FQ⟩
  ·rintro j h ⟨⟨ver,D,K,E,G,H,A,Lk,O,P,Th,J,e,av,aA,aE,S,U⟩,o,v,u,x,y,a8⟩;have R:=e.get;simp at R;have a6:=e.rn v (dy 6 1 [.agg [D,K,E,G,H,A]]);have bN:=v.get;unfold FK at bN;have c9:(dQ h 1 (dy 6 1 [.agg [D,K,E,G,H,A]])).get 1=_:=(dE bN _ 1).trans (aq rfl);simp[u,x,y,a8,o.get,R,bN,dP,c9,(a6.gr 0 rfl).fz dp,(a6.gr 1 rfl).fz dp,(a6.gr 2 rfl).fz dp,(a6.gr 3 rfl).fz dp,(a6.gr 4 rfl).fz dp,(a6.gr 5 rfl).fz dp];refine⟨⟨_,rfl,λ_=>⟨dt,dt,dt,dt,dt,?_⟩⟩,e.ok.hp⟩;obtain⟨c,dn,hk,bn⟩:=ea;have al:=ap c (by rw[aL];exact dn) hk;unfold Iu at al;rw[bn]at al;rcases Fx (z.map fZ.name) [113] 0 with Q|⟨n,bH,Q⟩
   ·have:=Fy (z.map fZ.name) [113] 0;rw[Q,eq_true al]at this;simp at this
   ·exact⟨n,by simpa using bH,by rw[Q];simp⟩
 ·obtain⟨er,bT⟩:=m9.start (h:=((hE.cons (dy 2 0 [d.t])).cons FK).cons FK) (w:=2) (szw:=6) (ver:=0) (F:=[(dx,some (5,[])),(dx,some (2,[])),(dx,some (2,[])),(dx,some (1,[])),(dx,some (1,[])),(dx,some (3,[]))]) ⟨dp,dp,dp⟩ (by simp[FK]) dp;exact⟨[],⟨0,_,_,_,_,_,_,[],[],[],[],[],er,dp,dp,dp,dp,dp⟩,⟨dp,λq=>absurd (bT 0 q) du⟩,⟨by simp[FK],λq=>absurd (bT 1 q) du⟩,dp⟩
def eT(a:Int×T):T:= .agg [.int .i64 a.1,a.2]
def ZS{e:H}{c:Nat->Prop}{g:Int}{b d f:Nat}{a:List fF}(h:c b)(j:e.jc (.arr b d 0 f false)=some (a.map fF.t)):FT e c 4 (eT (g,.arr b d 0 f false)) (fM.t ⟨g,a⟩):=by
 have i:∀a:List fF,io (FT e c 2) (a.map fF.t) (a.map fF.t):=λa=>by
  induction a with
  |nil=>exact .nil
  |cons l a k=>exact .cons (.inr (.inr ⟨_,_,rfl,.cons (fR ..) (.cons (fR ..) (.cons (fR ..) (.cons (fR ..) (.cons (fR ..) (.cons (fR ..) .nil))))),rfl⟩)) k
 exact .inr (.inr ⟨_,_,rfl,.cons (fR ..) (.cons (.inr (.inl ⟨b,d,0,f,false,_,_,rfl,h,j,i a,rfl⟩)) .nil),rfl⟩)
def PcS(W:dR)(a:H)(f:Nat):Prop:=∃g e,∃b:List (Int×T),∃d:List fM,m9 a 2 7 g [(sl (W.cells.map fZ.t),none),(sl (W.dV.map ij.t),none),(sl (W.fV.map iB.t),none),(sl (W.dT.map T.str),none),(sl (W.dB.map T.str),none),(sl (W.ik.map il.t),none),(e,some (2,b.map eT))]/\
 io (FT a (λc=>2<c/\c<a.size/\¬Fp a 2 c) 4) (b.map eT) (d.map fM.t)/\b.length=f/\∀h∈d,h.iS.length<=10000001
def Ov{h:H}{w:Nat}{x:iJ}(f:h.get w=some x)(g:∀b∈eQ x.ee,dL b=none)(c:Nat)(e:Fp h w c):c=w:=by
 rcases e with a|⟨j,d,b,i,a⟩
 ·exact a
 ·rw[f]at d;cases d;rw[g b i]at a;simp at a
structure Kp(h h':H):Prop where
 sz:h.size<h'.size
 get:∀b,b<h.size->h'.get b=h.get b
 fp:∀b,Fp h' h.size b->h.size<=b
def Kp.step{c f g:H}(b:Kp c f)(e:Step c.size f g):Kp c g:=
 ⟨bE b.sz e.ok.sz,λa d=>(e.get a (by have:=b.sz;omega) λh=>by have:=b.fp a h;omega).trans (b.get a d),λa d=>(e.fp a d).elim (b.fp a) λh=>by have:=b.sz;omega⟩
def Kp.new{h:H}(g:gu 0 h)(W:dR)(a:List (List Nat))(b:Int):Kp h (h.cons ⟨10,0,0,true,false,[.agg (sd W a (.dC [] false) 0 b)]⟩)/\Gn W a 0 (h.cons ⟨10,0,0,true,false,[.agg (sd W a (.dC [] false) 0 b)]⟩) h.size:=by
 have f:=Ov (h:=h.cons ⟨10,0,0,true,false,[.agg (sd W a (.dC [] false) 0 b)]⟩) (w:=h.size) (x:=⟨10,0,0,true,false,[.agg (sd W a (.dC [] false) 0 b)]⟩) (by rw[dM,aq rfl]) (λi e=>by
  simp[eQ,sd,T.cells]at e;rcases e with rfl|rfl|rfl|rfl|rfl|rfl|rfl|rfl|rfl|rfl<;>simp)
 exact⟨⟨dp,λc d=>by rw[dM,ao dj],λc d=>by rw[f c d];exact au _⟩,g.cons _,λc d=>by rw[f c d];simp,0,.dC [] false,0,b,[],by rw[dM,aq rfl],Gr.nil _ _,rfl⟩
structure Sn(h h':H):Prop where
 ok:gu 0 h'
 size:h'.size=h.size+1
 get:∀c,c<h.size->h'.get c=h.get c
def Sn.new{a:H}(c:gu 0 a)(b:iJ):Sn a (a.cons b):=⟨c.cons b,dp,λd e=>by rw[dM,ao dj]⟩
def Sn.put{a b:H}(d:Sn a b){x:iJ}(g:b.get a.size=some x)(e:iJ):Sn a (dQ b a.size e):=⟨d.ok.put _ e,by rw[fG];exact d.size,λc f=>by rw[dE g,ao dj];exact d.get c f⟩
def Hl:iJ:=⟨7,0,0,true,false,[.agg [.dC [] false,.dC [] false,.dC [] false,.dC [] false,.dC [] false,.dC [] false,.dC [] false]]⟩
def z8:mU Tryz.prog cx 59 (λc:fk=>[c.t]) (λc=>NR c/\c.dB.length<=100) (λc k=>∃(b:jv) (e l:Int),k= .tuple [b.t,.int .i64 e,.int .i64 l]/\∀J∈b.dB,J.iS.length<=10000001):=by
 refine iZ (tb:=⟨pt [(93,jH.jb),(94,Bt.jb),(97,my)],ht [(95,CL 10000001),(96,jp CB tW qg)]⟩) ei eg (iL 19808249554385699031857790975 [] Tryz.func59) (λc=>10000005) (λR j h=>by simp at h;exact fk.inj h) dp (by simp[Tryz.f59]) ?_;rintro c ⟨bC,eV⟩ a bH;simp at bH;have a8:=bC.1;have c1:=λ{tb:fq} (ht:tb.p 93=some jH.jb)=>c04 ht c a8;obtain⟨_,⟨W,rfl,aX⟩,c4⟩:=Bt.use c bC;simp[Tryz.f59,bH,c1];refine dU (λU=> ?_) (λU=> ?_)
 ·simp at U;simp[U];exact⟨⟨⟨[],[],[],[],[],[]⟩,[]⟩,rfl,dp⟩
 have aX:=aX (by simpa using U);simp[c4];refine fc c.dB.length dj (λi a h=>PcS W h i/\Lb 2 h 0 ⟨2,0,0,true,false,[c.t]⟩/\Lb 2 h 1 Hl/\TI.dF a 1=some (.ptr 0 0 0 0)/\TI.dF a 2=some (.ptr 1 0 0 0)/\TI.dF a 7=some (.ptr 2 0 0 0)/\(∃al:Int,TI.dF a 8=some (.int .i64 al))/\TI.dF a 9=some (.int .i64 i)) ?_ ?_ dj ?_
 ·rintro i a h V dk ⟨cb,Q,P,r,x,s,⟨al,y⟩,u⟩;have e4:=cb;obtain⟨ver,an,E,X,g,R,hE,a6⟩:=cb;have O:=g.get;simp at O;have ef:(0=h.size)=False:=by have:=g.lt;simp;omega
  have eP:(2=h.size)=False:=by have:=g.lt;simp;omega
  simp[r,s,y,u,V,Q.get,O,ef];have ht:=a8.1.2.2 c.dB[i] (aF V);have ec:=a8.2.2.1 c.dB[i] (aF V);have eW:c.dB[i]? =some c.dB[i]:=az V;generalize c.dB[i]=t at*
  obtain⟨o,eh⟩:=Kp.new g.ok W t.locals al;refine Kn (K6 10000001) dp eh aX ht.1 ec dj dj λeE b9 ey e0 e1 b7=> ?_;replace o:=o.step ey;obtain⟨e8,e3,e6,bk,eC,gA,c9,di⟩:=b7.ex;obtain⟨FQ,eo⟩:=b7.Gx gA c9 di (-1) bk;replace o:=o.step FQ;simp only[sd]at gA;simp[gA,dP];refine nN (i:=⟨28,0,0,0,0,0⟩) dp eo dj λG eA b8=> ?_;replace o:=o.step eA;obtain⟨e9,e7,e2,cL,j,S,fb,eD,eB,gC,av,eI,dv,b6,eF,ea⟩:=b8.YE dj;have eR:(G.size=h.size)=False:=by have:=o.sz;simp;omega
  have bN:j<G.size:=H.ej av;have eL:=o.fp j dv;have ca:=b8.ok;simp only[sd]at gC;have eO:b9+1<=1000001:=dj;generalize b9+1=M at*
  generalize bS:h.size=N at*
  simp[gC,ca.low];refine fc M dj (λZ a v=>∃(k:Int) (B:Nat),Sn G v/\v.get G.size=some ⟨2,0,B,true,false,[.agg [.int .i64 k,.arr j S 0 M false]]⟩/\TI.dF a 1=some (.ptr 0 0 0 0)/\TI.dF a 2=some (.ptr 1 0 0 0)/\TI.dF a 7=some (.ptr 2 0 0 0)/\TI.dF a 8=some (.int .i64 bk)/\TI.dF a 9=some (.int .i64 i)/\TI.dF a 10=some (.ptr N 0 0 0)/\TI.dF a 11=some (.ptr G.size 0 0 0)/\TI.dF a 12=some (.int .i64 Z)) ?_ ?_ dj ?_
  ·rintro Z a v bT dm ⟨k,B,m,z,r,x,s,y,u,C,K,D⟩;have ap:=(m.get N (by rw[<-bS];exact o.sz)).trans gC;have dd:=(m.get j bN).trans av;obtain⟨J,bi⟩:=ea Z bT;simp[C,D,ap,dd,bT,bi,uj];have eS:(iC J).length<=3:=by unfold iC;(repeat' split)<;>simp
   refine fc (iC J).length dj (λn a v=>∃(k:Int) (B:Nat),Sn G v/\v.get G.size=some ⟨2,0,B,true,false,[.agg [.int .i64 k,.arr j S 0 M false]]⟩/\TI.dF a 1=some (.ptr 0 0 0 0)/\TI.dF a 2=some (.ptr 1 0 0 0)/\TI.dF a 7=some (.ptr 2 0 0 0)/\TI.dF a 8=some (.int .i64 bk)/\TI.dF a 9=some (.int .i64 i)/\TI.dF a 10=some (.ptr N 0 0 0)/\TI.dF a 11=some (.ptr G.size 0 0 0)/\TI.dF a 12=some (.int .i64 Z)/\TI.dF a 13=some (sl ((iC J).map (T.int .i64)))/\TI.dF a 14=some (.int .i64 n)) ?_ ?_ dj ⟨k,B,m,z,by simp[r,x,s,y,u,C,K,D]⟩
   ·rintro n a v a7 dn ⟨k,B,m,z,r,x,s,y,u,C,K,D,aA,aE⟩;simp[r,x,s,y,u,C,K,D,aA,aE,a7,z,nD,dP];exact⟨m.put z _,⟨_,_,(dE z _ _).trans (aq rfl)⟩,by simpa[nD]using dn⟩
   ·rintro a v ⟨k,B,m,z,r,x,s,y,u,C,K,D,aA,aE⟩;simp[r,x,s,y,u,C,K,D,aA,aE,dm];exact⟨m,k,B,z⟩
  ·rintro a v ⟨k,B,m,z,r,x,s,y,u,C,K,D⟩;have L:∀b,b<h.size->v.get b=h.get b:=λb A=>(m.get b (by have:=o.sz;omega)).trans (o.get b A);have bl:=g.step m.ok λb A=>L b (g.fp b A);have bB:=bl.get;simp at bB;obtain⟨bn,aN,bu,bs⟩:=(bl.gr 6 rfl).mM (cx:=cx) (f:=eT) m.ok U2 rfl Re rfl dp (λJ=>rfl) (k,.arr j S 0 M false) dq;obtain⟨ce,e5,er⟩:=bl.app 6 rfl bs;obtain⟨I,cp⟩:=er _ rfl;simp at ce I cp;simp only[eT]at bu;have ap:=(m.get N (by rw[<-bS];exact o.sz)).trans gC;simp[ap,r,x,s,y,u,C,K,D,z,bB,bu,ce,dP,bs.1.gD,bs.1.cells,dk];have eU:=m.size;have eM:=o.sz;have Y:=iE (L 2 g.lt);have ds:∀b,b<N->¬Fp h 2 b->(dQ aN 2 _).get b=h.get b:=λb A a7=>(I.get b dj (by rw[Y];exact a7)).trans (L b dj);have eN:=g.lt;refine⟨⟨_,bn,E++[(k,.arr j S 0 M false)],X++[⟨k,cL⟩],by simpa using cp,?_,dq,λJ bi=> ?_⟩,(Q.ky (L 2 g.lt) (L 0 Q.lt)).step I,(P.ky (L 2 g.lt) (L 1 P.lt)).step I⟩
   ·rw[List.map_append,List.map_append];have eX:v.size<=(dQ aN 2 (⟨7,0,ver+1,true,false,[.agg [sl (W.cells.map fZ.t),sl (W.dV.map ij.t),sl (W.fV.map iB.t),sl (W.dT.map T.str),sl (W.dB.map T.str),sl (W.ik.map il.t),bn]]⟩:iJ)).size:=I.ok.sz;refine io.append (R.ft λb A=>⟨⟨A.1,dj,λq=> ?_⟩,ds b A.2.1 A.2.2⟩) (.cons (ZS ⟨dj,dj,λq=> ?_⟩ ?_) .nil)
    ·rcases I.fp b q with q|q
     ·rw[Y]at q;exact A.2.2 q
     ·omega
    ·rcases I.fp j q with q|q
     ·rw[Y]at q;have:=g.fp j q;omega
     ·omega
    ·have de:(dQ aN 2 (⟨7,0,ver+1,true,false,[.agg [sl (W.cells.map fZ.t),sl (W.dV.map ij.t),sl (W.fV.map iB.t),sl (W.dT.map T.str),sl (W.dB.map T.str),sl (W.ik.map il.t),bn]]⟩:iJ)).get j=_:=((I.get j dj λq=>by rw[Y]at q;have:=g.fp j q;omega).trans (m.get j bN)).trans av;have eb:M<=eB.length:=by
      have:=bM List.length b6;rw[List.length_take,aH]at this;omega
     rw[fW,de];simp[eb,b6]
   ·rcases List.mem_append.1 bi with q|q
    ·exact a6 J q
    ·rw[List.mem_singleton.1 q];simp only;omega
  ·exact⟨t.locals.length,1,Sn.new ca _,dp,by simp[r,x,s,u]⟩
 ·rintro a h ⟨⟨ver,an,E,X,g,R,hE,a6⟩,Q,P,r,x,s,⟨al,y⟩,u⟩;have O:=g.get;simp at O;have ae:=P.get;unfold Hl at ae;have eu:=g.rn P ⟨7,0,1,true,false,[.agg [sl (W.cells.map fZ.t),sl (W.dV.map ij.t),sl (W.fV.map iB.t),sl (W.dT.map T.str),sl (W.dB.map T.str),sl (W.ik.map il.t),an]]⟩;have c7:(dQ h 1 ⟨7,0,1,true,false,[.agg [sl (W.cells.map fZ.t),sl (W.dV.map ij.t),sl (W.fV.map iB.t),sl (W.dT.map T.str),sl (W.dB.map T.str),sl (W.ik.map il.t),an]]⟩).get 1=_:=(dE ae _ 1).trans (aq rfl);have c6:=(eu.gr 6 rfl).IP (d:=4) dj (R.ft (V':=λ_=>True) λj eH=>⟨trivial,by rw[dE ae,ao dj]⟩);simp[r,x,s,u,Q.get,O,ae,dP,c7,c6];exact⟨⟨⟨W,X⟩,rfl,a6⟩,g.ok.hp⟩
 ·obtain⟨et,bz⟩:=m9.start (h:=((hE.cons ⟨2,0,0,true,false,[c.t]⟩).cons Hl).cons ⟨7,0,1,true,false,[.agg [sl (W.cells.map fZ.t),sl (W.dV.map ij.t),sl (W.fV.map iB.t),sl (W.dT.map T.str),sl (W.dB.map T.str),sl (W.ik.map il.t),.dC [] false]]⟩) (w:=2) (szw:=7) (ver:=1) (F:=[(sl (W.cells.map fZ.t),none),(sl (W.dV.map ij.t),none),(sl (W.fV.map iB.t),none),(sl (W.dT.map T.str),none),(sl (W.dB.map T.str),none),(sl (W.ik.map il.t),none),(.dC [] false,some (2,[]))]) ⟨dp,dp,dp⟩ (by simp[Hl]) dp;exact⟨⟨_,_,[],[],et,.nil,rfl,dp⟩,⟨dp,λq=>absurd (bz 0 q) du⟩,⟨by simp[Hl],λq=>absurd (bz 1 q) du⟩,dp⟩
end
end Go.Proofs.YtmaeadedikngoaaGreatDoor
