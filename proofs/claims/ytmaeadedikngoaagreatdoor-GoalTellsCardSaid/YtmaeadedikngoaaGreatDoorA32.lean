/- Texts W09f to W09h. -/
import Derived.Test.YtmaeadedikngoaaGreatDoorA31
set_option linter.all false
set_option maxRecDepth 100000
set_option maxHeartbeats 8000000
namespace Go.Proofs.YtmaeadedikngoaaGreatDoor
noncomputable section
open Go Go.TI
attribute [-simp] List.map_take List.map_drop List.map_append fG fg ei Bool.not_or Bool.not_and
attribute [simp] fF fh
def Sp9(f:H)(a:fH)(b c:List Int):Prop:=∃g d e,nW f 2 7 g [(sl (a.em.map ed.t),none),(dE a.tx,none),(sl (a.done.map T.bool),none),(sl (a.dK.map dN.t),none),(d,some (1,gF b)),(e,some (1,gF c)),(dF,none)]
structure Tt9(c:jM)(S:fH)(C F:List Int)(cc cf:T)(n1 k:Nat)(h:H)(ver:Nat)(ct:T)(es:List T)(ts:List eG)(lo hi:Nat->Nat):Prop where
 ok:ig 0 h
 n:3<=n1/\n1<=h.size
 b0:h.get 0=some (dG 7 0 [c.t])
 b1:h.get 1=some nD
 b2:h.get 2=some (dG 7 ver [.agg [sl (S.em.map ed.t),dE S.tx,sl (S.done.map T.bool),sl (S.dK.map dN.t),cc,cf,ct]])
 gc:Gr h cc 1 (gF C)
 gf:Gr h cf 1 (gF F)
 bx:∀q,dS cc=some q\/dS cf=some q->3<=q/\q<n1
 th:TU n1 h ct es ts lo hi
 l:ts.length=k
 t:∀t∈ts,U6 1000000 t/\t.dO=0
def adE(b:T):Prop:=∃a:iK,b=a.t/\StI a/\WE 0 a
def Ez:nO Tryz.prog cx 76 (λk:jM=>[k.t]) (λk=>∀x∈k.dK,x.jl.length<=10000001) (λ_=>adE):=by
 refine jt (tb:=⟨pt [(74,wC.jv),(73,rK)],ht []⟩) fa eQ (iR 4504699140047487 [] Tryz.func76) (λ_=>1005) (λa b h=>by simp at h;exact jM.inj h) dA (by simp[Tryz.f76]) ?_;rintro k dd r X;simp at X;obtain⟨_,⟨b,rfl,bi⟩,bH⟩:=wC.use k dd;cases b with
 |false=>
  simp[Tryz.f76,X,bH];exact⟨⟨⟨[],0,[],[]⟩,[],[],[]⟩,rfl,⟨dA,λl hl=>by simp at hl,λl hl=>by simp at hl,λK ht=>by simp at ht⟩,λK ht=>by simp at ht⟩
 |true=>
  have U:=bi rfl;have aA:=rG U.1;obtain⟨eO,eP,eR,eS,eU,bX⟩:=aA;have eI:k.dK.length<=4:=by rw[U.2.1];exact bX
  simp[Tryz.f76,X,bH,Iw,show k.fj.em.length<=1000000 by omega,show k.fj.eg.length<=1000000 by omega,show k.fj.dK.length<=1000000 by omega];have a8:(ly k.fj).em.length=k.fj.em.length/\(ly k.fj).done.length=k.fj.eg.length/\(ly k.fj).dK.length=k.fj.dK.length:=by simp[ly]
  have c4:IJ 4 (ly k.fj):=(vy 4 k.fj);have c6:(ly k.fj).E4:=sH k.fj;generalize ly k.fj=o at*
  refine fy k.fj.cells.length dz (λs r h=>∃G,Sp9 h o G []/\G.length=s/\Lb 2 h 0 (dG 7 0 [k.t])/\Lb 2 h 1 nD/\dH r 1 (.ptr 0 0 0 0)/\dH r 2 (.ptr 1 0 0 0)/\dH r 3 (.ptr 2 0 0 0)/\dH r 4 (dE s)) ?_ ?_ dz ?_
  ·rintro s r h P Y ⟨G,⟨ver,I,J,u⟩,cX,z,N,v,C,D,E⟩;have B:=u.get;simp at B;obtain⟨er,h',S,y⟩:=(u.gr 4 rfl).nd (cx:=cx) (f:=T.int .i64) u.ok o6 rfl yV rfl dA (λ_=>rfl) k.fj.cells[s].jY dB;obtain⟨Z,ea,bz⟩:=u.app 4 rfl y;obtain⟨Q,ae⟩:=bz _ rfl;simp only[aV,cw,db,cP]at Z Q ae;simp[v,C,D,E,P,z.get,B,S,Z,dZ,y.1.il,y.1.cells,Y];exact⟨G++[k.fj.cells[s].jY],⟨_,_,_,ae⟩,dB,z.step Q,N.step Q⟩
  ·rintro r h ⟨G,eb,cX,z,N,v,C,D,E⟩;simp[v,E,z.get];refine fy k.fj.eg.length dz (λs r h=>∃F,Sp9 h o G F/\F.length=s/\Lb 2 h 0 (dG 7 0 [k.t])/\Lb 2 h 1 nD/\dH r 1 (.ptr 0 0 0 0)/\dH r 2 (.ptr 1 0 0 0)/\dH r 3 (.ptr 2 0 0 0)/\dH r 5 (dE s)) ?_ ?_ dz ?_
   ·rintro s r h P Y ⟨F,⟨ver,I,J,u⟩,a7,z,N,v,C,D,E⟩;have B:=u.get;simp at B;obtain⟨er,h',S,y⟩:=(u.gr 5 rfl).nd (cx:=cx) (f:=T.int .i64) u.ok o6 rfl yV rfl dA (λ_=>rfl) 0 dB;obtain⟨Z,ea,bz⟩:=u.app 5 rfl y;obtain⟨Q,ae⟩:=bz _ rfl;simp only[aV,cw,db,cP]at Z Q ae;simp[v,C,D,E,P,z.get,B,S,Z,dZ,y.1.il,y.1.cells,Y];exact⟨F++[0],⟨_,_,_,ae⟩,dB,z.step Q,N.step Q⟩
   ·rintro r h ⟨F,⟨ver,I,J,u⟩,a7,z,N,v,C,D,E⟩;simp[v,E,z.get];have B:=u.get;simp at B;have an:=u.gr 4 rfl;have ap:=u.gr 5 rfl;have b8:∀q,dS I=some q\/dS J=some q->3<=q/\q<h.size:=λq M=>by
     have bn:Fp h 2 q:=by
      rcases M with x|x
      ·exact u.By (f:=(I,some (1,gF G))) dA x
      ·exact u.By (f:=(J,some (1,gF F))) dA x
     refine⟨?_,u.fp q bn⟩;have b6:q≠0:=λx=>z.nf (by rw[<-x];exact bn);have et:q≠1:=λx=>N.nf (by rw[<-x];exact bn);have eV:q≠2:=λx=>by
      subst x;rcases M with x|x
      ·obtain⟨_,_,_,_,O,_⟩:=an.box x;rw[B]at O;simp at O
      ·obtain⟨_,_,_,_,O,_⟩:=ap.box x;rw[B]at O;simp at O
     omega
    have eH:=H.ew B;have eE:=an.il;have eB:=an.cells;have eF:=ap.il;have eC:=ap.cells;refine fy k.dK.length dz (λs r h'=>∃ver R aN al bs bp,Tt9 k o G F I J h.size s h' ver R aN al bs bp/\dH r 1 (.ptr 0 0 0 0)/\dH r 2 (.ptr 1 0 0 0)/\dH r 3 (.ptr 2 0 0 0)/\dH r 6 (dE s)) ?_ ?_ (by have:=U.2.1;have:=bX;omega) ?_
    ·rintro s r h' P Y ⟨ver,R,aN,al,bs,bp,i,v,C,D,E⟩;obtain⟨m,de,eL⟩:∃m:Nat,k.dK[s].iT=m/\m<=32:=⟨k.dK[s].iT.toNat,by have:=U.2.2 _ (aC P);have:=this.1;omega,by have:=U.2.2 _ (aC P);have:=this.2.1;omega⟩;have b9:m*8<=70368744177664:=dz;have ca:m*24<=70368744177664:=dz;have c1:=i.n;have b6:∀q,q<3->(q=h'.size)=False:=λq M=>by simp;omega
     have et:∀q,q<3->(q=h'.size+1)=False:=λq M=>by simp;omega
     have bT:=i.ok;have eN:=bT.low;have X1:ig 0 ((h'.cons ⟨1,0,0,true,false,List.replicate m (dE 0)⟩).cons ⟨1,0,0,true,false,List.replicate m dF⟩):=(bT.cons _).cons _;have aX:∀q,((h'.cons ⟨1,0,0,true,false,List.replicate m (dE 0)⟩).cons ⟨1,0,0,true,false,List.replicate m dF⟩).get q=if q=h'.size+1 then some ⟨1,0,0,true,false,List.replicate m dF⟩else if q=h'.size then some ⟨1,0,0,true,false,List.replicate m (dE 0)⟩else h'.get q:=λq=>by rw[dV,dV];rfl
     have b7:((h'.cons ⟨1,0,0,true,false,List.replicate m (dE 0)⟩).cons ⟨1,0,0,true,false,List.replicate m dF⟩).size=h'.size+1+1:=rfl;have bu:Nb h' ((h'.cons ⟨1,0,0,true,false,List.replicate m (dE 0)⟩).cons ⟨1,0,0,true,false,List.replicate m dF⟩):=⟨⟨X1.hp,X1.low,dz⟩,λq M=>(aX q).trans ((ao dz).trans (ao dz))⟩;have cL:=i.th.g.mono (h':=(h'.cons ⟨1,0,0,true,false,List.replicate m (dE 0)⟩).cons ⟨1,0,0,true,false,List.replicate m dF⟩) λq x=>bu.get q (by obtain⟨_,_,_,_,O,_⟩:=i.th.g.box x;exact H.ew O);obtain⟨W,L,S,y⟩:=cL.wh (cx:=cx) X1 Qi rfl Lt rfl dA (x:= .agg [dE 0,.arr h'.size 0 0 m false,.arr (h'.size+1) 0 0 m false,dE 0]) rfl (by have:=i.th.l;have:=i.l;have:=U.2.1;simp;omega);simp only[b7]at S;have eu:=y.2.2.2.sz;rw[b7]at eu;have aE:∀q,dS R=some q->h.size<=q:=λq x=>(i.th.c q x).1;have gN:∀q,q<h'.size->dS R≠some q->L.get q=h'.get q:=λq M di=>(y.2.1 q dz di).trans (bu.get q M);have a6:∀q,q<3->L.get q=h'.get q:=λq M=>gN q dz λx=>by have:=aE q x;omega
     have p2:=(a6 2 dz).trans i.b2;simp[v,C,D,E,P,i.b0,i.b2,de,b9,ca,b6,S,p2,y.1.il,y.1.cells,dZ,Y];have dv:ig 0 L:=⟨y.2.2.2.hp,y.2.2.2.low,aw _⟩;have A:∀q,(dY L 2 (dG 7 (ver+1) [.agg [sl (o.em.map ed.t),dE o.tx,sl (o.done.map T.bool),sl (o.dK.map dN.t),I,J,W]])).get q=if q=2 then some (dG 7 (ver+1) [.agg [sl (o.em.map ed.t),dE o.tx,sl (o.done.map T.bool),sl (o.dK.map dN.t),I,J,W]])else L.get q:=λq=>dP p2 _ q;have dn:=dv.put 2 (dG 7 (ver+1) [.agg [sl (o.em.map ed.t),dE o.tx,sl (o.done.map T.bool),sl (o.dK.map dN.t),I,J,W]]);have eW:(dY L 2 (dG 7 (ver+1) [.agg [sl (o.em.map ed.t),dE o.tx,sl (o.done.map T.bool),sl (o.dK.map dN.t),I,J,W]])).size=L.size:=fU ..;generalize dY L 2 _=a7 at*
     have eM:List.replicate m (T.int .i64 0)=gF (List.replicate m 0):=by simp[gF]
     have ef:A3 h'.size (h'.size+1+1) ((h'.cons ⟨1,0,0,true,false,List.replicate m (dE 0)⟩).cons ⟨1,0,0,true,false,List.replicate m dF⟩) (.arr h'.size 0 0 m false) (.arr (h'.size+1) 0 0 m false) (List.replicate m dF) ⟨0,List.replicate m 0,List.replicate m [],0⟩:=by
      refine⟨.inr ⟨h'.size,0,0,true,_,dA,(aX _).trans ((ao dz).trans (aq rfl)),dA⟩,.inr ⟨h'.size+1,0,0,true,_,dA,(aX _).trans (aq rfl),dA⟩,BH dA λj a b X bi=> ?_,λq x=> ?_,λq x=> ?_⟩
      ·have c7:=bU (ax X);have c9:=bU (ax bi);subst c7;subst c9;exact⟨.inr (Gr.nil _ _),λq x=>by simp at x⟩
      ·simp at x;subst x;exact⟨au _,dz,dA⟩
      ·simp at x;subst x;exact⟨dz,dz⟩
     have ec:=(i.th.app i.n.2 bu ef y).mono (h':=a7) dz λq v _=>(A q).trans (ao dz);refine⟨ver+1,W,_,_,_,_,⟨dn,⟨i.n.1,dz⟩,(A 0).trans ((ao dz).trans ((a6 0 dz).trans i.b0)),(A 1).trans ((ao dz).trans ((a6 1 dz).trans i.b1)),(A 2).trans (aq rfl),i.gc.mono λq x=> ?_,i.gf.mono λq x=> ?_,i.bx,ec,by simp[i.l],λK ht=> ?_⟩⟩
     ·have:=i.bx q (.inl x);exact(A q).trans ((ao dz).trans (gN q dz λp=>by have:=aE q p;omega))
     ·have:=i.bx q (.inr x);exact(A q).trans ((ao dz).trans (gN q dz λp=>by have:=aE q p;omega))
     ·rcases List.mem_append.1 ht with q|q
      ·exact i.t K q
      ·simp at q;subst q;exact⟨⟨dB,dB,λl hl=>by have:=bU hl;subst this;exact Tn.nil _⟩,rfl⟩
    ·rintro r h' ⟨ver,R,aN,al,bs,bp,i,v,C,D,E⟩;have bk:=i.b1;unfold nD at bk;have A:∀p q,(dY h' 1 p).get q=if q=1 then some p else h'.get q:=λp q=>dP bk p q;have c1:=i.n;have cb:∀p,TI.fz (dY h' 1 p) I=some (sl (gF G)):=λp=>(i.gc.mono (h':=dY h' 1 p) λq x=>by have:=i.bx q (.inl x);rw[A,ao dz]).fz dA;have ce:∀p,TI.fz (dY h' 1 p) J=some (sl (gF F)):=λp=>(i.gf.mono (h':=dY h' 1 p) λq x=>by have:=i.bx q (.inr x);rw[A,ao dz]).fz dA;have cp:∀p,TI.fz (dY h' 1 p) R=some (sl (al.map eG.t)):=λp=>by
      have bC:=i.th.mono (h':=dY h' 1 p) (by rw[fU];exact au _) λq v _=>by rw[A,ao dz]
      refine bC.g.Ic (V:=λ_=>True) (d:=4) dz (BH (by simp[bC.l]) λj x w dm aA=> ?_);rw[aU]at aA;obtain⟨eo,dk,rfl⟩:=Option.map_eq_some_iff.1 aA;obtain⟨ey,eA,eD,rfl,eh⟩:=bC.e j x eo dm dk;exact .inr (.inr ⟨_,_,rfl,eh.fz _ λ_ _ _=>trivial,rfl⟩)
     simp[v,C,D,E,i.b0,i.b2,bk,dZ,A,cb,ce,cp,i.ok.hp];have hl:=i.l;refine⟨⟨o,G,F,al⟩,rfl,⟨⟨by rw[a8.1];omega,by rw[a8.2.1];omega,by rw[a8.2.2];omega,dC,dC,dC⟩,c4,c6,λK ht=>(i.t K ht).1⟩,λK ht=>by have:=(i.t K ht).2;omega⟩
    ·refine⟨ver,dF,[],[],λ_=>0,λ_=>0,⟨u.ok,⟨dz,au _⟩,z.get,N.get,B,an,ap,b8,⟨Gr.nil _ _,rfl,λs e K x=>by simp at x,λs x=>by simp at x,λs j x p=>by simp at p,λk x=>by simp at x⟩,rfl,λK ht=>by simp at ht⟩,by simp[v,C,D]⟩
   ·exact⟨[],eb,rfl,z,N,by simp[v,C,D]⟩
  ·generalize av:H.cons _ _=bN;have ds:ig 0 bN:=by rw[<-av];exact⟨dA,dA,dA⟩
   have bB:=nW.start (h:=bN) (w:=2) (szw:=7) (ver:=1) (F:=[(sl (o.em.map ed.t),none),(dE o.tx,none),(sl (o.done.map T.bool),none),(sl (o.dK.map dN.t),none),(dF,some (1,[])),(dF,some (1,[])),(dF,none)]) ds (by rw[<-av];simp) (λf bS=>by
    simp only[cu,dg,or_false]at bS;rcases bS with rfl|rfl|rfl|rfl|rfl|rfl|rfl
    iterate 4 exact .inl ⟨rfl,dA⟩
    iterate 2 exact .inr ⟨rfl,1,rfl,dD⟩
    exact .inl ⟨rfl,rfl⟩)
   exact⟨[],⟨1,_,_,bB.1⟩,rfl,⟨by rw[<-av];simp,λx=>absurd (bB.2 0 x) dz⟩,⟨by rw[<-av];simp[nD],λx=>absurd (bB.2 1 x) dz⟩,dA⟩
end
noncomputable section
open Go Go.TI
attribute [-simp] List.map_take List.map_drop List.map_append fG fg ei Bool.not_or Bool.not_and
attribute [simp] fF fh
attribute [-simp] size_cons
structure IFr where
 (c:jM) (s:iK) (L:List ji)
def Uz(a:IFr)(b:List T)(d:H):Prop:=b=[a.c.t,a.s.t,dF,sl (a.L.map ji.t)]/\ig 0 d/\(∀e∈a.c.dK,e.jl.length<=10000001)/\StI a.s/\WE 0 a.s/\a.L.length<=80
def OH(i:IFr)(h:List T)(c:H)(f:T)(d:H):Prop:=∃(a:List ez) (g:iK) (b:T),f= .tuple [b,g.t]/\Gr d b 7 (a.map ez.t)/\(∀e,dS b=some e->c.size<=e)/\Nb c d/\Kb a/\a.length<=80
structure Fr9(c:jM)(h0:H)(n:Nat)(h:H)(s:iK)(l:List ez)(v:T)(ver:Nat):Prop where
 nb:Nb h0 h
 z:h0.size+3<=h.size
 b0:h.get h0.size=some (dG 7 0 [c.t])
 b1:h.get (h0.size+1)=some (dG 7 ver [s.t])
 b2:h.get (h0.size+1+1)=some nD
 g:Gr h v 7 (l.map ez.t)
 bx:∀q,dS v=some q->h0.size+3<=q
 st:StI s
 ev:WE n s
 es:Kb l
 l:l.length<=n
def Fr9.ok{c:jM}{d a:H}{g:Nat}{h:iK}{f:List ez}{j:T}{k:Nat}(b:Fr9 c d g a h f j k):ig 0 a:=⟨b.nb.ok.hp,b.nb.ok.low,aw _⟩
def Pi:(jw IFr Uz OH).Ok Tryz.prog cx 75:=by
 refine jo (tb:=⟨pt [(116,Hr.jv)],ht []⟩) fa eQ (iR 68723687231 [(4,[(6,11),(6,12)])] Tryz.func75) (λ_ _=>1005) (λi S d bB=>by obtain⟨rfl,_⟩:=bB;simp[Tryz.f75]) ?_;rintro⟨r,j,D⟩ _ c ⟨rfl,ae,W,Y,V,bn⟩ o I;simp only at W Y V bn;simp at I;obtain⟨a8,bi,s,u⟩:=I;have P:=ae.hr;simp[Tryz.f75,a8,bi];have cb:=ae.low;generalize p:((H.cons _ _).cons _).cons _=v;have ce:ig 0 v:=by rw[<-p];exact((P.cons _).cons _).cons _
 have c7:v.size=c.size+1+1+1:=by rw[<-p];rfl
 have bH:Nb c v:=by rw[<-p];exact⟨((((Nb.refl P).cons _).cons _).cons _).ok,λr bp=>(((((Nb.refl P).cons _).cons _).cons _).get r bp).trans (gh c r)⟩
 have b6:v.get c.size=some (dG 7 0 [r.t]):=by rw[<-p];simp
 have b7:v.get (c.size+1)=some (dG 7 0 [j.t]):=by rw[<-p];simp
 have b8:v.get (c.size+1+1)=some nD:=by rw[<-p];simp[nD]
 clear p;refine nz D.length (λm o d=>∃j A B n,Fr9 r c m d j A B n/\dH o 4 (.ptr c.size 0 0 0)/\dH o 5 (.ptr (c.size+1) 0 0 0)/\dH o 9 (.ptr (c.size+1+1) 0 0 0)/\dH o 2 B/\dH o 3 (sl (D.map ji.t))/\dH o 10 (dE m)) ?_ dz (aw _) ?_
 ·rintro m o d ca ⟨j,A,B,n,b,K,x,L,s,u,F⟩;have Z:=b.g.len (cx:=cx) d Vn _ rfl;rw[aG]at Z;simp[s,u,F,Z];refine ee (λe=> ?_) (λe=> ?_)
  ·have bz:m<D.length:=by simp at e;exact e.1
   have bC:=b.z;have a6:WE 999000 j:=λQ ht=>by have:=b.ev Q ht;omega
   obtain⟨_,⟨q,E,bS,rfl,bu,X⟩,T⟩:=Hr.use (r,j,D[m]) ⟨W,b.st,a6⟩;simp only at T X;have cp:(c.size=d.size)=False:=by simp<;>omega
   have cX:(c.size+1=d.size)=False:=by simp<;>omega
   have cL:(c.size=d.size+1)=False:=by simp<;>omega
   have c1:(c.size+1=d.size+1)=False:=by simp<;>omega
   simp[u,K,x,F,b.b0,b.b1,bz,T,b.ok.low];generalize G:dY _ (d.size+1) _=h;have O:ig 0 ((d.cons (dG 7 1 [q.t])).cons (dG 7 0 [.agg [dE 0,dE 0,dE 0,dE 0,dE 0,dF,dF]])):=(b.ok.cons _).cons _;have N:ig 0 h:=by rw[<-G];exact O.put _ _
   have b9:h.size=d.size+1+1:=by rw[<-G,fU];rfl
   have J:∀a,h.get a=if a=d.size+1 then some (dG 7 1 [E.t])else if a=d.size then some (dG 7 1 [q.t])else d.get a:=λa=>by
    rw[<-G,mM O.hp (by show _<d.size+1+1;omega)];split
    ·rfl
    ·rw[dV,ao (by assumption),dV]
   clear G O;have Go:∀a,a<d.size->h.get a=d.get a:=λa e=>(J a).trans ((ao dz).trans (ao dz));have a0:=(Go c.size dz).trans b.b0;have a1:=(Go (c.size+1) dz).trans b.b1;have a2:=(Go (c.size+1+1) dz).trans b.b2;have an:=(J d.size).trans ((ao dz).trans (aq rfl));have al:=(J (d.size+1)).trans (aq rfl);have gA:=b.g.mono (h':=h) λa f=>by obtain⟨_,_,_,_,g,_⟩:=b.g.box f;exact Go a (H.ew g)
   cases bS with
   |false=>
    simp[s,u,K,x,L,F,ou];rw[<-jF,jI dz dz];exact⟨m+1,dz,dz,j,A,B,⟨n,⟨⟨⟨N.hp,N.low,dz⟩,λa e=>(Go a dz).trans (b.nb.get a e)⟩,dz,a0,a1,a2,gA,b.bx,b.st,λQ ht=>by have:=b.ev Q ht;omega,b.es,by have:=b.l;omega⟩⟩,rfl,dA⟩
   |true=>
    obtain⟨bT,aX⟩:=X rfl;have bN:ig 0 (dY h (c.size+1) (dG 7 (n+1) [q.t])):=N.put _ _;have k:∀a,(dY h (c.size+1) (dG 7 (n+1) [q.t])).get a=if a=c.size+1 then some (dG 7 (n+1) [q.t])else h.get a:=λa=>dP a1 _ a;have c4:(dY h (c.size+1) (dG 7 (n+1) [q.t])).size=d.size+1+1:=by rw[fU];exact b9
    simp[s,x,an,a1];generalize dY h (c.size+1) _=U at*
    have ap:=(k c.size).trans ((ao dz).trans a0);have av:=(k (c.size+1)).trans (aq rfl);have aA:=(k (c.size+1+1)).trans ((ao dz).trans a2);have aE:=(k (d.size+1)).trans ((ao dz).trans al);have a7:=gA.mono (h':=U) λa f=>(k a).trans (ao (by have:=b.bx a f;omega));obtain⟨bX,bk,aN,w⟩:=a7.nd (cx:=cx) bN Qm rfl Qj rfl dA (λ_=>rfl) E (by have:=b.l;simp;omega);simp[u,K,x,L,F,aE,aN,ou];rw[<-jF,jI dz dz];have c6:=w.2.2.2.sz;have C:∀a,a<c.size+3->bk.get a=U.get a:=λa e=>w.2.1 a dz λf=>by have:=b.bx a f;omega
    exact⟨m+1,dz,dz,q,A++[E],bX,⟨n+1,⟨⟨⟨w.2.2.2.hp,w.2.2.2.low,dz⟩,λa e=>(C a dz).trans ((k a).trans ((ao dz).trans ((Go a dz).trans (b.nb.get a e))))⟩,dz,(C c.size dz).trans ap,(C (c.size+1) dz).trans av,(C (c.size+1+1) dz).trans aA,w.1,λa f=>by
     rcases w.2.2.1 a f with y|y
     ·exact b.bx a y
     ·omega,bT,aX m b.ev,λS I=>by
     rcases List.mem_append.1 I with y|y
     ·exact b.es S y
     ·simp at y;subst y;exact bu,by have:=b.l;simp;omega⟩⟩,rfl,dA⟩
  ·have M:=b.b2;unfold nD at M;have bC:=b.z;have k:∀y a,(dY d (c.size+1+1) y).get a=if a=c.size+1+1 then some y else d.get a:=λy a=>dP M y a;simp[s,x,L,b.b1,M,dZ,k];have R:∀a,a≠c.size+1+1->(lO c (dY d (c.size+1+1) (dG 7 1 [j.t]))).get a=d.get a:=λa e=>by rw[fO,k,ao e]
   exact⟨A,j,B,rfl,b.g.mono λa f=>R a (by have:=b.bx a f;omega),λa f=>by have:=b.bx a f;omega,⟨⟨((b.ok.put _ _).out c).hp,((b.ok.put _ _).out c).low,by rw[wB,fU];exact b.nb.ok.sz⟩,λa e=>(R a dz).trans (b.nb.get a e)⟩,b.es,by have:=b.l;omega⟩
 ·exact⟨j,[],_,_,⟨bH,dz,b6,b7,b8,Gr.nil _ _,λa f=>by simp at f,Y,V,λE bs=>by simp at bs,au _⟩,by simp[s,u]⟩
end
noncomputable section
open Go Go.TI
attribute [-simp] List.map_take List.map_drop List.map_append fG fg ei Bool.not_or Bool.not_and
attribute [simp] fF fh
def U8(a:H)(j:Nat):Prop:=∃i d e f c g h,∃b:List dQ,a.get j=some (dG 6 i [.agg [d,e,f,c,g,h]])/\Gr a c 11 (b.map dQ.t)/\b.length<=1000000/\ig 0 a
def Fi:lf:=⟨λd a=>∃b c e h,d=[.ptr b 0 0 0,dE c,dE e,.str h]/\U8 a b,λ_ a g f=>f=a/\ER g⟩
def Ph:Fi.Ok Tryz.prog cx 226:=by
 refine IU (tb:=⟨pt [],ht []⟩) fa eQ (iR 70368744310543 [] Tryz.func226) false (λ_ _=>1000005) (λN b L=>by obtain⟨g,y,e,G,rfl,_⟩:=L;simp[Tryz.f226]) ?_;rintro _ b ⟨g,y,e,G,rfl,Y,O,P,Q,z,R,S,h,s,n,hl,v⟩ d B;simp at B;obtain⟨f,i,j,k⟩:=B;have u:=H.ew s;simp[Tryz.f226];refine fy h.length dz (λo d c=>Fr b.size (hr b) c/\ig 0 c/\dH d 0 (.ptr g 0 0 0)/\dH d 1 (dE y)/\dH d 2 (dE e)/\dH d 3 (.str G)/\dH d 9 (dE o)) ?_ ?_ dz (by simp[f,i,j,k,Fr.refl,v.hr])
 ·rintro o d c D J ⟨a,w,f,i,j,k,m⟩;have p:=(a.get g u).trans ((gh b g).trans s);have l:Gr c z 11 (h.map dQ.t):=n.mono λe q=>by obtain⟨_,_,_,_,x,_⟩:=n.box q;rw[a.get e (H.ew x),gh]
  have K:o<(h.map dQ.t).length:=by simpa using D
  obtain⟨I,T,Z,U,ae,W,M,E,F⟩:=l.JS (te:=GT) rfl K;have V:=Nat.ne_of_lt (bE u a.size);simp at F;have X:(I=c.size)=False:=by simp;have:=H.ew E;omega
  simp[f,i,j,k,m,p,l.len (cx:=cx),M,E,F,D,w.low];have A:=a.trans (Fr.cons (lo:=b.size) (by have:b.size<=c.size:=a.size;omega) (dG 11 1 [h[o].t]))
  repeat' (refine ee (λC=> ?_) (λC=> ?_)<;>simp[C,f,i,j,k,m,J,A,w.cons])
  exact qh b _ _ v.hp A (r:= .bool true) rfl ⟨rfl,dA⟩
 ·rintro d c ⟨a,w,f,i,j,k,m⟩;have p:=(a.get g u).trans ((gh b g).trans s);have l:Gr c z 11 (h.map dQ.t):=n.mono λe q=>by obtain⟨_,_,_,_,x,_⟩:=n.box q;rw[a.get e (H.ew x),gh]
  simp[f,m,p,l.len (cx:=cx)];exact qh b _ _ v.hp a (r:= .bool false) rfl ⟨rfl,dA⟩
structure Wk(p:fK)(A:List dQ)(n:Nat)(h:H)(w:Nat):Prop where
 ok:ig 0 h
 fp:∀b,Fp h w b->b<h.size
 ex:∃ver t av sv ev,∃S E:List (List Nat),h.get w=some (dG 6 ver [.agg [sl (p.jq.map iy.t),sl (p.dK.map fR.t),dE t,av,sv,ev]])/\
  Gr h av 11 (A.map dQ.t)/\Gr h sv 1 (S.map T.str)/\Gr h ev 1 (E.map T.str)/\S.length<=n/\E.length<=n/\∀b,dS sv=some b->dS ev≠some b
def Wk.ins{k:fK}{a:List dQ}{j:Nat}{b:H}{d:Nat}(c:Wk k a j b d)(i:a.length<=1000000):U8 b d:=by
 obtain⟨l,o,e,sv,f,n,m,g,h,_⟩:=c.ex;exact⟨l,_,_,_,e,sv,f,a,g,h,i,c.ok⟩
def s7{c:H}{d:Nat}{a:iZ}(f:c.get d=some a){v:T}(g:v∈fw a.eY){b:Nat}(e:dS v=some b):Fp c d b:= .inr ⟨a,f,v,g,e⟩
def Wk.same{m:fK}{h:List dQ}{l k:Nat}{c d:H}{g:Nat}(j:Wk m h l c g)(B:l<=k)(w:ig 0 d)(f:∀a,Fp c g a->d.get a=c.get a)(v:c.size<=d.size):Wk m h k d g:=by
 obtain⟨y,x,p,sv,q,o,n,e,r,s,t,z,A,u⟩:=j.ex;have i:=f g (.inl rfl);refine⟨w,λa b=>by rw[iW i]at b;exact bE (j.fp a b) v,y,x,p,sv,q,o,n,by rw[i];exact e,?_,?_,?_,dz,dz,u⟩
 ·exact r.mono λa b=>f a (s7 e (by simp[fw,T.cells]) b)
 ·exact s.mono λa b=>f a (s7 e (by simp[fw,T.cells]) b)
 ·exact t.mono λa b=>f a (s7 e (by simp[fw,T.cells]) b)
def Wk.lt{f:fK}{c:List dQ}{e:Nat}{b:H}{a:Nat}(d:Wk f c e b a):a<b.size:=d.fp a (.inl rfl)
def Wk.cons{e:fK}{b:List dQ}{d:Nat}{c:H}{w:Nat}(a:Wk e b d c w)(f:iZ):Wk e b d (c.cons f) w:=
 a.same (au _) (a.ok.cons f) (λg h=>by rw[dV,ao (by have:=a.fp g h;omega)]) dA 
def Wk.hr{e:fK}{b:List dQ}{d:Nat}{a:H}{f:Nat}(c:Wk e b d a f):Wk e b d (TI.hr a) f:=c.same (au _) c.ok.hr (λg _=>gh a g) (au _)
def Wk.out{e:fK}{b:List dQ}{d m:Nat}{h a:H}{f:Nat}(c:Wk e b d a f)(i:d<=m):Wk e b m (lO h a) f:=c.same i (c.ok.out h) (λg _=>fO h a g) (au _)
def Wk.spawn{a:fK}{m:List dQ}{k d h:Nat}{c f:H}{g:Int}{e sv b l:T}{j n:List (List Nat)}{w:List Nat}(u:Wk a m k c d)(o:c.get d=some (dG 6 h [.agg [sl (a.jq.map iy.t),sl (a.dK.map fR.t),dE g,e,sv,b]]))
 (gA:Gr c e 11 (m.map dQ.t)) (s:Gr c sv 1 (j.map T.str)) (C:Gr c b 1 (n.map T.str)) (F:j.length<=k) (G:n.length<=k) (B:∀r,dS sv=some r->dS b≠some r) (D:Bl c sv 1 (j.map T.str++[.str w]) l f):
 f.get d=some (dG 6 h [.agg [sl (a.jq.map iy.t),sl (a.dK.map fR.t),dE g,e,sv,b]])/\fc c f d=true/\
  Step d c (dY f d (dG 6 (h+1) [.agg [sl (a.jq.map iy.t),sl (a.dK.map fR.t),dE g,e,l,b]]))/\
  Wk a m (k+1) (dY f d (dG 6 (h+1) [.agg [sl (a.jq.map iy.t),sl (a.dK.map fR.t),dE g,e,l,b]])) d:=by
 obtain⟨p,E⟩:=wD (i:=4) u.ok u.fp o rfl dD s D.xt;obtain⟨q,z,A,v⟩:=E _ rfl;obtain⟨a1,a2⟩:=v e 11 _ dA gA (s.ne gA dD) dD;obtain⟨x,y⟩:=v b 1 _ dA C B dD;exact⟨p.trans o,fk p,q,⟨q.ok.hp,q.ok.low,aw _⟩,z,h+1,g,e,l,b,j++[w],n,by rw[dP (p.trans o),aq rfl],a1,by rw[List.map_append];exact A,x,dB,dz,y⟩
def Wk.set{a:fK}{o:List dQ}{m c k:Nat}{b h:H}{j:Int}{d sv g n:T}{p l:List (List Nat)}{x:List Nat}(f:Wk a o m b c)(q:b.get c=some (dG 6 k [.agg [sl (a.jq.map iy.t),sl (a.dK.map fR.t),dE j,d,sv,g]]))
 (gA:Gr b d 11 (o.map dQ.t)) (D:Gr b sv 1 (p.map T.str)) (v:Gr b g 1 (l.map T.str)) (G:p.length<=m) (I:l.length<=m) (C:∀e,dS sv=some e->dS g≠some e) (E:Bl b g 1 (l.map T.str++[.str x]) n h):
 h.get c=some (dG 6 k [.agg [sl (a.jq.map iy.t),sl (a.dK.map fR.t),dE j,d,sv,g]])/\fc b h c=true/\
  Step c b (dY h c (dG 6 (k+1) [.agg [sl (a.jq.map iy.t),sl (a.dK.map fR.t),dE j,d,sv,n]]))/\
  Wk a o (m+1) (dY h c (dG 6 (k+1) [.agg [sl (a.jq.map iy.t),sl (a.dK.map fR.t),dE j,d,sv,n]])) c:=by
 obtain⟨s,F⟩:=wD (i:=5) f.ok f.fp q rfl dD v E.xt;obtain⟨u,A,B,w⟩:=F _ rfl;obtain⟨a1,a2⟩:=w d 11 _ dA gA (v.ne gA dD) dD;obtain⟨y,z⟩:=w sv 1 _ dA D (λe r f=>C e f r) dD;exact⟨s.trans q,fk s,u,⟨u.ok.hp,u.ok.low,aw _⟩,A,k+1,j,d,sv,n,p,l++[x],by rw[dP (s.trans q),aq rfl],a1,y,by rw[List.map_append];exact B,dz,dB,λe r f=>z e f r⟩
def Wk.Xu{a:fK}{h:List dQ}{k d g:Nat}{c e:H}{f:Int}{j sv b l:T}{n m:List (List Nat)}{x:dQ}(v:Wk a h k c d)(o:c.get d=some (dG 6 g [.agg [sl (a.jq.map iy.t),sl (a.dK.map fR.t),dE f,j,sv,b]]))
 (gA:Gr c j 11 (h.map dQ.t)) (u:Gr c sv 1 (n.map T.str)) (s:Gr c b 1 (m.map T.str)) (B:n.length<=k) (C:m.length<=k) (D:∀r,dS sv=some r->dS b≠some r) (E:Bl c j 11 (h.map dQ.t++[x.t]) l e):
 e.get d=some (dG 6 g [.agg [sl (a.jq.map iy.t),sl (a.dK.map fR.t),dE f,j,sv,b]])/\fc c e d=true/\
  Step d c (dY e d (dG 6 (g+1) [.agg [sl (a.jq.map iy.t),sl (a.dK.map fR.t),dE f,l,sv,b]]))/\
  Wk a (h++[x]) k (dY e d (dG 6 (g+1) [.agg [sl (a.jq.map iy.t),sl (a.dK.map fR.t),dE f,l,sv,b]])) d:=by
 obtain⟨p,F⟩:=wD (i:=3) v.ok v.fp o rfl dD gA E.xt;obtain⟨q,z,A,w⟩:=F _ rfl;obtain⟨a1,a2⟩:=w sv 1 _ dA u (gA.ne u dD) dD;obtain⟨y,G⟩:=w b 1 _ dA s (gA.ne s dD) dD;exact⟨p.trans o,fk p,q,⟨q.ok.hp,q.ok.low,aw _⟩,z,g+1,f,l,sv,b,n,m,by rw[dP (p.trans o),aq rfl],by rw[List.map_append];exact A,a1,y,B,C,D⟩
def Wk.back{b:fK}{p:List dQ}{o i k:Nat}{d:H}{j:Int}{m sv f h:T}{r q:List (List Nat)}{G:dQ}(g:Wk b (p++[G]) o d i)(c:d.get i=some (dG 6 k [.agg [sl (b.jq.map iy.t),sl (b.dK.map fR.t),dE j,m,sv,f]]))
 (E:Gr d sv 1 (r.map T.str)) (D:Gr d f 1 (q.map T.str)) (A:r.length<=o) (B:q.length<=o) (C:∀e,dS sv=some e->dS f≠some e) (gA:Gr d h 11 (p.map dQ.t)) (n:dS h=dS m):
   Step i d (dY d i (dG 6 (k+1) [.agg [sl (b.jq.map iy.t),sl (b.dK.map fR.t),dE j,h,sv,f]]))/\
   Wk b p o (dY d i (dG 6 (k+1) [.agg [sl (b.jq.map iy.t),sl (b.dK.map fR.t),dE j,h,sv,f]])) i:=by
 have w:=Step.put g.ok c (dG 6 (k+1) [.agg [sl (b.jq.map iy.t),sl (b.dK.map fR.t),dE j,h,sv,f]]) (λv l e a=>by
  simp[fw,T.cells]at l;rcases l with rfl|rfl|rfl|rfl|rfl|rfl
  ·simp at a
  ·simp at a
  ·simp at a
  ·exact .inl (s7 c (v:=m) (by simp[fw,T.cells]) (by rw[<-n];exact a))
  ·exact .inl (s7 c (v:=v) (by simp[fw,T.cells]) a)
  ·exact .inl (s7 c (v:=v) (by simp[fw,T.cells]) a))
 have u:∀{v:T} {x:Nat} {y:List T},Gr d v x y->x≠6->Gr (dY d i (dG 6 (k+1) [.agg [sl (b.jq.map iy.t),sl (b.dK.map fR.t),dE j,h,sv,f]])) v x y:=λz F=>z.mono λe n=>by
  obtain⟨_,_,_,_,a,_⟩:=z.box n;rw[dP c,ao (λg=>by subst g;rw[c]at a;simp at a;exact F a.1.symm)]
 refine⟨w,⟨w.ok.hp,w.ok.low,aw _⟩,λe a=> ?_,k+1,j,h,sv,f,r,q,by rw[dP c,aq rfl],u gA dD,u E dD,u D dD,A,B,C⟩;rw[fU];rcases a with rfl|⟨I,s,v,l,a⟩
 ·exact g.lt
 rw[dP c,aq rfl]at s;simp only[ar]at s;subst s;simp[fw,T.cells]at l;rcases l with rfl|rfl|rfl|rfl|rfl|rfl
 ·simp at a
 ·simp at a
 ·simp at a
 ·exact g.fp e (s7 c (v:=m) (by simp[fw,T.cells]) (by rw[<-n];exact a))
 ·exact g.fp e (s7 c (v:=v) (by simp[fw,T.cells]) a)
 ·exact g.fp e (s7 c (v:=v) (by simp[fw,T.cells]) a)
def Wk.dT{b:fK}{n:List dQ}{m h k:Nat}{d:H}{G:Int}{f sv e:T}{p o:List (List Nat)}(l:Wk b n m d h)(g:d.get h=some (dG 6 k [.agg [sl (b.jq.map iy.t),sl (b.dK.map fR.t),dE G,f,sv,e]]))
 (gA:Gr d f 11 (n.map dQ.t)) (D:Gr d sv 1 (p.map T.str)) (C:Gr d e 1 (o.map T.str)) (z:p.length<=m) (A:o.length<=m) (B:∀c,dS sv=some c->dS e≠some c) (j:Int):
   Step h d (dY d h (dG 6 (k+1) [.agg [sl (b.jq.map iy.t),sl (b.dK.map fR.t),dE j,f,sv,e]]))/\
   Wk b n m (dY d h (dG 6 (k+1) [.agg [sl (b.jq.map iy.t),sl (b.dK.map fR.t),dE j,f,sv,e]])) h:=by
 have y:∀v∈ [sl (b.jq.map iy.t),sl (b.dK.map fR.t),dE j,f,sv,e],∀c,dS v=some c->Fp d h c:=λv i c a=>by
  simp at i;rcases i with rfl|rfl|rfl|rfl|rfl|rfl
  ·simp at a
  ·simp at a
  ·simp at a
  ·exact s7 g (v:=v) (by simp[fw,T.cells]) a
  ·exact s7 g (v:=v) (by simp[fw,T.cells]) a
  ·exact s7 g (v:=v) (by simp[fw,T.cells]) a
 have s:=Step.put l.ok g (dG 6 (k+1) [.agg [sl (b.jq.map iy.t),sl (b.dK.map fR.t),dE j,f,sv,e]]) (λv i c a=> .inl (y v (by simpa[fw,T.cells]using i) c a));have r:∀{v:T} {u:Nat} {w:List T},Gr d v u w->u≠6->Gr (dY d h (dG 6 (k+1) [.agg [sl (b.jq.map iy.t),sl (b.dK.map fR.t),dE j,f,sv,e]])) v u w:=λx F=>x.mono λc E=>by
  obtain⟨_,_,_,_,a,_⟩:=x.box E;rw[dP g,ao (λl=>by subst l;rw[g]at a;simp at a;exact F a.1.symm)]
 refine⟨s,⟨s.ok.hp,s.ok.low,aw _⟩,λc a=> ?_,k+1,j,f,sv,e,p,o,by rw[dP g,aq rfl],r gA dD,r D dD,r C dD,z,A,B⟩;rw[fU];rcases a with rfl|⟨I,q,v,i,a⟩
 ·exact l.lt
 rw[dP g,aq rfl]at q;simp only[ar]at q;subst q;exact l.fp c (y v (by simpa[fw,T.cells]using i) c a)
structure XF where
 (p:fK) (A:List dQ) (n w:Nat) (s:dQ)
def VJ(a:XF)(c:List T)(d:H):Prop:=c=[.ptr a.w 0 0 0,a.s.t]/\Wk a.p a.A a.n d a.w/\RO a.p/\a.n<=10000000/\a.s.w<=1000000/\a.A.length<=1000000/\
 (9<=a.s.op/\a.s.op<=11->∃b,b<a.p.jq.length/\sj (a.p.jq.map iy.name) a.s.name 0=b)
def KZ(a:XF)(e:List T)(c:H)(d:T)(b:H):Prop:=EQ d/\Step a.w c b/\Wk a.p a.A (a.n+1) b a.w
noncomputable abbrev Z5:lf:=jw XF VJ KZ
def aaq:Z5.Ok Tryz.prog cx 193:=by
 obtain⟨K,cX⟩:=hlB Ph (λ_ _ _ _ o=>o);refine jo (tb:=⟨pt [(228,z8.jv),(229,Cn.jv),(227,VU.jv),(230,EB.jv),(110,Bp),(191,nh),(192,ls)],ht [(226,Fi)]⟩) fa eQ (iR 14474012017383023515249485065460760621927424225494418519668988771800801378299 [(1,[(7,9)]),(8,[(4,5),(4,8)]),(9,[(4,5),(4,8),(4,9),(4,10),(4,12),(11,12),(4,15),(11,15)]),(28,[(2,7)]),(49,[(4,5),(4,8)])] Tryz.func193) (λ_ _=>5) (λi l h c7=>by obtain⟨rfl,_⟩:=c7;simp[Tryz.f193]) ?_;rintro⟨d,A,n,f,a⟩ _ h ⟨rfl,k,y,c6,c9,bk,bs⟩ er bn;simp only at k y c6 c9 bk bs;simp at bn;obtain⟨F,cL⟩:=bn;have s:=(k.hr.cons (dG 11 0 [a.t])).cons (dG 2 1 [d.t]);have H:Step f h (lO h (((hr h).cons (dG 11 0 [a.t])).cons (dG 2 1 [d.t]))):=
  ((Step.cons k.ok.hr k.lt _).trans (Step.cons (k.hr.cons _).ok (k.hr.cons _).lt _)).out
 have dk:Step f (hr h) (((hr h).cons (dG 11 0 [a.t])).cons (dG 2 1 [d.t])):=(Step.cons k.ok.hr k.lt _).trans (Step.cons (k.hr.cons _).ok (k.hr.cons _).lt _);have I:=s.out (h:=h) (m:=n+1) dz;have M:∀o:Int,9<=o/\o<=11->decide (a.op=o)=true->∃m:Nat,m<d.jq.length/\sj (d.jq.map iy.name) a.name 0=m:=λo eb N=>bs (by simp at N;omega);have Y:=λ{tb:fJ} (ht:tb.h 226=some Fi) l b z=>cX ht [.ptr f 0 0 0,dE l,dE b,.str z] _ ⟨f,l,b,z,rfl,s.ins bk⟩;have ec:=k.lt;have bu:(f=h.size)=False:=dB;have bz:(f=h.size+1)=False:=dB;have ce:(((hr h).cons (dG 11 0 [a.t])).cons (dG 2 1 [d.t])).get f=h.get f:=by simp[bu,bz]
 obtain⟨eo,z,bN,sv,b9,S,E,w,gA,bi,a8,aN,aX,a6⟩:=s.ex;have aE:=ce.symm.trans w;have cb:=bi.qJ dA;have ca:=a8.qJ dA;have b7:=λ{tb:fJ} (h:tb.p 110=some Bp) x=>NI h S x dz;have b6:=λ{tb:fJ} (h:tb.p 110=some Bp) x=>NI h E x dz;obtain⟨Nw,R⟩:=z8.fnI (λc:List Nat×Int×Int=>(d,z,c)) (λ_=>y);have R:=λ{tb:fJ} (ht:tb.p 228=some z8.jv) x l b=>R ht (x,l,b);obtain⟨dn,av⟩:=EB.fnI (λb:Bool=>b) (λ_=>trivial);have Q:∀{tb:fJ},tb.p 227=some VU.jv->∀l b,rl Tryz.prog cx tb 227 [dE l,dE b]=some (dE (if l=0 then b else l)):=λht l b=>by
  obtain⟨_,rfl,N⟩:=VU.use (l,b) trivial;exact N ht
 have dd:=a.lF;obtain⟨_,⟨ef,rfl⟩,P⟩:=Cn.use (d,z,a.e) ⟨y,dC⟩;have eT:=λ{tb:fJ} (h:tb.p 192=some ls) x=>wM h d.dK x (by have:=y.2.1;omega);have bX:=λ{tb:fJ} (h:tb.p 191=some nh) x=>BE h d.jq x (by have:=y.1;omega);simp[Tryz.f193,F,cL,aE,bu,bz,Y];have u:(((hr h).cons (dG 11 0 [a.t])).cons (dG 2 1 [d.t])).get h.size=some (dG 11 0 [a.t]):=dA;have L:(((hr h).cons (dG 11 0 [a.t])).cons (dG 2 1 [d.t])).get (h.size+1)=some (dG 2 1 [d.t]):=dA;have G:(((hr h).cons (dG 11 0 [a.t])).cons (dG 2 1 [d.t])).size=h.size+2:=dA;generalize(((hr h).cons (dG 11 0 [a.t])).cons (dG 2 1 [d.t]))=j at*
 generalize K [T.ptr f 0 0 0,T.int IntKind.i64 7,T.int IntKind.i64 7,T.str []] j=ds;generalize K [T.ptr f 0 0 0,T.int IntKind.i64 8,T.int IntKind.i64 8,T.str []] j=dv;generalize K [T.ptr f 0 0 0,T.int IntKind.i64 3,T.int IntKind.i64 3,T.str []] j=ea;have U:=(show(j.cons (dG 1 0 [.str a.name])).get f=j.get f from by rw[dV,ao dz]).trans w;have J:=s.cons (dG 1 0 [.str a.name]);have bC:=dk.trans (Step.cons s.ok s.lt (dG 1 0 [.str a.name]));have X:∀{v:T} {bH:Nat} {aA:List T},v=bN\/v=sv\/v=b9->Gr j v bH aA->Gr (j.cons (dG 1 0 [.str a.name])) v bH aA:=λde g=>g.mono λb bp=>by
  have:b<j.size:=s.fp b (s7 w (v:=_) (by rcases de with rfl|rfl|rfl<;>simp[fw,T.cells]) bp);rw[dV,ao dz]
 have W:=X dA bi;have V:=X dA a8;have a7:=X dA gA
 repeat' (refine ee (λq=> ?_) (λq=> ?_)<;>simp[q,F,w,u,L,Y,R,av,Q,P,eT,bX,KZ,H,I])
 ·cases Z:a.index with
  |nil=>rename_i q;simp[Z]at q
  |cons x r=>
   obtain⟨_,⟨eh,rfl⟩,b8⟩:=Cn.use (d,z,x) ⟨y,by simp only;rw[Z,dW.j7]at dd;omega⟩;simp[u,L,Q,P,H,I,Z,b8]
 iterate 3
  ·obtain⟨m,c1,c4⟩:∃m,m<d.jq.length/\sj (d.jq.map iy.name) a.name 0=m:=by first|exact M 9 dz (by assumption)|exact M 10 dz (by assumption)|exact M 11 dz (by assumption)
   simp[u,Y,av,H,I,c1,c4]
 ·simp[cb,b7];refine ee (λq=> ?_) (λq=> ?_)
  ·simp[H,I]
  obtain⟨dm,cp,O,B⟩:=W.app (cx:=cx) J.ok (x:= .arr (h.size+2) 0 0 1 false) (xs:=[.str a.name]) qA rfl v7 qA rfl rfl dA (by rw[gH];simp[G]) (by simp[T.cells]) dA dB;obtain⟨ae,di,D,al⟩:=J.spawn U a7 W V aN aX a6 B;have C:=B.gr;have an:=(bC.trans D).out;have ap:=al.out (h:=h) (au _);simp[F,w,u,G,O,ae,C.il,C.cells,dZ,an,ap]
 ·obtain⟨dm,cp,O,B⟩:=V.app (cx:=cx) J.ok (x:= .arr (h.size+2) 0 0 1 false) (xs:=[.str a.name]) qA rfl v7 qA rfl rfl dA (by rw[gH];simp[G]) (by simp[T.cells]) dA dB;obtain⟨ae,di,D,al⟩:=J.set U a7 W V aN aX a6 B;have C:=B.gr;have an:=(bC.trans D).out;have ap:=al.out (h:=h) (au _);have bB:∀b,h.size<=b->¬Fp (j.cons (dG 1 0 [.str a.name])) f b:=λb bp o=>by rw[iW (U.trans aE.symm)]at o;have:=k.fp b o;omega
  have bS:=(D.get h.size dB (bB _ (au _))).trans ((show(j.cons (dG 1 0 [.str a.name])).get h.size=j.get h.size by rw[dV,ao dz]).trans u);have bT:=(D.get (h.size+1) dB (bB _ dz)).trans ((show(j.cons (dG 1 0 [.str a.name])).get (h.size+1)=j.get (h.size+1)by rw[dV,ao dz]).trans L);simp[ca,b6];refine ee (λq=> ?_) (λq=> ?_)<;>simp[F,w,u,G,O,ae,C.il,C.cells,dZ,an,ap,bS,bT,P,Q]
structure KF where
 (p:fK) (A:List dQ) (n w:Nat) (l:List dQ)
def Fl(a:KF)(c:List T)(d:H):Prop:=c=[.ptr a.w 0 0 0,sl (a.l.map dQ.t)]/\Wk a.p a.A a.n d a.w/\RO a.p/\a.n+dQ.ws a.l<=10000000/\dQ.ws a.l<=1000000/\a.A.length<=6/\(∀e∈a.l,MS e)/\
 ∃b,b<a.p.jq.length/\sj (a.p.jq.map iy.name) [99] 0=b
def yy(a:KF)(e:List T)(c:H)(d:T)(b:H):Prop:=HV d/\Step a.w c b/\Wk a.p a.A (a.n+dQ.ws a.l) b a.w
def Q1(A:Nat)(bB:(jw KF (λf a m=>Fl f a m/\dQ.ws f.l<A) yy).Ok Tryz.prog cx 145):(jw KF (λf a m=>Fl f a m/\dQ.ws f.l<A+1) yy).Ok Tryz.prog cx 145:=by
 refine jo (tb:=⟨pt [],ht [(193,Z5),(145,jw KF (λf a m=>Fl f a m/\dQ.ws f.l<A) yy)]⟩) fa eQ (iR 151115745466229840684019 [(10,[(8,12),(9,12)])] Tryz.func145) (λ_ _=>1000005) (λf a m di=>by obtain⟨⟨rfl,_⟩,_⟩:=di;simp[Tryz.f145]) ?_;rintro⟨I,c,n,j,l⟩ _ m ⟨⟨rfl,aX,O,de,dn,c7,bn,N⟩,dd⟩ B bp;simp only at aX O de dn c7 bn N dd;simp at bp;obtain⟨i,w⟩:=bp;have hl:=dQ.uN (l:=l);simp[Tryz.f145];refine fy l.length dz (λA B F=>Step j (hr m) F/\Wk I c (n+dQ.ws (l.take A)) F j/\dH B 0 (.ptr j 0 0 0)/\dH B 1 (sl (l.map dQ.t))/\dH B 6 (dE A)) ?_ ?_ dz (by simp[i,w,dQ.iQ,aX.hr,Step.refl aX.ok.hr])
 ·rintro f B F ap bs ⟨aA,s,i,w,G⟩;have bz:=dQ.Fa l ap;have eD:=dQ.xw l (f+1);have av:=bn l[f] (aC ap);simp[i,w,G,ap,s.ok.low];generalize l[f]=d at*
  have eC:=d.lF;refine iq aaq dA ⟨I,c,n+dQ.ws (l.take f),j,d⟩ ⟨rfl,s.cons _,O,dC,dC,dC,λq=>by simp only;rw[av.cond q];exact N⟩ ?_;rintro _ p ⟨⟨e,rfl⟩,aE,k⟩;simp only at aE k;have H:=(Lb.new s.lt s.fp (dG 11 1 [d.t])).step aE;have bS:=(aA.trans (Step.cons s.ok s.lt _)).trans aE;obtain⟨eL,t,b8,sv,ca,S,E,K,gA,c4,c1,cp,cL,cX⟩:=k.ex;have bk:∀r,HV r->yy ⟨I,c,n,j,l⟩ [.ptr j 0 0 0,sl (l.map dQ.t)] m r (lO m p):=λr hr=>⟨hr,bS.out,k.out dC⟩;have ae:=ik (a:=(c.length:Int)) (b:=1) dz dz;simp[i,K,gA.len (cx:=cx),ae];refine ee (λo=> ?_) (λo=> ?_)
  ·simp[H.get];exact bk _ dA
  have eA:c.length<=5:=by simp at o;omega
  simp;refine ee (λo=> ?_) (λo=> ?_)
  ·simp[H.get];exact bk _ dA
  have eE:(j=p.size)=False:=by simp;have:=k.lt;omega
  have ey:(F.size=p.size)=False:=by simp;have:=H.lt;omega
  have bX:=k.cons (dG 11 0 [.agg [dE 0,dE 0,.str [],.str [],dF,dE 0,dE 0,.str [],dF,dF,dF]]);have dv:=bS.trans (Step.cons k.ok k.lt (dG 11 0 [.agg [dE 0,dE 0,.str [],.str [],dF,dE 0,dE 0,.str [],dF,dF,dF]]));have ce:=(show(p.cons (dG 11 0 [.agg [dE 0,dE 0,.str [],.str [],dF,dE 0,dE 0,.str [],dF,dF,dF]])).get j=p.get j by rw[dV,ao (by have:=k.lt;omega)]).trans K;have L:∀{v:T} {bT:Nat} {bi:List T},v=b8\/v=sv\/v=ca->Gr p v bT bi->Gr (p.cons (dG 11 0 [.agg [dE 0,dE 0,.str [],.str [],dF,dE 0,dE 0,.str [],dF,dF,dF]])) v bT bi:=λdm g=>g.mono λb ae=>by
   have:b<p.size:=k.fp b (s7 K (v:=_) (by rcases dm with rfl|rfl|rfl<;>simp[fw,T.cells]) ae);rw[dV,ao dz]
  obtain⟨Q,eu,a8,a7⟩:=(L dA gA).app (cx:=cx) bX.ok (x:= .arr p.size 0 0 1 false) (xs:=[.agg [dE 0,dE 0,.str [],.str [],dF,dE 0,dE 0,.str [],dF,dF,dF]]) yW rfl yU yW rfl rfl dA (by rw[gH];simp) (by simp[T.cells]) dA dB;obtain⟨b,er,eM,et,rfl,M,eB⟩:=id a7;have a2:=a7.set M c.length d.t;have dk:(List.map dQ.t c++[T.agg [dE 0,dE 0,.str [],.str [],dF,dE 0,dE 0,.str [],dF,dF,dF]]).set c.length d.t=List.map dQ.t c++[d.t]:=dA;rw[dk]at a2;simp only[aT,aG,bj,cY]at a2 a8;obtain⟨P,eI,bH,ds⟩:=bX.Xu ce (L dA gA) (L dA c4) (L dA c1) cp cL cX a2;have bu:b≠j:=λq=>by subst q;rw[dP M,aq rfl]at P;simp at P
  have bC:=(H.step (Step.cons k.ok k.lt _)).step bH;simp[i,K,H.get,gA.len (cx:=cx),a8,M,dZ,P,AI P _ bu,AI M _ (bo bu),bC.get];refine iq bB dA ⟨I,c++[d],n+dQ.ws (l.take f)+1,j,d.body⟩ ⟨⟨rfl,ds,O,dC,dC,dB,av.bd,N⟩,dC⟩ ?_;rintro _ c6 ⟨⟨eh,eF,rfl⟩,aN,a6⟩;simp only at aN a6;have ea:=dv.trans bH;have l4:=bC.step aN;have GZ:=ea.trans aN;simp;refine ee (λo=> ?_) (λo=> ?_)
  ·simp[i,l4.get];refine iq bB dA ⟨I,c++[d],n+dQ.ws (l.take f)+1+dQ.ws d.body,j,d.Nc⟩ ⟨⟨rfl,a6,O,dC,dC,dB,av.el,N⟩,dC⟩ ?_;rintro _ Z ⟨⟨eo,eH,rfl⟩,bN,C⟩;simp only at bN C;replace GZ:=GZ.trans bN;simp[i];obtain⟨ef,ec,b9,eb,cb,b7,b6,u,D,Y,X,U,V,W⟩:=C.ex;obtain⟨Q,R,h,al⟩:=D.cut (cx:=cx) (ty:=GU) (te:=GT) rfl yU rfl (n:=c.length) dA dA;have h:Gr Z Q 11 (c.map dQ.t):=by rw[List.map_append,c8 dA]at h;rwa[bJ dA]at h
   obtain⟨J,z⟩:=C.back u Y X U V W h al;have c9:(c++[d]).length=c.length+1:=dA;have y:=kF (a:=((c++[d]).length:Int)) (b:=1) dz dz;have an:((c++[d]).length:Int)-1=(c.length:Int):=dA;rw[an]at y;simp[i,u,D.len (cx:=cx)];simp at y;simp[y,R,h.il,h.cells,dZ,u];refine ee (λo=> ?_) (λo=> ?_)
   ·simp;exact⟨dA,(GZ.trans J).out,z.out dC⟩
   ·simp[i,w,G,bs];exact⟨GZ.trans J,by rw[bz];exact z.same dz z.ok (λ_ _=>rfl) (au _)⟩
  ·have C:=a6;generalize c6=Z at*
   simp[i];obtain⟨ef,ec,b9,eb,cb,b7,b6,u,D,Y,X,U,V,W⟩:=C.ex;obtain⟨Q,R,h,al⟩:=D.cut (cx:=cx) (ty:=GU) (te:=GT) rfl yU rfl (n:=c.length) dA dA;have h:Gr Z Q 11 (c.map dQ.t):=by rw[List.map_append,c8 dA]at h;rwa[bJ dA]at h
   obtain⟨J,z⟩:=C.back u Y X U V W h al;have c9:(c++[d]).length=c.length+1:=dA;have y:=kF (a:=((c++[d]).length:Int)) (b:=1) dz dz;have an:((c++[d]).length:Int)-1=(c.length:Int):=dA;rw[an]at y;simp[i,u,D.len (cx:=cx)];simp at y;simp[y,R,h.il,h.cells,dZ,u];refine ee (λo=> ?_) (λo=> ?_)
   ·simp;exact⟨dA,(GZ.trans J).out,z.out dC⟩
   ·simp[i,w,G,bs];exact⟨GZ.trans J,by rw[bz];exact z.same dz z.ok (λ_ _=>rfl) (au _)⟩
 ·rintro B F ⟨aA,s,i,w,G⟩;rw[aO]at s;simp[w,G];exact⟨dA,aA.out,s.out (au _)⟩
def ED:nO Tryz.prog cx 142 (λa:List iy=>[sl (a.map iy.t)]) (λa=>a.length<=1000000) (λ_=>HV):=by
 refine jt (tb:=⟨pt [(191,nh)],ht []⟩) fa eQ (iR 1242795222330225588904675325 [] Tryz.func142) (λG=>1000005) (λA B c=>jD (λ_ _=>iy.inj) (by simpa using c)) dA (by simp[Tryz.f142]) ?_;rintro a hl b r;simp at r;simp[Tryz.f142];refine fy a.length dz (λx b c=>ig 0 c/\dH b 0 (sl (a.map iy.t))/\(∃d,dH b 4 (dE d))/\(∃d,dH b 5 (dE d))/\(∃d,dH b 6 (dE d))/\(∃d,dH b 7 (dE d))/\dH b 8 (dE x)) ?_ ?_ dz (by simp[r];exact⟨dA,dA,dA⟩)
 ·rintro i b c j s ⟨e,f,⟨C,m⟩,⟨D,n⟩,⟨E,o⟩,⟨F,q⟩,g⟩;have l:=λ{tb:fJ} (c:tb.p 191=some nh) z=>BE c (a.take i) z (by rw[List.length_take];omega);simp[f,g,j,e.low,l,bD j];rcases GG ((a.take i).map iy.name) a[i].on 0 with k|⟨y,v,k⟩
  ·generalize a[i]=u at*
   repeat' (refine ee (λh=> ?_) (λh=> ?_)<;>simp[h,f,m,n,o,q,g,e.hp,e.cons,l,bD j,ou,s,k])
  ·simp at v k;have w:y<a.length:=dz;generalize a[i]=u at*
   repeat' (refine ee (λh=> ?_) (λh=> ?_)<;>simp[h,f,m,n,o,q,g,e.hp,e.cons,l,bD j,ou,s,k,w])
 ·rintro b c ⟨e,f,_,_,_,_,g⟩;simp[f,g,e.hp]
def Jz(a:fK):Prop:=RO a/\(a.dK.map λb=>dQ.ws b.body).sum<=1000000/\(∀b∈a.dK,∀d∈b.body,MS d)/\∃c,c<a.jq.length/\sj (a.jq.map iy.name) [99] 0=c
def pX(a:List fR):Nat:=(a.map λb=>dQ.ws b.body).sum
def j1:nO Tryz.prog cx 93 (λa:fK=>[a.t]) Jz (λ_=>HV):=by
 have av:=uY (λi:KF=>dQ.ws i.l) Q1 1000001;refine jt (tb:=⟨pt [(141,Ht.jv),(142,ED.jv),(143,AP.jv),(144,K6.jv)],ht [(145,jw KF (λi B b=>Fl i B b/\dQ.ws i.l<1000001) yy)]⟩) fa eQ (iR 19342850151455133005856767 [] Tryz.func93) (λa=>1000005) (λB j b=>by simp at b;exact fK.inj b) dA (by simp[Tryz.f93]) ?_;rintro a ⟨m,an,Y,Z⟩ d D;simp at D;obtain⟨_,⟨aX,rfl⟩,L⟩:=Ht.use a m;obtain⟨_,⟨bi,bn,rfl⟩,M⟩:=ED.use a.jq m.1;obtain⟨_,⟨bk,bp,rfl⟩,N⟩:=AP.use a m;have hl:=m.2.1;simp[Tryz.f93,D,L];refine ee (λf=> ?_) (λf=> ?_)
 ·simp
 simp[M];refine ee (λf=> ?_) (λf=> ?_)
 ·simp
 simp;refine ee (λf=> ?_) (λf=> ?_)
 ·simp
 simp[N];refine ee (λf=> ?_) (λf=> ?_)
 ·simp
 simp;refine fy a.dK.length dz (λo d b=>b=hE.cons (dG 2 0 [a.t])/\dH d 1 (.ptr 0 0 0 0)/\(∃q,dH d 8 (dE q))/\dH d 9 (dE o)) ?_ ?_ dz dA
 ·rintro i d b k x ⟨rfl,g,⟨q,u⟩,w⟩;obtain⟨_,⟨c,rfl⟩,O⟩:=K6.use a.dK[i].body (by have:=(m.2.2 _ (aC k)).2;omega);simp[g,u,w,k,O,ou,x]
 rintro d b ⟨rfl,g,⟨q,u⟩,w⟩;simp[g,u,w];refine ee (λf=> ?_) (λf=> ?_)
 ·simp
 simp[g];have al:∀{i:Nat} (H:i<a.dK.length),pX (a.dK.take (i+1))=pX (a.dK.take i)+dQ.ws a.dK[i].body:=λ{i} H=>by
  unfold pX;rw[aZ H,List.map_append,List.sum_append];simp
 have ae:∀i,pX (a.dK.take i)<=1000000:=λi=>by
  have:pX a.dK<=1000000:=an;have X:pX a.dK=pX (a.dK.take i)+pX (a.dK.drop i):=by unfold pX;rw[<-List.sum_append,<-List.map_append,cR]
  omega
 refine fy a.dK.length dz (λo d b=>Wk a [] (pX (a.dK.take o)) b 1/\Lb 1 b 0 (dG 2 0 [a.t])/\dH d 1 (.ptr 0 0 0 0)/\dH d 10 (.ptr 1 0 0 0)/\dH d 11 (dE o)) ?_ ?_ dz ?_
 ·rintro i d b k x ⟨r,p,g,s,n⟩;have W:=al k;have a7:=ae (i+1);obtain⟨a8,t,aN,sv,a6,S,E,C,gA,V,U,P,Q,R⟩:=r.ex;obtain⟨aA,aE⟩:=r.dT C gA V U P Q R i;have J:=p.step aA;simp[p.get,g,s,n,k,C,dZ,J.get];refine iq av dA ⟨a,[],pX (a.dK.take i),1,a.dK[i].body⟩ ⟨⟨rfl,aE,m,dC,dC,dA,Y _ (aC k),Z⟩,dC⟩ ?_;rintro _ X ⟨⟨e,q,rfl⟩,K,A⟩;simp only at K A;have ap:=J.step K;simp;refine ee (λf=> ?_) (λf=> ?_)
  ·simp[A.ok.hp]
  ·simp[g,s,n,x];exact⟨by rw[W];exact A,ap⟩
 ·rintro d b ⟨r,p,g,s,n⟩;simp[p.get,g,n,r.ok.hp]
 ·have G:((hE.cons (dG 2 0 [a.t])).cons (dG 6 0 [.agg [sl (a.jq.map iy.t),sl (a.dK.map fR.t),dE 0,dF,dF,dF]])).get 1=some (dG 6 0 [.agg [sl (a.jq.map iy.t),sl (a.dK.map fR.t),dE 0,dF,dF,dF]]):=dA;have F:∀j,Fp ((hE.cons (dG 2 0 [a.t])).cons (dG 6 0 [.agg [sl (a.jq.map iy.t),sl (a.dK.map fR.t),dE 0,dF,dF,dF]])) 1 j->j=1:=λj h=>by
   rcases h with rfl|⟨z,y,v,I,h⟩
   ·rfl
   ·rw[G]at y;simp only[ar]at y;subst y;simp[fw,T.cells]at I;rcases I with rfl|rfl|rfl|rfl|rfl|rfl<;>simp at h
  simp[g];exact⟨⟨⟨dA,dA,dA⟩,λj h=>by rw[F j h];simp,0,0,_,_,_,[],[],G,Gr.nil _ _,Gr.nil _ _,Gr.nil _ _,dA,dA,dA⟩,dA,λh=>absurd (F 0 h) dD⟩
structure ISi where
 (O:List iH) (v:T) (t n:Int) (l:List dQ)
def aag(a:ISi)(c:List T)(b:H):Prop:=c=[a.v,dE a.t,dE a.n,sl (a.l.map dQ.t)]/\Gr b a.v 3 (a.O.map iH.t)/\ig 0 b/\a.O.length+dQ.ws a.l<=10000000
def VM(a:ISi)(h:List T)(d:H)(g:T)(e:H):Prop:=∃c f,∃b:List iH,g= .tuple [c,dE f]/\b.length<=a.O.length+dQ.ws a.l/\Xt d a.v 3 (b.map iH.t) c e
abbrev Z4(d:Nat):lf:=jw ISi (λa b c=>aag a b c/\dQ.ws a.l<d) VM
def Ja(y:Nat)(C:(Z4 y).Ok Tryz.prog cx 147):(Z4 (y+1)).Ok Tryz.prog cx 147:=by
 refine jo (tb:=⟨pt [],ht [(147,Z4 y)]⟩) fa eQ (iR 18191 [] Tryz.func147) (λ_ _=>10000005) (λa U k K=>by obtain⟨⟨rfl,_⟩,_⟩:=K;simp[Tryz.f147]) ?_;rintro⟨u,s,n,L,l⟩ _ k ⟨⟨rfl,z,N,J⟩,I⟩ c A;simp only at z J I;simp at A;obtain⟨m,d,h,b⟩:=A;have hl:=dQ.uN (l:=l);have S:Xt (hr k) s 3 (u.map iH.t) s (hr k):=Xt.refl (z.mono λF _=>gh k F) N.hr;simp[Tryz.f147];refine fy l.length dz (λa c v=>∃o i,∃e:List iH,dH c 0 o/\dH c 1 (dE n)/\dH c 2 (dE i)/\dH c 3 (sl (l.map dQ.t))/\dH c 10 (dE a)/\e.length<=u.length+dQ.ws (l.take a)/\Xt (hr k) s 3 (e.map iH.t) o v) ?_ ?_ dz ⟨s,L,u,by simp[m,d,h,b,S]⟩
 ·rintro a c v x H ⟨o,i,e,m,d,h,b,g,w,j⟩;have ae:=dQ.Fa l x;have Z:=dQ.xw l (a+1);obtain⟨Q,V,G,p⟩:=j.1.nd (cx:=cx) (f:=iH.t) ⟨j.2.2.2.hp,j.2.2.2.low,aw _⟩ WQ rfl S7 rfl dA dA (⟨n,i,l[a].uL⟩:iH) dB;simp[m,d,h,b,g,x];have B:l[a]? =some l[a]:=az x;generalize l[a]=r at*
  have Y:=r.lF;simp[d,h,b,g,G,ou,B,p.1.qJ,Bo];refine iq C dA ⟨e++[⟨n,i,r.uL⟩],Q,n,_,r.body⟩ ⟨⟨rfl,p.1,⟨p.2.2.2.hp,p.2.2.2.low,aw _⟩,dB⟩,dC⟩ ?_;rintro _ W ⟨R,M,D,rfl,O,q⟩;simp only[aT,List.length_singleton]at O;simp[d,b,g,B,q.1.qJ,Bo];refine iq C dA ⟨D,R,n,M,r.Nc⟩ ⟨⟨rfl,q.1,⟨q.2.2.2.hp,q.2.2.2.low,aw _⟩,dC⟩,dC⟩ ?_;rintro _ X ⟨an,al,E,rfl,P,T⟩;simp only at P;simp[d,b,g,H];exact⟨E,dz,((j.trans p).trans q).trans T⟩
 ·rintro c v ⟨o,i,e,m,d,h,b,g,w,j⟩;rw[aO]at w;simp[m,h,b,g];exact⟨o,i,e,rfl,w,j.out⟩
def MB:(Z4 10000001).Ok Tryz.prog cx 147:=uY (λa:ISi=>dQ.ws a.l) Ja 10000001
def e04(c:fK):Int:=Classical.epsilon λa=>∃b,j1.jv.R c= .tuple [dE a,dE b]
def l04(a:fK):Int:=Classical.epsilon λb=>j1.jv.R a= .tuple [dE (e04 a),dE b]
def c04{c:fJ}(ht:c.p 93=some j1.jv)(p:fK)(b:Jz p):rl Tryz.prog cx c 93 [p.t]=some (.tuple [dE (e04 p),dE (l04 p)]):=by
 have e:∃a,j1.jv.R p= .tuple [dE (e04 p),dE a]:=Classical.epsilon_spec (p:=λd=>∃a,j1.jv.R p= .tuple [dE d,dE a]) (j1.2 p b);exact(im ht j1.1 p b).trans (bQ some (Classical.epsilon_spec e))
def Pr(b:fK):Prop:=Jz b/\b.jq.length<=100/\(∀a∈b.jq,a.size<=4)/\∃a∈b.jq,a.kind=1/\a.name=[113]
def YE(m:H)(a n f:Nat)(e:List ij):Prop:=∃o g h i j k l,∃(Lk:List iF) (b:List iU) (c Th:List (List Nat)) (d:List iH),nW m 2 6 o [(g,some (5,e.map ij.t)),(h,some (2,Lk.map iF.t)),(i,some (2,b.map iU.t)),(j,some (1,c.map T.str)),(k,some (1,Th.map T.str)),(l,some (3,d.map iH.t))]/\
 Lk.length<=a/\b.length<=a/\c.length<=a/\Th.length<=n/\d.length<=f
def YE.le{e:H}{b c f d:Nat}{a:List ij}(r:YE e b f d a)(x:b<=c):YE e c f d a:=by
 obtain⟨t,j,k,l,m,n,o,Lk,g,h,Th,i,s,u,v,w,p,q⟩:=r;exact⟨t,j,k,l,m,n,o,Lk,g,h,Th,i,s,dz,dz,dz,p,q⟩
def JI(b:List Nat)(a:List ij):Prop:=b∈a.map ij.name
def GS:iZ:=(dG 6 0 [.agg [dF,dF,dF,dF,dF,dF]])
def Ci:nO Tryz.prog cx 94 (λd:fK=>[d.t]) Pr (λd r=>∃W:d8,r=W.t/\(e04 d=0->okW W)):=by
 refine jt (tb:=⟨pt [(93,j1.jv),(146,qR)],ht [(147,Z4 10000001)]⟩) fa eQ (iR 316913254556860716756833993695 [(21,[(1,8),(3,8)])] Tryz.func94) (λd=>1000005) (λa b h=>by simp at h;exact fK.inj h) dA (by simp[Tryz.f94]) ?_;rintro d ⟨bs,eD,bn,ds⟩ j b6;simp at b6;have cX:=λ{tb:fJ} (ht:tb.p 93=some j1.jv)=>c04 ht d bs;have hl:=bs.1.1;simp[Tryz.f94,b6,cX];refine ee (λbC=> ?_) (λbC=> ?_)
 ·simp at bC;simp[bC];exact⟨⟨[],[],[],[],[],[]⟩,rfl⟩
 simp;refine fy d.jq.length dz (λi j h=>∃z,YE h i 0 0 z/\Lb 2 h 0 (dG 2 0 [d.t])/\Lb 2 h 1 GS/\z.length<=4*i/\(∀c∈d.jq.take i,c.kind=1->JI c.name z)/\dH j 1 (.ptr 0 0 0 0)/\dH j 2 (.ptr 1 0 0 0)/\dH j 3 (.ptr 2 0 0 0)/\dH j 6 (dE i)) ?_ ?_ dz ?_
 ·rintro i j h an ae ⟨z,⟨ver,D,K,E,G,H,A,Lk,O,P,Th,J,e,av,aA,aE,S,U⟩,o,v,c7,ap,u,x,y,M⟩;have R:=e.get;simp at R;have eF:(0=h.size)=False:=by have:=e.lt;simp;omega
  have eH:(2=h.size)=False:=by have:=e.lt;simp;omega
  have bi:∀c∈d.jq.take (i+1),c∈d.jq.take i\/c=d.jq[i]:=λc bn=>by
   rw[aZ an]at bn;exact(List.mem_append.1 bn).imp id λq=>List.mem_singleton.1 q
  have eL:=bn d.jq[i] (aC an);simp[u,M,an,o.get,e.ok.low];generalize d.jq[i]=c at*
  have B:=e.cons (dG 6 1 [c.t]);have cp:=Step.cons e.ok e.lt (dG 6 1 [c.t]);have X:=Lb.new e.lt e.fp (dG 6 1 [c.t]);replace o:=o.step cp;replace v:=v.step cp;have a7:(h.cons (dG 6 1 [c.t])).get 2=h.get 2:=by rw[dV,ao (by have:=e.lt;omega)]
  rw[R]at a7;generalize eI:h.size=bS at*
  generalize h.cons (dG 6 1 [c.t])=et at*
  by_cases eb:c.kind=1\/c.kind=2
  ·have bk:∃N:Nat,max c.size 1=N/\1<=N/\N<=4:=⟨(max c.size 1).toNat,dz,dz,dz⟩;obtain⟨N,bk,dd,eC⟩:=bk;rcases eb with hk|hk<;>(
    simp[hk];refine fy N dz (λk j h=>∃Z,YE h i 0 0 Z/\Lb 2 h 0 (dG 2 0 [d.t])/\Lb 2 h 1 GS/\Lb 2 h bS (dG 6 1 [c.t])/\Z.length<=4*i+k/\(∀n,JI n z->JI n Z)/\(1<=k->JI c.name Z)/\dH j 1 (.ptr 0 0 0 0)/\dH j 2 (.ptr 1 0 0 0)/\dH j 3 (.ptr 2 0 0 0)/\dH j 6 (dE i)/\dH j 7 (.ptr bS 0 0 0)/\dH j 8 (dE k)) ?_ ?_ dz ⟨z,⟨ver,D,K,E,G,H,A,Lk,O,P,Th,J,B,av,aA,aE,S,U⟩,o,v,X,dz,λ_ h=>h,λh=>by omega,by simp[u,x,y,M]⟩
    ·rintro k j h dm di ⟨Z,⟨ver,D,K,E,G,H,A,Lk,O,P,Th,J,e,av,aA,aE,S,U⟩,o,v,X,c9,al,bp,u,x,y,M,bz,bB⟩;have R:=e.get;simp at R;have eE:(k:Int)<max c.size 1:=dz;obtain⟨V,aN,L,l⟩:=(e.gr 0 rfl).nd (cx:=cx) (f:=ij.t) e.ok WT rfl S9 rfl dA dA (⟨c.name,k,c.size,decide (c.kind=2),c.jY⟩:ij) dB;obtain⟨s,aX,I⟩:=e.app 0 rfl l;obtain⟨g,m⟩:=I _ rfl;simp at s g m;simp[hk]at L;simp[hk,u,x,y,M,bz,bB,X.get,R,dm,bk,L,s,dZ,l.1.il,l.1.cells,di];exact⟨_,⟨ver+1,V,K,E,G,H,A,Lk,O,P,Th,J,m,av,aA,aE,S,U⟩,o.step g,v.step g,X.step g,dB,λn bH=>by have:=al n bH;unfold JI at*;rw[List.map_append];exact da _ this,by unfold JI;simp⟩
    ·rintro j h ⟨Z,er,o,v,X,c9,al,bp,u,x,y,M,bz,bB⟩;simp[hk,u,x,y,M,bz,bB,X.get,bk,ae];exact⟨Z,er.le dz,o,v,dz,λC Y dn=>by
      rcases bi C Y with q|rfl
      ·exact al _ (ap C q dn)
      ·exact bp dd⟩)
  have ec:¬c.kind=1/\¬c.kind=2:=dz;by_cases b8:c.kind=3
  ·obtain⟨V,aN,L,l⟩:=(B.gr 1 rfl).nd (cx:=cx) (f:=iF.t) B.ok Qo rfl Lv rfl dA dA (⟨c.name,false⟩:iF) dB;obtain⟨s,aX,I⟩:=B.app 1 rfl l;obtain⟨g,m⟩:=I _ rfl;simp at s g m;simp[b8,u,x,y,M,X.get,a7,ae,L,s,dZ,l.1.il,l.1.cells];exact⟨z,⟨ver+1,D,V,E,G,H,A,_,O,P,Th,J,m,dB,dz,dz,S,U⟩,o.step g,v.step g,dz,λC Y hk=>ap C ((bi C Y).resolve_right λQ=>by subst Q;omega) hk⟩
  by_cases b9:c.kind=4
  ·obtain⟨V,aN,L,l⟩:=(B.gr 1 rfl).nd (cx:=cx) (f:=iF.t) B.ok Qo rfl Lv rfl dA dA (⟨c.name,true⟩:iF) dB;obtain⟨s,aX,I⟩:=B.app 1 rfl l;obtain⟨g,m⟩:=I _ rfl;simp at s g m;simp[b9,u,x,y,M,X.get,a7,ae,L,s,dZ,l.1.il,l.1.cells];exact⟨z,⟨ver+1,D,V,E,G,H,A,_,O,P,Th,J,m,dB,dz,dz,S,U⟩,o.step g,v.step g,dz,λC Y hk=>ap C ((bi C Y).resolve_right λQ=>by subst Q;omega) hk⟩
  by_cases ca:c.kind=5
  ·have c4:=(B.gr 1 rfl).qJ dA;have c1:=λ{tb:fJ} (h:tb.p 146=some qR)=>LH h Lk c.on dz;obtain⟨V,aN,L,l⟩:=(B.gr 2 rfl).nd (cx:=cx) (f:=iU.t) B.ok WS rfl S8 rfl dA dA (⟨c.name,sj (Lk.map iF.name) c.on 0⟩:iU) dB;obtain⟨s,aX,I⟩:=B.app 2 rfl l;obtain⟨g,m⟩:=I _ rfl;simp at s g m;simp[ca,u,x,y,M,X.get,a7,ae,L,s,dZ,l.1.il,l.1.cells,c4,c1];exact⟨z,⟨ver+1,D,K,V,G,H,A,Lk,_,P,Th,J,m,dz,dB,dz,S,U⟩,o.step g,v.step g,dz,λC Y hk=>ap C ((bi C Y).resolve_right λQ=>by subst Q;omega) hk⟩
  ·obtain⟨V,aN,L,l⟩:=(B.gr 3 rfl).nd (cx:=cx) (f:=T.str) B.ok qA rfl v7 rfl dA dA (c.name) dB;obtain⟨s,aX,I⟩:=B.app 3 rfl l;obtain⟨g,m⟩:=I _ rfl;simp at s g m;simp[ec,b8,b9,ca,u,x,y,M,X.get,a7,ae,L,s,dZ,l.1.il,l.1.cells];exact⟨z,⟨ver+1,D,K,E,V,H,A,Lk,O,_,Th,J,m,dz,dz,dB,S,U⟩,o.step g,v.step g,dz,λC Y hk=>ap C ((bi C Y).resolve_right λQ=>by subst Q;omega) hk⟩
 ·rintro j h ⟨z,⟨ver,D,K,E,G,H,A,Lk,O,P,Th,J,e,av,aA,aE,S,U⟩,o,v,c7,ap,u,x,y,M⟩;have eM:=bs.1.2.1;have ea:∀{i:Nat} (b7:i<d.dK.length),pX (d.dK.take (i+1))=pX (d.dK.take i)+dQ.ws d.dK[i].body:=λ{i} b7=>by
   unfold pX;rw[aZ b7,List.map_append,List.sum_append];simp
  have dv:∀i,pX (d.dK.take i)<=1000000:=λi=>by
   have:pX d.dK<=1000000:=bs.2.1;have x:pX d.dK=pX (d.dK.take i)+pX (d.dK.drop i):=by unfold pX;rw[<-List.sum_append,<-List.map_append,cR]
   omega
  simp[u,M,o.get];refine fy d.dK.length dz (λi j h=>YE h 1000000 i (pX (d.dK.take i)) z/\Lb 2 h 0 (dG 2 0 [d.t])/\Lb 2 h 1 GS/\dH j 1 (.ptr 0 0 0 0)/\dH j 2 (.ptr 1 0 0 0)/\dH j 3 (.ptr 2 0 0 0)/\dH j 9 (dE i)) ?_ ?_ dz ⟨⟨ver,D,K,E,G,H,A,Lk,O,P,Th,J,e,dz,dz,dz,S,by simpa[pX]using U⟩,o,v,by simp[u,x,y]⟩
  ·rintro i j h an ae ⟨⟨ver,D,K,E,G,H,A,Lk,O,P,Th,J,e,av,aA,aE,S,U⟩,o,v,u,x,y,a8⟩;have eu:=ea an;have ey:=dv (i+1);have R:=e.get;simp at R;obtain⟨V,aN,L,l⟩:=(e.gr 4 rfl).nd (cx:=cx) (f:=T.str) e.ok qA rfl v7 rfl dA dA (d.dK[i].name) dB;obtain⟨s,aX,I⟩:=e.app 4 rfl l;obtain⟨g,m⟩:=I _ rfl;simp at s g m;simp[u,y,a8,an,o.get,R,L,s,dZ,l.1.il,l.1.cells];have cb:=o.step g;have ef:=v.step g;have bX:=m.get;simp at bX;generalize dY aN 2 _=eA at*
   simp[u,a8,an,cb.get,bX,(m.gr 5 rfl).qJ,Bo];refine iq MB dA ⟨J,A,i,0,d.dK[i].body⟩ ⟨⟨rfl,m.gr 5 rfl,m.ok,dC⟩,dC⟩ ?_;rintro _ eB ⟨eo,eN,cL,rfl,de,bu⟩;simp only at de bu;obtain⟨s,aX,I⟩:=m.app 5 rfl bu;obtain⟨GZ,ce⟩:=I _ rfl;simp at s GZ ce;simp[u,x,y,a8,s,dZ,bu.1.il,bu.1.cells,ae];exact⟨⟨ver+1+1,D,K,E,G,V,eo,Lk,O,P,_,cL,ce,av,aA,aE,dB,dz⟩,cb.step GZ,ef.step GZ⟩
  ·rintro j h ⟨⟨ver,D,K,E,G,H,A,Lk,O,P,Th,J,e,av,aA,aE,S,U⟩,o,v,u,x,y,a8⟩;have R:=e.get;simp at R;have a6:=e.sq v (dG 6 1 [.agg [D,K,E,G,H,A]]);have bN:=v.get;unfold GS at bN;have c6:(dY h 1 (dG 6 1 [.agg [D,K,E,G,H,A]])).get 1=_:=(dP bN _ 1).trans (aq rfl);simp[u,x,y,a8,o.get,R,bN,dZ,c6,(a6.gr 0 rfl).fz dA,(a6.gr 1 rfl).fz dA,(a6.gr 2 rfl).fz dA,(a6.gr 3 rfl).fz dA,(a6.gr 4 rfl).fz dA,(a6.gr 5 rfl).fz dA];refine⟨⟨_,rfl,λ_=>⟨dC,dC,dC,dC,dC,?_⟩⟩,e.ok.hp⟩;obtain⟨c,dk,hk,bp⟩:=ds;have al:=ap c (by rw[aO];exact dk) hk;unfold JI at al;rw[bp]at al;rcases GG (z.map ij.name) [113] 0 with Q|⟨n,bH,Q⟩
   ·have:=GH (z.map ij.name) [113] 0;rw[Q,eq_true al]at this;simp at this
   ·exact⟨n,by simpa using bH,by rw[Q];simp⟩
 ·obtain⟨eh,bT⟩:=nW.start (h:=((hE.cons (dG 2 0 [d.t])).cons GS).cons GS) (w:=2) (szw:=6) (ver:=0) (F:=[(dF,some (5,[])),(dF,some (2,[])),(dF,some (2,[])),(dF,some (1,[])),(dF,some (1,[])),(dF,some (3,[]))]) ⟨dA,dA,dA⟩ (by simp[GS]) dA;exact⟨[],⟨0,_,_,_,_,_,_,[],[],[],[],[],eh,dA,dA,dA,dA,dA⟩,⟨dA,λq=>absurd (bT 0 q) dD⟩,⟨by simp[GS],λq=>absurd (bT 1 q) dD⟩,dA⟩
def eT(a:Int×T):T:= .agg [.int .i64 a.1,a.2]
def abA{e:H}{c:Nat->Prop}{g:Int}{b d f:Nat}{a:List fT}(h:c b)(j:e.jf (.arr b d 0 f false)=some (a.map fT.t)):FT e c 4 (eT (g,.arr b d 0 f false)) (fZ.t ⟨g,a⟩):=by
 have i:∀a:List fT,iB (FT e c 2) (a.map fT.t) (a.map fT.t):=λa=>by
  induction a with
  |nil=>exact .nil
  |cons l a k=>exact .cons (.inr (.inr ⟨_,_,rfl,.cons (fQ ..) (.cons (fQ ..) (.cons (fQ ..) (.cons (fQ ..) (.cons (fQ ..) (.cons (fQ ..) .nil))))),rfl⟩)) k
 exact .inr (.inr ⟨_,_,rfl,.cons (fQ ..) (.cons (.inr (.inl ⟨b,d,0,f,false,_,_,rfl,h,j,i a,rfl⟩)) .nil),rfl⟩)
def PcS(W:d8)(a:H)(f:Nat):Prop:=∃g e,∃b:List (Int×T),∃d:List fZ,nW a 2 7 g [(sl (W.cells.map ij.t),none),(sl (W.em.map iF.t),none),(sl (W.gW.map iU.t),none),(sl (W.eg.map T.str),none),(sl (W.dK.map T.str),none),(sl (W.iG.map iH.t),none),(e,some (2,b.map eT))]/\
 iB (FT a (λc=>2<c/\c<a.size/\¬Fp a 2 c) 4) (b.map eT) (d.map fZ.t)/\b.length=f/\∀h∈d,h.jl.length<=10000001
def P7{h:H}{w:Nat}{x:iZ}(f:h.get w=some x)(g:∀b∈fw x.eY,dS b=none)(c:Nat)(e:Fp h w c):c=w:=by
 rcases e with a|⟨j,d,b,i,a⟩
 ·exact a
 ·rw[f]at d;cases d;rw[g b i]at a;simp at a
structure Kp(h h':H):Prop where
 sz:h.size<h'.size
 get:∀b,b<h.size->h'.get b=h.get b
 fp:∀b,Fp h' h.size b->h.size<=b
def Kp.step{c f g:H}(b:Kp c f)(e:Step c.size f g):Kp c g:=
 ⟨bE b.sz e.ok.sz,λa d=>(e.get a (by have:=b.sz;omega) λh=>by have:=b.fp a h;omega).trans (b.get a d),λa d=>(e.fp a d).elim (b.fp a) λh=>by have:=b.sz;omega⟩
def Kp.new{h:H}(g:ig 0 h)(W:d8)(a:List (List Nat))(c:Int):Kp h (h.cons ⟨10,0,0,true,false,[.agg (tu W a (.dM [] false) 0 c)]⟩)/\Gn W a 0 (h.cons ⟨10,0,0,true,false,[.agg (tu W a (.dM [] false) 0 c)]⟩) h.size:=by
 have f:=P7 (h:=h.cons ⟨10,0,0,true,false,[.agg (tu W a (.dM [] false) 0 c)]⟩) (w:=h.size) (x:=⟨10,0,0,true,false,[.agg (tu W a (.dM [] false) 0 c)]⟩) (by rw[dV,aq rfl]) (λi e=>by
  simp[fw,tu,T.cells]at e;rcases e with rfl|rfl|rfl|rfl|rfl|rfl|rfl|rfl|rfl|rfl<;>simp)
 exact⟨⟨dA,λb d=>by rw[dV,ao dz],λb d=>by rw[f b d];exact au _⟩,g.cons _,λb d=>by rw[f b d];simp,0,.dM [] false,0,c,[],by rw[dV,aq rfl],Gr.nil _ _,rfl⟩
structure Sn(h h':H):Prop where
 ok:ig 0 h'
 size:h'.size=h.size+1
 get:∀c,c<h.size->h'.get c=h.get c
def Sn.new{h:H}(c:ig 0 h)(a:iZ):Sn h (h.cons a):=⟨c.cons a,dA,λd e=>by rw[dV,ao dz]⟩
def Sn.put{a b:H}(d:Sn a b){x:iZ}(g:b.get a.size=some x)(e:iZ):Sn a (dY b a.size e):=⟨d.ok.put _ e,by rw[fU];exact d.size,λc f=>by rw[dP g,ao dz];exact d.get c f⟩
def Iq:iZ:=⟨7,0,0,true,false,[.agg [.dM [] false,.dM [] false,.dM [] false,.dM [] false,.dM [] false,.dM [] false,.dM [] false]]⟩
def AQ:nO Tryz.prog cx 59 (λc:fK=>[c.t]) (λc=>Pr c/\c.dK.length<=100) (λc k=>∃(b:jM) (e l:Int),k= .tuple [b.t,.int .i64 e,.int .i64 l]/\∀J∈b.dK,J.jl.length<=10000001):=by
 refine jt (tb:=⟨pt [(93,j1.jv),(94,Ci.jv),(97,mY)],ht [(95,DE 10000001),(96,jw Du uE qW)]⟩) fa eQ (iR 19808249554385699031857790975 [] Tryz.func59) (λc=>10000005) (λR j h=>by simp at h;exact fK.inj h) dA (by simp[Tryz.f59]) ?_;rintro c ⟨bC,eS⟩ a bH;simp at bH;have a8:=bC.1;have cL:=λ{tb:fJ} (ht:tb.p 93=some j1.jv)=>c04 ht c a8;obtain⟨_,⟨W,rfl,aX⟩,cX⟩:=Ci.use c bC;simp[Tryz.f59,bH,cL];refine ee (λU=> ?_) (λU=> ?_)
 ·simp at U;simp[U];exact⟨⟨⟨[],[],[],[],[],[]⟩,[]⟩,rfl,dA⟩
 have aX:=aX (by simpa using U);simp[cX];refine fy c.dK.length dz (λi a h=>PcS W h i/\Lb 2 h 0 ⟨2,0,0,true,false,[c.t]⟩/\Lb 2 h 1 Iq/\TI.dL a 1=some (.ptr 0 0 0 0)/\TI.dL a 2=some (.ptr 1 0 0 0)/\TI.dL a 7=some (.ptr 2 0 0 0)/\(∃al:Int,TI.dL a 8=some (.int .i64 al))/\TI.dL a 9=some (.int .i64 i)) ?_ ?_ dz ?_
 ·rintro i a h V de ⟨ca,Q,P,r,x,s,⟨al,y⟩,u⟩;have e5:=ca;obtain⟨ver,an,E,X,g,R,hE,a6⟩:=ca;have O:=g.get;simp at O;have eb:(0=h.size)=False:=by have:=g.lt;simp;omega
  have eN:(2=h.size)=False:=by have:=g.lt;simp;omega
  simp[r,s,y,u,V,Q.get,O,eb];have ht:=a8.1.2.2 c.dK[i] (aC V);have ea:=a8.2.2.1 c.dK[i] (aC V);have eU:c.dK[i]? =some c.dK[i]:=az V;generalize c.dK[i]=t at*
  obtain⟨o,ec⟩:=Kp.new g.ok W t.locals al;refine LG (My 10000001) dA ec aX ht.1 ea dz dz λeC b8 et eW eX b6=> ?_;replace o:=o.step et;obtain⟨e9,e4,e7,bk,eA,gA,c6,dd⟩:=b6.ex;obtain⟨GZ,ef⟩:=b6.HI gA c6 dd (-1) bk;replace o:=o.step GZ;simp only[tu]at gA;simp[gA,dZ];refine oF (i:=⟨28,0,0,0,0,0⟩) dA ef dz λG eu b7=> ?_;replace o:=o.step eu;obtain⟨fb,e8,e0,cp,j,S,fe,eB,ey,gC,av,eF,dn,bX,eD,ds⟩:=b7.opn dz;have eO:(G.size=h.size)=False:=by have:=o.sz;simp;omega
  have bN:j<G.size:=H.ew av;have eH:=o.fp j dn;have b9:=b7.ok;simp only[tu]at gC;have eM:b8+1<=1000001:=dz;generalize b8+1=M at*
  generalize bS:h.size=N at*
  simp[gC,b9.low];refine fy M dz (λZ a v=>∃(k:Int) (B:Nat),Sn G v/\v.get G.size=some ⟨2,0,B,true,false,[.agg [.int .i64 k,.arr j S 0 M false]]⟩/\TI.dL a 1=some (.ptr 0 0 0 0)/\TI.dL a 2=some (.ptr 1 0 0 0)/\TI.dL a 7=some (.ptr 2 0 0 0)/\TI.dL a 8=some (.int .i64 bk)/\TI.dL a 9=some (.int .i64 i)/\TI.dL a 10=some (.ptr N 0 0 0)/\TI.dL a 11=some (.ptr G.size 0 0 0)/\TI.dL a 12=some (.int .i64 Z)) ?_ ?_ dz ?_
  ·rintro Z a v bT di ⟨k,B,m,z,r,x,s,y,u,C,K,D⟩;have ap:=(m.get N (by rw[<-bS];exact o.sz)).trans gC;have c7:=(m.get j bN).trans av;obtain⟨J,bi⟩:=ds Z bT;simp[C,D,ap,c7,bT,bi,uS];have eP:(iV J).length<=3:=by unfold iV;(repeat' split)<;>simp
   refine fy (iV J).length dz (λn a v=>∃(k:Int) (B:Nat),Sn G v/\v.get G.size=some ⟨2,0,B,true,false,[.agg [.int .i64 k,.arr j S 0 M false]]⟩/\TI.dL a 1=some (.ptr 0 0 0 0)/\TI.dL a 2=some (.ptr 1 0 0 0)/\TI.dL a 7=some (.ptr 2 0 0 0)/\TI.dL a 8=some (.int .i64 bk)/\TI.dL a 9=some (.int .i64 i)/\TI.dL a 10=some (.ptr N 0 0 0)/\TI.dL a 11=some (.ptr G.size 0 0 0)/\TI.dL a 12=some (.int .i64 Z)/\TI.dL a 13=some (sl ((iV J).map (T.int .i64)))/\TI.dL a 14=some (.int .i64 n)) ?_ ?_ dz ⟨k,B,m,z,by simp[r,x,s,y,u,C,K,D]⟩
   ·rintro n a v a7 dk ⟨k,B,m,z,r,x,s,y,u,C,K,D,aA,aE⟩;simp[r,x,s,y,u,C,K,D,aA,aE,a7,z,ou,dZ];exact⟨m.put z _,⟨_,_,(dP z _ _).trans (aq rfl)⟩,by simpa[ou]using dk⟩
   ·rintro a v ⟨k,B,m,z,r,x,s,y,u,C,K,D,aA,aE⟩;simp[r,x,s,y,u,C,K,D,aA,aE,di];exact⟨m,k,B,z⟩
  ·rintro a v ⟨k,B,m,z,r,x,s,y,u,C,K,D⟩;have L:∀b,b<h.size->v.get b=h.get b:=λb A=>(m.get b (by have:=o.sz;omega)).trans (o.get b A);have bn:=g.step m.ok λb A=>L b (g.fp b A);have bB:=bn.get;simp at bB;obtain⟨bp,aN,bu,bs⟩:=(bn.gr 6 rfl).nd (cx:=cx) (f:=eT) m.ok WL rfl SW rfl dA (λJ=>rfl) (k,.arr j S 0 M false) dB;obtain⟨cb,e6,eh⟩:=bn.app 6 rfl bs;obtain⟨I,ce⟩:=eh _ rfl;simp at cb I ce;simp only[eT]at bu;have ap:=(m.get N (by rw[<-bS];exact o.sz)).trans gC;simp[ap,r,x,s,y,u,C,K,D,z,bB,bu,cb,dZ,bs.1.il,bs.1.cells,de];have eR:=m.size;have eI:=o.sz;have Y:=iW (L 2 g.lt);have dm:∀b,b<N->¬Fp h 2 b->(dY aN 2 _).get b=h.get b:=λb A a7=>(I.get b dz (by rw[Y];exact a7)).trans (L b dz);have eL:=g.lt;refine⟨⟨_,bp,E++[(k,.arr j S 0 M false)],X++[⟨k,cp⟩],by simpa using ce,?_,dB,λJ bi=> ?_⟩,(Q.kY (L 2 g.lt) (L 0 Q.lt)).step I,(P.kY (L 2 g.lt) (L 1 P.lt)).step I⟩
   ·rw[List.map_append,List.map_append];have eV:v.size<=(dY aN 2 (⟨7,0,ver+1,true,false,[.agg [sl (W.cells.map ij.t),sl (W.em.map iF.t),sl (W.gW.map iU.t),sl (W.eg.map T.str),sl (W.dK.map T.str),sl (W.iG.map iH.t),bp]]⟩:iZ)).size:=I.ok.sz;refine iB.append (R.ft λb A=>⟨⟨A.1,dz,λq=> ?_⟩,dm b A.2.1 A.2.2⟩) (.cons (abA ⟨dz,dz,λq=> ?_⟩ ?_) .nil)
    ·rcases I.fp b q with q|q
     ·rw[Y]at q;exact A.2.2 q
     ·omega
    ·rcases I.fp j q with q|q
     ·rw[Y]at q;have:=g.fp j q;omega
     ·omega
    ·have c9:(dY aN 2 (⟨7,0,ver+1,true,false,[.agg [sl (W.cells.map ij.t),sl (W.em.map iF.t),sl (W.gW.map iU.t),sl (W.eg.map T.str),sl (W.dK.map T.str),sl (W.iG.map iH.t),bp]]⟩:iZ)).get j=_:=((I.get j dz λq=>by rw[Y]at q;have:=g.fp j q;omega).trans (m.get j bN)).trans av;have dv:M<=ey.length:=by
      have:=bQ List.length bX;rw[List.length_take,aG]at this;omega
     rw[gH,c9];simp[dv,bX]
   ·rcases List.mem_append.1 bi with q|q
    ·exact a6 J q
    ·rw[List.mem_singleton.1 q];simp only;omega
  ·exact⟨t.locals.length,1,Sn.new b9 _,dA,by simp[r,x,s,u]⟩
 ·rintro a h ⟨⟨ver,an,E,X,g,R,hE,a6⟩,Q,P,r,x,s,⟨al,y⟩,u⟩;have O:=g.get;simp at O;have ae:=P.get;unfold Iq at ae;have er:=g.sq P ⟨7,0,1,true,false,[.agg [sl (W.cells.map ij.t),sl (W.em.map iF.t),sl (W.gW.map iU.t),sl (W.eg.map T.str),sl (W.dK.map T.str),sl (W.iG.map iH.t),an]]⟩;have c4:(dY h 1 ⟨7,0,1,true,false,[.agg [sl (W.cells.map ij.t),sl (W.em.map iF.t),sl (W.gW.map iU.t),sl (W.eg.map T.str),sl (W.dK.map T.str),sl (W.iG.map iH.t),an]]⟩).get 1=_:=(dP ae _ 1).trans (aq rfl);have c1:=(er.gr 6 rfl).Ic (d:=4) dz (R.ft (V':=λ_=>True) λj eE=>⟨trivial,by rw[dP ae,ao dz]⟩);simp[r,x,s,u,Q.get,O,ae,dZ,c4,c1];exact⟨⟨⟨W,X⟩,rfl,a6⟩,g.ok.hp⟩
 ·obtain⟨eo,bz⟩:=nW.start (h:=((hE.cons ⟨2,0,0,true,false,[c.t]⟩).cons Iq).cons ⟨7,0,1,true,false,[.agg [sl (W.cells.map ij.t),sl (W.em.map iF.t),sl (W.gW.map iU.t),sl (W.eg.map T.str),sl (W.dK.map T.str),sl (W.iG.map iH.t),.dM [] false]]⟩) (w:=2) (szw:=7) (ver:=1) (F:=[(sl (W.cells.map ij.t),none),(sl (W.em.map iF.t),none),(sl (W.gW.map iU.t),none),(sl (W.eg.map T.str),none),(sl (W.dK.map T.str),none),(sl (W.iG.map iH.t),none),(.dM [] false,some (2,[]))]) ⟨dA,dA,dA⟩ (by simp[Iq]) dA;exact⟨⟨_,_,[],[],eo,.nil,rfl,dA⟩,⟨dA,λq=>absurd (bz 0 q) dD⟩,⟨by simp[Iq],λq=>absurd (bz 1 q) dD⟩,dA⟩
end
noncomputable section
open Go Go.TI
attribute [-simp] List.map_take List.map_drop List.map_append fG fg ei Bool.not_or Bool.not_and
attribute [simp] fF fh
attribute [-simp] size_cons
def XP(a:List Nat×T×T):T:= .agg [.str a.1,dE 0,a.2.1,a.2.2]
def R0(a:fR):Prop:=a.locals.length<=10/\dQ.ws a.body<=100000/\∀b∈a.body,MS b
def PgV(c:Nat)(b:H)(a:Nat):Prop:=4<a/\a<c/\¬Fp b 2 a/\¬Fp b 3 a
def Pg(e:Nat)(b:H)(f:Nat):Prop:=∃h a,∃d:List (List Nat×T×T),∃c:List fR,nW b 3 2 h [(sl (vi.map iy.t),none),(a,some (4,d.map XP))]/\
 iB (FT b (PgV e b) 10) (d.map XP) (c.map fR.t)/\c.length=f/\(∀g∈c,R0 g)/\(∀a,Fp b 3 a->a=3\/4<a)/\∀a,Fp b 3 a->¬Fp b 2 a
def Pg.step{f j:Nat}{b e:H}(r:Pg f b j)(c:Step 2 b e)(x:f<=b.size):Pg f e j:=by
 obtain⟨w,d,m,n,l,o,s,t,u,k⟩:=r;obtain⟨v,p⟩:=l.other k c;have h:e.get 3=b.get 3:=c.get 3 l.lt (k 3 (.inl rfl));refine⟨w,d,m,n,v,o.ft λg a=>⟨⟨a.1,a.2.1,λq=> ?_,by rw[iW h];exact a.2.2.2⟩,c.get g (by have:=a.2.1;omega) a.2.2.1⟩,s,t,λd i=>by rw[iW h]at i;exact u d i,p⟩;rcases c.fp g q with q|q
 ·exact a.2.2.1 q
 ·have:=a.2.1;omega
def Pg.wide{c d e:Nat}{b:H}(j:Pg c b e)(o:c<=d):Pg d b e:=by
 obtain⟨m,i,f,g,l,h,k⟩:=j;exact⟨m,i,f,g,l,h.ft λn a=>⟨⟨a.1,by have:=a.2.1;omega,a.2.2⟩,rfl⟩,k⟩
def X6:List (List Nat):=[[109,97,105,110],[116,49],[116,50],[116,51]]
def Cs:iZ:=⟨1,0,0,true,false,X6.map T.str⟩
def Ep:iZ:=(dG 2 0 [.agg [dF,dF]])
structure Rd(L:List Int)(h:H)(i:Nat):Prop where
 k:Mk L 0 h 2 1
 pg:Pg h.size h i
 re:Lb 2 h 0 Ep
 nm:Lb 2 h 4 Cs
def RN(i:List Int){c:H}(d:c=((((hE.cons Ep).cons (dG 2 0 [.agg [sl (i.map (T.int .u8)),dE 0]])).cons (dG 8 0 [.agg (sr 1 0 20 false false false false dF)])).cons (dG 2 1 [.agg [sl (vi.map iy.t),dF]]))):
 Mk i 0 c 2 1/\Pg 4 c 0/\Lb 2 c 0 Ep/\c.size=4:=by
 have m:ig 0 c:=by subst d;exact⟨dA,dA,dA⟩
 have k:c.get 2=some (dG 8 0 [.agg (sr 1 0 20 false false false false dF)]):=by subst d;simp
 have f:∀a,Fp c 2 a->a=2\/a=1:=by
  rintro a (rfl|⟨p,g,o,l,b⟩)
  ·exact .inl rfl
  ·rw[k]at g;simp only[ar]at g;subst g;simp[fw,T.cells,sr]at l;rcases l with rfl|rfl|rfl|rfl|rfl|rfl|rfl|rfl<;>first|(have b:(none:aa Nat)=some a:=b;simp at b;done)|(have b:some 1=some a:=b;simp at b;exact .inr b.symm)
 obtain⟨n,j⟩:=nW.start (h:=c) (w:=3) (szw:=2) (ver:=1) (F:=[(sl (vi.map iy.t),none),(dF,some (4,[]))]) m (by subst d;simp) dA;refine⟨⟨m,λa e=> ?_,⟨0,0,by subst d;simp,Int.le_refl _⟩,0,0,20,false,false,false,false,dF,[],k,Gr.nil _ _,rfl⟩,⟨1,dF,[],[],n,.nil,rfl,dA,λa e=> .inl (j a e),λa e b=> ?_⟩,⟨by subst d;simp[Ep],λb=> ?_⟩,by subst d;simp⟩
 ·have:=f a e;subst d;simp;omega
 ·have:=f a b;have:=j a e;omega
 ·have:=f 0 b;omega
def Mb(a:Int)(b:List Nat):dQ:=⟨a,0,b,[],[],⟨0,0,[],[]⟩,[],[]⟩
def Vt(a:Int)(b:List Nat):T:= .agg [dE a,dE 0,.str b,.str [],dF,dE 0,dE 0,.str [],dF,dF,dF]
def Uj{e:H}{c:Nat->Prop}(a:Int)(b:List Nat)(d:Nat):FT e c (d+2) (Vt a b) (Mb a b).t:=
 .inr (.inr ⟨_,(Mb a b).cs,rfl,.cons (fQ ..) (.cons (fQ ..) (.cons (ke ..) (.cons (ke ..) (.cons (jh ..) (.cons (fQ ..) (.cons (fQ ..) (.cons (ke ..) (.cons (jh ..) (.cons (jh ..) (.cons (jh ..) .nil)))))))))),dQ.nI _⟩)
def Ui{k:Int}{nm:List Nat}(d:k=12\/k=13):MS (Mb k nm)/\(Mb k nm).w<=wd 2:=by
 refine⟨.mk (λa=>by unfold Mb at a;simp at a;omega) (λa=>by unfold Mb at a;simp at a;omega) (λc b=>by unfold Mb at b;simp at b) (λa=>by unfold Mb at a;simp at a;omega) (λc b=>by unfold Mb at b;simp at b) (λc b=>by unfold Mb at b;simp at b),?_⟩;rw[dQ.lF,dW.lF];unfold Mb wd;simp only[dQ.rZ,dQ.Ke,dQ.uU,dQ.xX,dQ.iQ,dW.iQ,dW.FJ];omega
def FT.stmt{i:H}{g:Nat->Prop}{d:Nat}{c:T}{f:dQ}(b:FT i g d c f.t):c.cells.length=11:=by
 cases d with
 |zero=>exact b.elim
 |succ d=>
  rw[f.nI]at b;rcases b with⟨j,k,a⟩|⟨_,_,_,_,_,_,h,_,_,_,_,a⟩|⟨e,n,rfl,l,a⟩
  ·cases c<;>first|exact absurd rfl (k _)|(rw[ny]at a;rename_i m b;cases m<;>simp[sl]at a;done)|(simp at a;done)|(simp[jW]at j;done)
  ·cases h<;>simp[sl]at a
  ·simp only[T.agg.injEq]at a;subst a;rw[show(T.agg e).cells=e from rfl,l.length];rfl
structure Th(L:List Int)(hC:H)(nm:List Nat)(bl cnt:Nat)(h:H)(v:T)(ver:Nat)(l:List dQ):Prop where
 sv:SV (hC.size+1) h.size h 2 6 v l
 k:Mk L 0 h 2 1
 st:Step 2 hC h
 l8:Lb 2 h hC.size (dG 4 ver [.agg [.str nm,dE 0,.arr bl 0 0 2 false,v]])
 ms:∀s∈l,MS s/\s.w<=wd 2
 len:l.length<=cnt
 z:2<hC.size
def Th.cons{d:List Int}{h g:H}{j:List Nat}{e f m:Nat}{l:T}{i:List dQ}(a:Th d h j e f g l m i)(c:iZ):Th d h j e f (g.cons c) l m i:=by
 have b:=Step.cons a.k.ok a.k.lt c;exact⟨(a.sv.step b (au _)).wide (au _) dA,a.k.cons c,a.st.trans b,a.l8.step b,a.ms,a.len,a.z⟩
def Th.step{c:List Int}{h g d:H}{j:List Nat}{e f l:Nat}{k:T}{i:List dQ}(a:Th c h j e f g k l i)(b:Step 2 g d)(m:Mk c 0 d 2 1):Th c h j e f d k l i:=
 ⟨(a.sv.step b (au _)).wide (au _) b.ok.sz,m,a.st.trans b,a.l8.step b,a.ms,a.len,a.z⟩
def Th.more{e:List Int}{i h:H}{j:List Nat}{f g m d:Nat}{c:T}{b:List dQ}(a:Th e i j f g h c d b)(l:g<=m):∃c d b,Th e i j f m h c d b:=⟨c,d,b,a.sv,a.k,a.st,a.l8,a.ms,aS a.len l,a.z⟩
def Pq{X:List fR}(hl:X.length<=4)(b:∀a∈X,R0 a):Pr ⟨vi,X⟩:=by
 refine⟨⟨⟨by simp[vi],dC,λa ht=>⟨by have:=(b a ht).1;omega,by have:=(b a ht).2.1;omega⟩⟩,?_,λa ht=>(b a ht).2.2,7,by simp[vi],by simp[vi,sj]⟩,by simp[vi],by simp[vi],⟨1,0,[113],2,0,[]⟩,by simp[vi],rfl,rfl⟩;have d:∀X:List fR,(∀a∈X,R0 a)->pX X<=X.length*100000:=by
  intro X;induction X with
  |nil=>intro _;simp[pX]
  |cons e X c=>
   intro b;have f:=c λa ht=>b a (by simp[ht]);have g:=(b e dA).2.1;unfold pX at*
   simp only[aV,List.sum_cons,bj];omega
 have:=d X b;unfold pX at this;simp only;omega
def U1{b:H}{a c:T}(i:SL a []\/∃d e h,a= .arr d e 0 h false)(f:oX a=true)(g:b.jf c=some []):iO cx b 172 172 a c=some (.val a b):=by
 unfold iO pM mV;rw[yW,dX,dX];simp only[show GU.u= .slice 211 from rfl,yU,g,dX];show(gD (fits _ []) (jA (gD (oX a) (some (a,b)))))=_;rw[f];rfl
def Th.app{o:List Int}{c f:H}{i:List Nat}{h p n m:Nat}{l x:T}{xs:List T}{r l2:List dQ}(b:Th o c i h p f l m r)(v:f.jf x=some xs)(s:iB (FT f (Nw (c.size+1) f.size f 2 l) 8) xs (l2.map dQ.t))(K:∀j∈l2,MS j/\j.w<=wd 2)(U:l2.length<=n)(S:p+n<=1000):
 ∃e a,iO cx f 172 172 l x=some (.val e a)/\a.get c.size=f.get c.size/\e.il=true/\e.cells=[e]/\Th o c i h (p+n) (dY a c.size (dG 4 (m+1) [.agg [.str i,dE 0,.arr h 0 0 2 false,e]])) e (m+1) (r++l2):=by
 have fin:∀e a,SV (c.size+1) a.size a 2 6 e (r++l2)->Mk o 0 a 2 1->Step 2 c a->Lb 2 a c.size (dG 4 m [.agg [.str i,dE 0,.arr h 0 0 2 false,l]])->Th o c i h (p+n) (dY a c.size (dG 4 (m+1) [.agg [.str i,dE 0,.arr h 0 0 2 false,e]])) e (m+1) (r++l2):=λe a M D N g=>
  ⟨by rw[fU];exact M.sq g (.inl (df _)) _,D.sq g _,Step.sq D.ok g _ _ N (au _),⟨(dP g.get _ _).trans (aq rfl),by rw[iW (show(dY a c.size _).get 2=a.get 2 by rw[dP g.get,ao (bo g.ne)])];exact g.nf⟩,λj I=>(List.mem_append.1 I).elim (b.ms j) (K j),by rw[aT];have:=b.len;omega,b.z⟩
 by_cases B:xs=[]
 ·subst B;have:l2=[]:=by cases l2 with|nil=>rfl|cons=>cases s
  subst this;obtain⟨R,u,_⟩:=b.sv;refine⟨l,f,?_,rfl,u.il,u.cells,fin l f (by rw[bL];exact b.sv) b.k b.st b.l8⟩;rcases u with⟨rfl,rfl⟩|⟨P,Q,_,_,_,rfl,_⟩
  ·exact U1 (.inl (TJ _ _)) rfl v
  ·exact U1 (.inr ⟨_,_,_,rfl⟩) rfl v
 have E:∀q∈xs,q.cells.length=11:=λq F=>by
  obtain⟨V,G,J⟩:=s.HO F;obtain⟨j,_,rfl⟩:=List.mem_map.1 G;exact FT.stmt (d:=8) J
 obtain⟨e,a,q,y,L,O,C⟩:=b.sv.app b.k (by have:=b.l8.lt;omega) (au _) v s E B (by have:=b.len;omega);have A:=C c.size (df _);refine⟨e,a,q,A,y.gc.1,y.gc.2,fin e a y L (O c b.st dz) ⟨A.trans b.l8.get,?_⟩⟩;rw[iW (C 2 (by have:=b.z;omega))];exact b.l8.nf
def aby{z:List Int}{F b d:H}{m:List Nat}{e Z L G i:Nat}{x K:T}{v:List dQ}{n:List (List Nat×T×T)}{l:List fR}(g:Th z F m e 7 b x Z v)(V:Lb 2 b 0 Ep)(S:Lb 2 b 4 Cs)
 (o:Lb 2 b e (dG 1 0 [.str [97],.str [98]])) (X:nW d 3 2 L [(sl (vi.map iy.t),none),(K,some (4,(n++[(m,T.arr e 0 0 2 false,x)]).map XP))]) (f:Step 3 b d) (M:iB (FT b (PgV i b) 10) (n.map XP) (l.map fR.t)) (P:∀w∈l,R0 w)
 (B:∀a,Fp b 3 a->a=3\/4<a) (A:∀a,Fp b 3 a->¬Fp b 2 a) (al:l.length=G) (N:∀a,Fp b 3 a->a<i\/a=3) (ae:4<i) (an:i<=F.size) (O:4<e/\i<=e):Rd z d (G+1):=by
 have ap:=g.l8.lt;have Y:b.size<=d.size:=f.ok.sz;have U:ig 0 d:=⟨f.ok.hp,f.ok.low,aw _⟩;have D:∀a,Fp b 2 a->d.get a=b.get a:=λa c=>f.get a (g.k.fp a c) λq=>A a q c;have p:=D 2 (.inl rfl);have R:∀a,a<=4->a≠3->¬Fp b 3 a:=λa j h q=>(B a q).elim h λq=>by omega
 have J:∀a y,Lb 2 b a y->a<=4->a≠3->Lb 2 d a y:=λa y u j h=>⟨(f.get a u.lt (R a j h)).trans u.get,by rw[iW p];exact u.nf⟩;have s:∀a,4<a->a<b.size->¬Fp b 2 a->¬Fp b 3 a->PgV d.size d a/\d.get a=b.get a:=λa j h E r=>⟨⟨j,dz,by rw[iW p];exact E,λq=>(f.fp a q).elim r λq=>by omega⟩,f.get a h r⟩;have C:∀a,Fp b 3 a->a<i\/a=3:=λa c=>N a c;refine⟨g.k.same U Y D,⟨L,K,n++[(m,T.arr e 0 0 2 false,x)],l++[⟨m,0,[[97],[98]],v⟩],X,?_,dB,λw ht=> ?_,λa c=> ?_,λa c q=> ?_⟩,J 0 _ V dz dz,J 4 _ S dz dz⟩
 ·rw[List.map_append,List.map_append];refine iB.append (M.ft λa c=>s a c.1 (by have:=c.2.1;omega) c.2.2.1 c.2.2.2) (.cons ?_ .nil);have I:=s e O.1 o.lt o.nf λq=>(C e q).elim (λq=>by omega) λq=>by omega
  refine .inr (.inr ⟨_,_,rfl,.cons (ke ..) (.cons (fQ ..) (.cons (.inr (.inl ⟨e,0,0,2,false,[.str [97],.str [98]],[.str [97],.str [98]],rfl,I.1,?_,.cons (ke ..) (.cons (ke ..) .nil),rfl⟩)) (.cons (g.sv.ft.mono λa c=>s a (by have:=c.1;omega) c.2.1 c.2.2.1 λq=>(C a q).elim (λq=>by have:=c.1;omega) λq=>by have:=c.1;omega) .nil))),rfl⟩);rw[gH,I.2,o.get];simp
 ·rcases List.mem_append.1 ht with q|q
  ·exact P w q
  ·rw[List.mem_singleton.1 q];refine⟨dA,?_,λW Q=>(g.ms W Q).1⟩;have j:=wY g.ms;have h:=g.len;have E:v.length*wd 2<=7*wd 2:=aW _ h;have r:wd 2=10000:=rfl;simp only;omega
 ·rcases f.fp a c with q|q
  ·exact B a q
  ·exact .inr dz
 ·rw[iW p]at q;rcases f.fp a c with k|k
  ·exact A a k q
  ·have:=g.k.fp a q;omega
def Pa:nO Tryz.prog cx 77 (λI:List Int=>[sl (I.map (T.int .u8))]) okB (λI r=>∃p:fK,r=p.t/\Pr p/\p.dK.length<=100):=by
 refine jt (tb:=⟨pt [(117,zL),(120,Hf),(119,Jh),(93,j1.jv)],ht [(63,jw zi uF rQ),(118,VG 11)]⟩) fa eQ (iR 2535301804919368649890680801277 [(15,[(1,7),(1,9)])] Tryz.func77) (λ_=>1000) (λa b e=>by simp at e;exact jD (λ_ _ e=>by simpa using e) e) dA (by simp[Tryz.f77]) ?_;rintro I bs c eb;simp at eb;simp[Tryz.f77,eb,QO];generalize u:(((H.cons (H.cons hE _) _).cons _).cons _:H)=hc;obtain⟨cb,gp,gB,ha⟩:=RN I u.symm;clear u;refine sd dA cb.tp cb.ok dz dz bs λbz l hn t2 eC=> ?_;obtain⟨aN,eI⟩:=cb.tape eC t2;have gv:=gp.step eI dz;have eU:l.size=4:=eC.size.trans ha;have eX:binop .add (dE 2) (dE bz)=some (dE ((2+bz:Nat):Int)):=by rw[ik dz dz];simp
 simp[eX,eU];have hs:2+bz<=4:=dz;generalize b8:2+bz=n at*
 refine fy n dz (λj c e=>Rd I e j/\dH c 2 (.ptr 0 0 0 0)/\dH c 3 (.ptr 2 0 0 0)/\dH c 4 (.ptr 3 0 0 0)/\dH c 5 (dE n)/\dH c 6 (.arr 4 0 0 4 false)/\dH c 7 (dE j)) ?_ ?_ dz ?_
 ·rintro j c e fA fb ⟨⟨aE,bB,a7,nm⟩,l,B,o,C,D,h⟩;obtain⟨bC,g,left,set,c1,bH,ca,er,bu,A,av,hl⟩:=aE.ex;obtain⟨ae,N⟩:=aE.set (th':=j) (left':=left) (se':=set) (tx':=c1) (at2:=bH) (lp':=ca) A av hl;have ce:=nm.step ae;have eB:=a7.step ae;simp only[sr]at A ae N ce eB;have fl:j<4:=dz;obtain⟨Z,fS⟩:∃s,X6[j]? =some s:=⟨X6[j]'(by show j<4;omega),az (by show j<4;omega)⟩;simp[B,C,D,h,fA,A,dZ];generalize dY e 2 _=i at*
  have dk:=ce.get;unfold Cs at dk;have fv:i.low<=i.size+1:=Nat.le_succ_of_le N.ok.low;simp[h,dk,fS,fl,fv];have hv:=N.lt;have cp:=Step.cons N.ok N.lt (dG 1 0 [.str [97],.str [98]]);have aX:=N.cons (dG 1 0 [.str [97],.str [98]]);have gd:=Lb.new N.lt N.fp (dG 1 0 [.str [97],.str [98]]);have a8:=ae.trans cp;have O:Th I (i.cons (dG 1 0 [.str [97],.str [98]])) Z i.size 0 ((i.cons (dG 1 0 [.str [97],.str [98]])).cons (dG 4 1 [.agg [.str Z,dE 0,.arr i.size 0 0 2 false,dF]])) dF 1 []:=
   ⟨SV.nil _ _ _ _ _,aX.cons _,Step.cons aX.ok aX.lt _,by simpa using Lb.new aX.lt aX.fp (dG 4 1 [.agg [.str Z,dE 0,.arr i.size 0 0 2 false,dF]]),dA,dA,dB⟩
  have fi:i.size+1=(i.cons (dG 1 0 [.str [97],.str [98]])).size:=rfl;simp only[fi];generalize hh:i.cons (dG 1 0 [.str [97],.str [98]])=F at*
  refine ll (λc R=>∃v bC Y,Th I F Z i.size 3 R v bC Y/\dH c 2 (.ptr 0 0 0 0)/\dH c 3 (.ptr 2 0 0 0)/\dH c 4 (.ptr 3 0 0 0)/\dH c 5 (dE n)/\dH c 6 (.arr 4 0 0 4 false)/\dH c 7 (dE j)/\dH c 8 (.ptr F.size 0 0 0)) (λu=> ?_) (λu=> ?_) ?_
  ·simp;refine nz n (λk c R=>1<=k/\(∃v bC Y,Th I F Z i.size (k-1) R v bC Y/\dH c 2 (.ptr 0 0 0 0)/\dH c 3 (.ptr 2 0 0 0)/\dH c 4 (.ptr 3 0 0 0)/\dH c 5 (dE n)/\dH c 6 (.arr 4 0 0 4 false)/\dH c 7 (dE j)/\dH c 8 (.ptr F.size 0 0 0))/\dH c 9 (dE k)) ?_ dz (k:=1) dz ⟨au _,⟨_,_,_,O,by simp[l,B,o,C,D,h]⟩,dA⟩;rintro k c R hj ⟨fo,⟨v,eR,Y,g,l,B,o,C,D,h,J⟩,dv⟩;have W:=g.l8.get;have gj:=(nm.step a8).step g.st;have dm:=gj.get;unfold Cs at dm;have hq:decide ((k:Int)<n)=decide (k<n):=by rw[decide_eq_decide];omega
   simp[C,dv];refine ee (λu=> ?_) (λu=> ?_)
   ·have b8:k<n:=by simpa using u
    have fs:k<4:=dz;obtain⟨a6,fL⟩:∃s,X6[k]? =some s:=⟨X6[k]'(by show k<4;omega),az (by show k<4;omega)⟩;have bp:=g.cons (dG 11 0 [Vt 12 a6]);obtain⟨eP,bX,M,gA,al,an,P⟩:=bp.app (x:= .arr R.size 0 0 1 false) (xs:=[Vt 12 a6]) (l2:=[Mb 12 a6]) (n:=1) (by rw[gH];simp) (.cons (Uj 12 a6 6) .nil) (by simp[Ui (k:=12) (nm:=a6) (.inl rfl)]) dA dz;have bT:=gA.trans bp.l8.get;have ds:(F.size=R.size)=False:=by have:=g.l8.lt;simp;omega
    simp only[Vt]at M;simp[D,J,dv,dm,fL,fs,W,M,bT,dZ,al,an];have e6:binop .add (dE (k:Int)) (dE 1)=some (dE ((k+1:Nat):Int)):=by rw[ik dz dz];simp
    simp[l,B,o,C,D,h,J,e6];exact⟨k+1,dz,dz,dz,⟨eP,_,_,by rw[show k+1-1=k-1+1 by omega];exact P⟩,dA⟩
   ·have b8:k=n:=by simp at u;omega
    subst b8;simp[l,B,o,C,D,h,J];exact⟨v,eR,Y,g.sv,g.k,g.st,g.l8,g.ms,by have:=g.len;omega,g.z⟩
  ·simp[l,B,o,C,D,h];exact⟨_,_,_,O.sv,O.k,O.st,O.l8,O.ms,by have:=O.len;omega,O.z⟩
  ·rintro c R ⟨v,eR,Y,g,l,B,o,C,D,h,J⟩;have W:=g.l8.get;obtain⟨gX,th',left,gM,c1,bH,ca,er,bu,A,av,hl⟩:=g.k.ex;simp only[sr]at A;simp[B,J,W,A];clear A av hl;refine Kq dA g.k.tp g.k.ok dz dz bs λaA b6 fo eO eD=> ?_;obtain⟨eu,eL⟩:=g.k.tape eD eO;have bk:=g.step eL eu;have bN:binop .add (dE 1) (dE aA)=some (dE ((1+aA:Nat):Int)):=by rw[ik dz dz];simp
   have gQ:=fk (bk.l8.get.trans W.symm);simp[bN,gQ];refine li (adX 11) dA ⟨I,2,1,0,2,1+aA⟩ ⟨⟨dA,eu,bs,dA,dA,dC⟩,dA⟩ ?_;rintro w hE ⟨l2,bi,ef,fE,ey,cL⟩;simp only at bi ef fE ey cL;have cX:=bk.step cL ey;obtain⟨hb,de,c7,gz⟩:=bi;have hD:=bk.l8.lt;obtain⟨eP,bX,M,gA,al,an,P⟩:=cX.app (n:=3) de.jf (c7.ft λQ K=>⟨⟨by have:=K.1;omega,K.2.1,K.2.2.1,bk.sv.box (by have:=K.1;omega)⟩,rfl⟩) ef dz dz;have bi:=fk (cX.l8.get.trans bk.l8.get.symm);have di:=gA.trans cX.l8.get;have eN:=fk gA;clear gA eD eL cL eO c7 de gz;cases ec:decide (j=0)
   case' false=>
    simp[o,h,J,M,di,eN,bi,dZ,al,an,ec];generalize dY bX F.size _=S at*
    obtain⟨c4,eS,et,G⟩:=P.more (m:=7) dz
   case' true=>
    simp[B,h,J,M,di,eN,bi,dZ,al,an,ec];generalize dY bX F.size _=S at*
    obtain⟨gX,th',left,gM,c1,bH,ca,er,bu,A,av,hl⟩:=P.k.ex;simp only[sr]at A;simp[A];clear A av hl;refine sd dA P.k.tp P.k.ok dz dz bs λfY b7 ho gS gI=> ?_;obtain⟨gg,gP⟩:=P.k.tape gI gS;have bn:=P.step gP gg;have e8:=bn.l8.get;have eo:=((nm.step a8).step bn.st).get;unfold Cs at eo;simp;refine ee (λu=> ?gm) (λu=> ?gn)
    case' gn=>
     simp;generalize b7=S at*
     obtain⟨c4,eS,et,G⟩:=bn.more (m:=7) dz
    case' gm=>
     have bp:=bn.cons (dG 11 0 [Vt 13 [116,49]]);obtain⟨hB,e9,M,gA,al,an,gV⟩:=bp.app (x:= .arr b7.size 0 0 1 false) (xs:=[Vt 13 [116,49]]) (l2:=[Mb 13 [116,49]]) (n:=1) (by rw[gH];simp) (.cons (Uj 13 [116,49] 6) .nil) (by simp[Ui (k:=13) (nm:=[116,49]) (.inr rfl)]) dA dz;have bT:=gA.trans bp.l8.get;have ds:(F.size=b7.size)=False:=by have:=bn.l8.lt;simp;omega
     have fC:X6[1]? =some [116,49]:=rfl;simp only[Vt]at M;simp[o,D,J,eo,fC,e8,M,bT,dZ,al,an];generalize dY e9 F.size _=S at*
     obtain⟨c4,eS,et,G⟩:=gV.more (m:=7) dz
   all_goals
    have gw:=bB.step (a8.trans G.st) (au _);have gE:=(eB.step cp).step G.st;have gk:=(ce.step cp).step G.st;have W:=G.l8.get;have eV:=gd.step G.st;obtain⟨gZ,c9,E,X,L,ap,ea,b9,bS,dd⟩:=gw;have V:=L.get;simp at V;have ds:(F.size=S.size)=False:=by have:=G.l8.lt;simp;omega
    have e7:∀Q,Fp S 3 Q->Q<e.size:=λQ K=>by
     obtain⟨_,_,_,_,eF,_,_,_,_,eW⟩:=bB;have e0:S.get 3=e.get 3:=(a8.trans G.st).get 3 eF.lt (eW 3 (.inl rfl));rw[iW e0]at K;exact eF.fp Q K
    have hd:(3=S.size)=False:=by have:=L.lt;simp;omega
    have hf:E.length=j:=by have:=ap.length;simp at this;omega
    obtain⟨hC,hg,eT,c6⟩:=(L.gr 1 rfl).nd (cx:=cx) (f:=XP) L.ok Ta rfl SY rfl dA (λx=>rfl) (Z,.arr i.size 0 0 2 false,c4) dB;obtain⟨eA,hA,gy⟩:=L.app 1 rfl c6;obtain⟨eM,eH⟩:=gy _ rfl;simp at eA eM eH;simp only[XP]at eT;simp[l,B,o,C,D,h,J,V,W,eT,eA,dZ,c6.1.il,c6.1.cells,fb];exact aby G gE gk eV eH eM ap b9 bS dd ea (λQ K=> .inl (e7 Q K)) (by have:=nm.lt;omega) (by have:=a8.ok.sz;omega) ⟨by have:=nm.lt;have:=ae.ok.sz;omega,ae.ok.sz⟩
 ·rintro c e ⟨⟨aE,bB,a7,nm⟩,l,B,o,C,D,h⟩;obtain⟨gZ,c9,E,X,L,ap,ea,b9,bS,dd⟩:=bB;have V:=L.get;simp at V;have U:=a7.get;unfold Ep at U;have b6:=Pq (X:=X) dz b9;have e4:=(L.gr 1 rfl).Ic (d:=10) dz ap;have bN:=λ{tb:fJ} (ht:tb.p 93=some j1.jv)=>c04 ht ⟨vi,X⟩ b6.1;simp[o,C,h,V,e4,bN];have gi:(0=e.size)=False:=by have:=a7.lt;simp;omega
  have dn:∀y,(dY e 0 y).get 0=some y:=λy=>(dP U y 0).trans (aq rfl);refine ee (λu=> ?_) (λu=> ?_)
  ·have aA:(e.size=e.size+1+1)=False:=by simp<;>omega
   have fY:(e.size+1=e.size+1+1)=False:=dA;have hy:(e.size=e.size+1)=False:=dA;simp[l,U,QO,Tq,sw,gi,dn,dZ,a7.lt,gH,xU,dV,aA];have fB:∀t∈ [(⟨[109,97,105,110],0,[[97],[98]],[Dy [120] [] ⟨1,1,[],[]⟩]⟩:fR)],R0 t:=λt ht=>by
    rw[List.mem_singleton.1 ht];have fX:(Dy [120] [] ⟨1,1,[],[]⟩).w<=wd 0:=LM (by rw[dW.iQ];omega) (by rw[dW.lF];simp[dW.iQ]);refine⟨dA,?_,λs bu=> ?_⟩
    ·simp only[dQ.j7,dQ.iQ];unfold wd at fX;omega
    ·rw[List.mem_singleton.1 bu];exact Dj dA (.num 1) (λq=>absurd rfl q)
   exact⟨⟨⟨vi,[⟨[109,97,105,110],0,[[97],[98]],[Dy [120] [] ⟨1,1,[],[]⟩]⟩]⟩,rfl,Pq dA fB,dA⟩,aE.ok.hp⟩
  ·have l3:Lb 3 e 0 (dG 2 0 [.agg [dF,dF]]):=⟨U,λq=>(bS 0 q).elim dz dz⟩;have e5:=((L.sq l3 (dG 2 1 [.agg [sl (vi.map iy.t),c9]])).gr 1 rfl).Ic (d:=10) dz (ap.ft (V':=λ_=>True) λb fe=>⟨trivial,by rw[dP U,ao (by have:=fe.1;omega)]⟩);simp[l,o,V,U,dZ,dn,e5];exact⟨⟨⟨vi,X⟩,rfl,b6,dC⟩,aE.ok.hp⟩
 ·have eE:=Step.cons aN.ok aN.lt Cs;have eh:=Lb.new aN.lt aN.fp Cs;rw[eU]at eh;simp;exact⟨⟨aN.cons _,(gv.step eE dz).wide dB,(gB.step eI).step eE,eh⟩,dz⟩
end
noncomputable section
open Go Go.TI
attribute [-simp] List.map_take List.map_drop List.map_append fG fg ei Bool.not_or Bool.not_and
attribute [simp] fF fh
def EE:nO Tryz.prog cx 44 (λa:List Int=>[sl (a.map (T.int .u8))]) (λa=>okB a/\a.length<=1000000) (λa w=>∃c:List ji,w=sl (c.map ji.t)/\c.length=a.length):=by
 refine jt (tb:=⟨pt [],ht []⟩) fa eQ (iR 285 [] Tryz.func44) (λa=>a.length+5) (λx y b=>by simp at b;exact jD (λ_ _ b=>by simpa using b) b) dA (by simp[Tryz.f44]) ?_;rintro a ⟨⟨_,u⟩,A⟩ e o;simp at o;simp[Tryz.f44];refine fy a.length dz (λd e b=>∃g,∃c:List ji,Gr b g 2 (c.map ji.t)/\ig 0 b/\c.length=d/\dH e 0 (sl (a.map (T.int .u8)))/\dH e 3 g/\dH e 4 (dE d)) ?_ ?_ dz ⟨dF,[],Gr.nil _ _,by exact⟨dA,dA,dA⟩,rfl,by simp[o]⟩
 ·rintro d e b p v ⟨g,c,h,l,n,i,j,k⟩;have B:=u a[d] (aC p);have q: -9223372036854775808<=a[d]:=dz;have r:a[d]<9223372036854775808:=dz;obtain⟨C,z,s,m⟩:=h.nd (cx:=cx) (f:=ji.t) l Tb rfl SZ rfl dA (λ_=>rfl) (⟨a[d].tmod 4,IntKind.i64.wrap ((IntKind.i64.wrap (a[d].tdiv 4)).tmod 5-1)⟩:ji) dB;simp[i,j,k,p,s,v,q,r,DD (show¬(4:Int)=0 by omega),Z6 (show¬(4:Int)=0 by omega),DD (show¬(5:Int)=0 by omega),uu];exact⟨_,_,m.1,⟨m.2.2.2.hp,m.2.2.2.low,aw _⟩,dB,rfl⟩
 ·rintro e b ⟨g,c,h,l,n,i,j,k⟩;simp[i,j,k];exact⟨_,⟨c,rfl,n⟩,l.hp,by rw[Qa g h.il,h.qJ dA]⟩
def adK(b:T):Prop:=∃(a:kc) (c:iK),b= .tuple [a.t,c.t]/\Kb a.dO/\a.dO.length<=80
def K1:nO Tryz.prog cx 42 (λi:jM×List ji=>[i.1.t,sl (i.2.map ji.t)]) (λi=>(∀o∈i.1.dK,o.jl.length<=10000001)/\i.2.length<=80) (λ_=>adK):=by
 refine jt (tb:=⟨pt [(74,wC.jv),(76,Ez.jv)],ht [(75,jw IFr Uz OH)]⟩) fa eQ (iR 1271 [(3,[(0,2),(2,8),(4,8)]),(4,[(4,5)])] Tryz.func42) (λ_=>105) (λi r l=>by simp at l;exact aR (jM.inj l.1) (jD (λ_ _ l=>ji.inj l) l.2)) dA (by simp[Tryz.f42]) ?_;rintro⟨k,A⟩ ⟨n,x⟩ an y;simp only at n x;simp at y;obtain⟨w,I⟩:=y;obtain⟨_,⟨r,rfl,al⟩,u⟩:=wC.use k n;obtain⟨_,⟨N,rfl,P,D⟩,B⟩:=Ez.use k n;cases r with
 |false=>
  simp[Tryz.f42,w,u];exact⟨⟨⟨[],[],[],[],[],[]⟩,[]⟩,⟨⟨[],0,[],[]⟩,[],[],[]⟩,rfl,λe J=>by simp at J,dA⟩
 |true=>
  simp[Tryz.f42,w,I,u,B];generalize j:((hE.cons _).cons _).cons _=h;have M:ig 0 h:=by rw[<-j];exact⟨dA,dA,dA⟩
  have ae:h.size=3:=by rw[<-j];rfl
  have T:h.get 0=some (dG 7 0 [k.t]):=by rw[<-j];simp
  have U:h.get 1=some (dG 7 0 [.agg [dF,dF,dF,dF,dF,dF,dF]]):=by rw[<-j];simp
  have V:h.get 2=some (dG 7 0 [.agg [dF,dE 0,dF,dF,dF,dF,dF]]):=by rw[<-j];simp
  clear j;refine li Pi dA ⟨k,N,A⟩ ⟨rfl,M,n,P,D,x⟩ ?_;rintro _ b ⟨z,d,S,rfl,m,s,f,C,hl⟩;have Z:=f.ok.sz;rw[ae]at s Z;have a0:=(f.get 0 dz).trans T;have a1:=(f.get 1 dz).trans U;have a2:=(f.get 2 dz).trans V;have sv:=λa (K:a<h.size)=>fk (f.get a K);have Q:=sv 0 dz;have W:(0=b.size)=False:=dB;have X:(1=b.size)=False:=dB;have Y:(2=b.size)=False:=dB;have L:=f.ok.low;have O:fc h b b.size=true:=jd (lz _ f.ok.sz);have okB:ig 0 (b.cons (dG 7 1 [d.t])):=ig.cons ⟨f.ok.hp,f.ok.low,aw _⟩ _;have q:∀a,(b.cons (dG 7 1 [d.t])).get a=if a=b.size then some (dG 7 1 [d.t])else b.get a:=λa=>dV ..;have v:=(q 1).trans ((ao dz).trans a1);have p:∀c a,(dY (b.cons (dG 7 1 [d.t])) 1 c).get a=if a=1 then some c else if a=b.size then some (dG 7 1 [d.t])else b.get a:=λc a=>(dP v c a).trans (by rw[q]);have G:=λc=>(p c 2).trans ((ao dz).trans ((ao dz).trans a2));have G2:∀c g a,(dY (dY (b.cons (dG 7 1 [d.t])) 1 c) 2 g).get a=if a=2 then some g else if a=1 then some c else if a=b.size then some (dG 7 1 [d.t])else b.get a:=λc g a=>(dP (G c) g a).trans (by rw[p]);have R:∀c,fc (b.cons (dG 7 1 [d.t])) (dY (b.cons (dG 7 1 [d.t])) 1 c) b.size=true:=λc=>mW v dz c;have ap:(b.size=1)=False:=dB;have E:∀c g,TI.fz (dY (dY (b.cons (dG 7 1 [d.t])) 1 c) 2 g) S=some (sl (z.map ez.t)):=λc g=>(m.mono (h':=dY (dY (b.cons (dG 7 1 [d.t])) 1 c) 2 g) λa o=>by
   obtain⟨_,_,_,_,F,_⟩:=m.box o;have:=H.ew F;have:=s a o;rw[G2,ao dz,ao dz,ao dz]).fz dA
  simp[m.il,m.cells,a0,a1,a2,Q,W,X,Y,L,O,dZ,p,G2,R,E,q,f.ok.hp];exact⟨⟨k.fj,z⟩,d,rfl,C,hl⟩
def HF:nO Tryz.prog cx 43 (λc:List Int=>[sl (c.map (T.int .u8))]) okB (λ_ l=>∃a:jM,l=a.t/\∀m∈a.dK,m.jl.length<=10000001):=by
 refine jt (tb:=⟨pt [(77,Pa.jv),(59,AQ.jv)],ht []⟩) fa eQ (iR 13 [] Tryz.func43) (λ_=>105) (λn o b=>by simp at b;exact jD (λ_ _ b=>by simpa using b) b) dA (by simp[Tryz.f43]) ?_;rintro c g r d;simp at d;obtain⟨_,⟨k,rfl,i,j⟩,e⟩:=Pa.use c g;obtain⟨_,⟨a,p,q,rfl,h⟩,f⟩:=AQ.use k ⟨i,j⟩;simp[Tryz.f43,d,e,f];exact⟨a,rfl,h⟩
def adB(b:T):Prop:=∃a:kc,b=a.t/\Kb a.dO/\a.dO.length<=80
def Ew:nO Tryz.prog cx 19 (λa:List Int×List Int=>[sl (a.1.map (T.int .u8)),sl (a.2.map (T.int .u8))]) (λa=>okB a.1/\okB a.2/\a.2.length<=80) (λ_=>adB):=by
 refine jt (tb:=⟨pt [(43,HF.jv),(44,EE.jv),(42,K1.jv)],ht []⟩) fa eQ (iR 51 [] Tryz.func19) (λ_=>105) (λa s b=>by simp at b;exact aR (jD (λ_ _ b=>by simpa using b) b.1) (jD (λ_ _ b=>by simpa using b) b.2)) dA (by simp[Tryz.f19]) ?_;rintro⟨i,h⟩ ⟨e,d,p⟩ v f;simp only at e d p;simp at f;obtain⟨n,o⟩:=f;obtain⟨_,⟨j,rfl,q⟩,k⟩:=HF.use i e;obtain⟨_,⟨g,rfl,t⟩,l⟩:=EE.use h ⟨d,dz⟩;obtain⟨_,⟨r,u,rfl,m,hl⟩,c⟩:=K1.use (j,g) ⟨q,dC⟩;simp only at c;simp[Tryz.f19,n,o,k,l,c];exact⟨r,rfl,m,hl⟩
end
end Go.Proofs.YtmaeadedikngoaaGreatDoor
