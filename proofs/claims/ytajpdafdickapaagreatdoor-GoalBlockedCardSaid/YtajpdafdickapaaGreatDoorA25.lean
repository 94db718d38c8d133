/- W01f -/
import Derived.Test.YtajpdafdickapaaGreatDoorA24
import Derived.Test.YtajpdafdickapaaGreatDoorA18
set_option linter.all false
set_option maxRecDepth 100000
set_option maxHeartbeats 8000000
namespace Go.Proofs.YtajpdafdickapaaGreatDoor
noncomputable section
open Go Go.TI Tryz
attribute [-simp] List.map_take List.map_drop List.map_append fy fa eg Bool.not_or Bool.not_and
attribute [simp] fw fc
section
attribute [-simp] size_cons
def YC(a:List Nat×T×T):T:= .agg [.str a.1,Z 0,a.2.1,a.2.2]
def SZ(a:fP):Prop:=a.locals.length<=10/\dO.ws a.body<=100000/\∀b∈a.body,MS b
def PgV(c:Nat)(b:H)(a:Nat):Prop:=4<a/\a<c/\¬Fp b 2 a/\¬Fp b 3 a
def Pg(e:Nat)(b:H)(f:Nat):Prop:=∃h a,∃d:List (List Nat×T×T),∃c:List fP,ny b 3 2 h [(sl (vK.map iA.t),none),(a,some (4,d.map YC))]/\
 iM (FT b (PgV e b) 10) (d.map YC) (c.map fP.t)/\c.length=f/\(∀g∈c,SZ g)/\(∀a,Fp b 3 a->a=3\/4<a)/\∀a,Fp b 3 a->¬Fp b 2 a
def Pg.step{f j:Nat}{b e:H}(r:Pg f b j)(c:Step 2 b e)(x:f<=b.size):Pg f e j:=by
 obtain⟨w,d,m,n,l,o,s,t,u,k⟩:=r;have⟨v,p⟩:=l.other k c;have h:e.get 3=b.get 3:=c.get 3 l.lt (k 3 (.inl rfl));refine⟨w,d,m,n,v,o.ft λg a=>⟨⟨a.1,a.2.1,λq=>?_,by rw[iT h];exact a.2.2.2⟩,c.get g (by have:=a.2.1;omega) a.2.2.1⟩,s,t,λd i=>by rw[iT h]at i;exact u d i,p⟩;rcases c.fp g q with q|q
 ·exact a.2.2.1 q
 ·have:=a.2.1;omega
def Pg.wide{c d e:Nat}{b:H}(j:Pg c b e)(o:c<=d):Pg d b e:=by
 obtain⟨m,i,f,g,l,h,k⟩:=j;exact⟨m,i,f,g,l,h.ft λn a=>⟨⟨a.1,by have:=a.2.1;omega,a.2.2⟩,rfl⟩,k⟩
def YT:List (List Nat):=[[109,97,105,110],[116,49],[116,50],[116,51]]
def Dy:iY:=⟨1,0,0,true,false,YT.map T.str⟩
def Fk:iY:=(dE 2 0 [.agg [dD,dD]])
structure Rd(L:List Int)(h:H)(i:Nat):Prop where
 k:Mk L 0 h 2 1
 pg:Pg h.size h i
 re:Lb 2 h 0 Fk
 nm:Lb 2 h 4 Dy
def SD(i:List Int){c:H}(d:c=((((hE.cons Fk).cons (dE 2 0 [.agg [sl (i.map (T.int .u8)),Z 0]])).cons (dE 8 0 [.agg (sS 1 0 20 false false false false dD)])).cons (dE 2 1 [.agg [sl (vK.map iA.t),dD]]))):
 Mk i 0 c 2 1/\Pg 4 c 0/\Lb 2 c 0 Fk/\c.size=4:=by
 have m:il 0 c:=by subst d;exact⟨dy,dy,dy⟩
 have k:c.get 2=some (dE 8 0 [.agg (sS 1 0 20 false false false false dD)]):=by subst d;simp
 have f:∀a,Fp c 2 a->a=2\/a=1:=by
  rintro a (rfl|⟨p,g,o,l,b⟩)
  ·exact .inl rfl
  ·rw[k]at g;simp only[au]at g;subst g;simp[fF,T.cells,sS]at l;rcases l with rfl|rfl|rfl|rfl|rfl|rfl|rfl|rfl<;>first|(have b:(none:aa Nat)=some a:=b;simp at b;done)|(have b:some 1=some a:=b;simp at b;exact .inr b.symm)
 have⟨n,j⟩:=ny.start (h:=c) (w:=3) (szw:=2) (ver:=1) (F:=[(sl (vK.map iA.t),none),(dD,some (4,[]))]) m (by subst d;simp) dy;refine⟨⟨m,λa e=>?_,⟨0,0,by subst d;simp,Int.le_refl _⟩,0,0,20,false,false,false,false,dD,[],k,Gr.nil _ _,rfl⟩,⟨1,dD,[],[],n,.nil,rfl,dy,λa e=> .inl (j a e),λa e b=>?_⟩,⟨by subst d;simp[Fk],λb=>?_⟩,by subst d;simp⟩
 ·have:=f a e;subst d;simp;omega
 ·have:=f a b;have:=j a e;omega
 ·have:=f 0 b;omega
def MT(a:Int)(b:List Nat):dO:=⟨a,0,b,[],[],⟨0,0,[],[]⟩,[],[]⟩
def We(a:Int)(b:List Nat):T:= .agg [Z a,Z 0,.str b,.str [],dD,Z 0,Z 0,.str [],dD,dD,dD]
def U7{e:H}{c:Nat->Prop}(a:Int)(b:List Nat)(d:Nat):FT e c (d+2) (We a b) (MT a b).t:=
 .inr (.inr ⟨_,(MT a b).cs,rfl,.cons (gW ..) (.cons (gW ..) (.cons (ko ..) (.cons (ko ..) (.cons (jl ..) (.cons (gW ..) (.cons (gW ..) (.cons (ko ..) (.cons (jl ..) (.cons (jl ..) (.cons (jl ..) .nil)))))))))),dO.nP _⟩)
def U6{k:Int}{nm:List Nat}(d:k=12\/k=13):MS (MT k nm)/\(MT k nm).w<=wd 2:=by
 refine⟨.mk (λa=>by unfold MT at a;simp at a;omega) (λa=>by unfold MT at a;simp at a;omega) (λc b=>by unfold MT at b;simp at b) (λa=>by unfold MT at a;simp at a;omega) (λc b=>by unfold MT at b;simp at b) (λc b=>by unfold MT at b;simp at b),?_⟩;rw[dO.lF,dU.lF];unfold MT wd;simp only[dO.sx,dO.KM,dO.vi,dO.yB,dO.iW,dU.iW,dU.GD];omega
def FT.stmt{i:H}{g:Nat->Prop}{d:Nat}{c:T}{f:dO}(b:FT i g d c f.t):c.cells.length=11:=by
 cases d with
 |zero=>exact b.elim
 |succ d=>
  rw[f.nP]at b;rcases b with⟨j,k,a⟩|⟨_,_,_,_,_,_,h,_,_,_,_,a⟩|⟨e,n,rfl,l,a⟩
  ·cases c<;>first|exact absurd rfl (k _)|(rw[nL]at a;rename_i m b;cases m<;>simp[sl]at a;done)|(simp at a;done)|(simp[j2]at j;done)
  ·cases h<;>simp[sl]at a
  ·simp only[T.agg.injEq]at a;subst a;rw[show(T.agg e).cells=e from rfl,l.length];rfl
structure Th(L:List Int)(hC:H)(nm:List Nat)(bl cnt:Nat)(h:H)(v:T)(ver:Nat)(l:List dO):Prop where
 sv:SV (hC.size+1) h.size h 2 6 v l
 k:Mk L 0 h 2 1
 st:Step 2 hC h
 l8:Lb 2 h hC.size (dE 4 ver [.agg [.str nm,Z 0,.arr bl 0 0 2 false,v]])
 ms:∀s∈l,MS s/\s.w<=wd 2
 len:l.length<=cnt
 z:2<hC.size
theorem Th.cons{d:List Int}{h g:H}{j:List Nat}{e f m:Nat}{l:T}{i:List dO}(a:Th d h j e f g l m i)(c:iY):Th d h j e f (g.cons c) l m i:=by
 have b:=Step.cons a.k.ok a.k.lt c;exact⟨(a.sv.step b (aw _)).wide (aw _) dy,a.k.cons c,a.st.trans b,a.l8.step b,a.ms,a.len,a.z⟩
def Th.step{c:List Int}{h g d:H}{j:List Nat}{e f l:Nat}{k:T}{i:List dO}(a:Th c h j e f g k l i)(b:Step 2 g d)(m:Mk c 0 d 2 1):Th c h j e f d k l i:=
 ⟨(a.sv.step b (aw _)).wide (aw _) b.ok.sz,m,a.st.trans b,a.l8.step b,a.ms,a.len,a.z⟩
def Th.more{e:List Int}{i h:H}{j:List Nat}{f g m d:Nat}{c:T}{b:List dO}(a:Th e i j f g h c d b)(l:g<=m):∃c d b,Th e i j f m h c d b:=⟨c,d,b,a.sv,a.k,a.st,a.l8,a.ms,aT a.len l,a.z⟩
def Qn{X:List fP}(hl:X.length<=4)(b:∀a∈X,SZ a):Nt ⟨vK,X⟩:=by
 refine⟨⟨⟨by simp[vK],dA,λa ht=>⟨by have:=(b a ht).1;omega,by have:=(b a ht).2.1;omega⟩⟩,?_,λa ht=>(b a ht).2.2,7,by simp[vK],by simp[vK,sN]⟩,by simp[vK],by simp[vK],⟨1,0,[113],2,0,[]⟩,by simp[vK],rfl,rfl⟩;have d:∀X:List fP,(∀a∈X,SZ a)->qp X<=X.length*100000:=by
  intro X;induction X with
  |nil=>intro _;simp[qp]
  |cons e X c=>
   intro b;have f:=c λa ht=>b a (by simp[ht]);have g:=(b e dy).2.1;unfold qp at*
   simp only[aP,List.sum_cons,aU];omega
 have:=d X b;unfold qp at this;simp only;omega
def VM{b:H}{a c:T}(i:SL a []\/∃d e h,a= .arr d e 0 h false)(f:o9 a=true)(g:b.jw c=some []):iU cx b 186 186 a c=some (.val a b):=by
 unfold iU pX nc;rw[zU,ed,ed];simp only[show HI.u= .slice 230 from rfl,zQ,g,ed];show(gJ (fits _ []) (jI (gJ (o9 a) (some (a,b)))))=_;rw[f];rfl
def Th.app{o:List Int}{c f:H}{i:List Nat}{h p n m:Nat}{l x:T}{xs:List T}{r l2:List dO}(b:Th o c i h p f l m r)(v:f.jw x=some xs)(s:iM (FT f (Nw (c.size+1) f.size f 2 l) 8) xs (l2.map dO.t))(L:∀j∈l2,MS j/\j.w<=wd 2)(V:l2.length<=n)(U:p+n<=1000):
 ∃e a,iU cx f 186 186 l x=some (.val e a)/\a.get c.size=f.get c.size/\e.iy=true/\e.cells=[e]/\Th o c i h (p+n) (dZ a c.size (dE 4 (m+1) [.agg [.str i,Z 0,.arr h 0 0 2 false,e]])) e (m+1) (r++l2):=by
 have fin:∀e a,SV (c.size+1) a.size a 2 6 e (r++l2)->Mk o 0 a 2 1->Step 2 c a->Lb 2 a c.size (dE 4 m [.agg [.str i,Z 0,.arr h 0 0 2 false,l]])->Th o c i h (p+n) (dZ a c.size (dE 4 (m+1) [.agg [.str i,Z 0,.arr h 0 0 2 false,e]])) e (m+1) (r++l2):=λe a N D O g=>
  ⟨by rw[fK];exact N.qx g (.inl (cX _)) _,D.qx g _,Step.qx D.ok g _ _ O (aw _),⟨(dN g.get _ _).trans (ar rfl),by rw[iT (show(dZ a c.size _).get 2=a.get 2 by rw[dN g.get,aq (aY g.ne)])];exact g.nf⟩,λj I=>(List.mem_append.1 I).elim (b.ms j) (L j),by rw[bj];have:=b.len;omega,b.z⟩
 by_cases B:xs=[]
 ·subst B;have:l2=[]:=by cases l2 with|nil=>rfl|cons=>cases s
  subst this;have⟨S,u,_⟩:=b.sv;refine⟨l,f,?_,rfl,u.iy,u.cells,fin l f (by rw[bQ];exact b.sv) b.k b.st b.l8⟩;rcases u with⟨rfl,rfl⟩|⟨Q,R,_,_,_,rfl,_⟩
  ·exact VM (.inl (Uw _ _)) rfl v
  ·exact VM (.inr ⟨_,_,_,rfl⟩) rfl v
 have E:∀q∈xs,q.cells.length=11:=λq F=>by
  have⟨W,G,K⟩:=s.Iz F;obtain⟨j,_,rfl⟩:=List.mem_map.1 G;exact FT.stmt (d:=8) K
 have⟨e,a,q,y,M,P,C⟩:=b.sv.app b.k (by have:=b.l8.lt;omega) (aw _) v s E B (by have:=b.len;omega);have A:=C c.size (cX _);refine⟨e,a,q,A,y.gc.1,y.gc.2,fin e a y M (P c b.st J) ⟨A.trans b.l8.get,?_⟩⟩;rw[iT (C 2 (by have:=b.z;omega))];exact b.l8.nf
def acj{z:List Int}{F b d:H}{m:List Nat}{e al M G i:Nat}{x L:T}{v:List dO}{n:List (List Nat×T×T)}{l:List fP}(g:Th z F m e 7 b x al v)(W:Lb 2 b 0 Fk)(U:Lb 2 b 4 Dy)
 (o:Lb 2 b e (dE 1 0 [.str [97],.str [98]])) (Y:ny d 3 2 M [(sl (vK.map iA.t),none),(L,some (4,(n++[(m,T.arr e 0 0 2 false,x)]).map YC))]) (f:Step 3 b d) (N:iM (FT b (PgV i b) 10) (n.map YC) (l.map fP.t)) (Q:∀w∈l,SZ w)
 (B:∀a,Fp b 3 a->a=3\/4<a) (A:∀a,Fp b 3 a->¬Fp b 2 a) (ap:l.length=G) (O:∀a,Fp b 3 a->a<i\/a=3) (an:4<i) (av:i<=F.size) (P:4<e/\i<=e):Rd z d (G+1):=by
 have aA:=g.l8.lt;have ae:b.size<=d.size:=f.ok.sz;have V:il 0 d:=⟨f.ok.hp,f.ok.low,ax _⟩;have D:∀a,Fp b 2 a->d.get a=b.get a:=λa c=>f.get a (g.k.fp a c) λq=>A a q c;have p:=D 2 (.inl rfl);have S:∀a,a<=4->a≠3->¬Fp b 3 a:=λa j h q=>(B a q).elim h λq=>by omega
 have K:∀a y,Lb 2 b a y->a<=4->a≠3->Lb 2 d a y:=λa y u j h=>⟨(f.get a u.lt (S a j h)).trans u.get,by rw[iT p];exact u.nf⟩;have s:∀a,4<a->a<b.size->¬Fp b 2 a->¬Fp b 3 a->PgV d.size d a/\d.get a=b.get a:=λa j h E r=>⟨⟨j,J,by rw[iT p];exact E,λq=>(f.fp a q).elim r λq=>by omega⟩,f.get a h r⟩;have C:∀a,Fp b 3 a->a<i\/a=3:=λa c=>O a c;refine⟨g.k.same V ae D,⟨M,L,n++[(m,T.arr e 0 0 2 false,x)],l++[⟨m,0,[[97],[98]],v⟩],Y,?_,dz,λw ht=>?_,λa c=>?_,λa c q=>?_⟩,K 0 _ W J J,K 4 _ U J J⟩
 ·rw[List.map_append,List.map_append];refine iM.append (N.ft λa c=>s a c.1 (by have:=c.2.1;omega) c.2.2.1 c.2.2.2) (.cons ?_ .nil);have I:=s e P.1 o.lt o.nf λq=>(C e q).elim (λq=>by omega) λq=>by omega
  refine .inr (.inr ⟨_,_,rfl,.cons (ko ..) (.cons (gW ..) (.cons (.inr (.inl ⟨e,0,0,2,false,[.str [97],.str [98]],[.str [97],.str [98]],rfl,I.1,?_,.cons (ko ..) (.cons (ko ..) .nil),rfl⟩)) (.cons (g.sv.ft.mono λa c=>s a (by have:=c.1;omega) c.2.1 c.2.2.1 λq=>(C a q).elim (λq=>by have:=c.1;omega) λq=>by have:=c.1;omega) .nil))),rfl⟩);rw[ig,I.2,o.get];simp
 ·rcases List.mem_append.1 ht with q|q
  ·exact Q w q
  ·rw[List.mem_singleton.1 q];refine⟨dy,?_,λX R=>(g.ms X R).1⟩;have j:=xH g.ms;have h:=g.len;have E:v.length*wd 2<=7*wd 2:=aW _ h;have r:wd 2=10000:=rfl;simp only;omega
 ·rcases f.fp a c with q|q
  ·exact B a q
  ·exact .inr J
 ·rw[iT p]at q;rcases f.fp a c with k|k
  ·exact A a k q
  ·have:=g.k.fp a q;omega
def P9:nS prog cx 91 (λK:List Int=>[sl (K.map (T.int .u8))]) okB (λK r=>∃p:fN,r=p.t/\Nt p/\p.dH.length<=100):=by
 refine yL (tb:=⟨pt [(135,Db),(138,JR),(137,M1),(102,j3.jv)],ht [(77,jM Ak uS sa),(136,Wr 11)]⟩) iR iE (iX 2535301804919368649890680801277 [(15,[(1,7),(1,9)])] func91) (λ_=>1000) (λa b e=>by simp at e;exact jx (λ_ _ e=>by simpa using e) e) dy nl9 ?_;rintro K bH c ey;simp at ey;simp[f91,ey,RD];generalize A:(((H.cons (H.cons hE _) _).cons _).cons _:H)=hv;obtain⟨c7,gM,gZ,hq⟩:=SD K A.symm;clear A;refine sK dy c7.tp c7.ok J J bH λbS o hF t2 eN=>?_;obtain⟨a6,eU⟩:=c7.tape eN t2;have gP:=gM.step eU J;have e7:o.size=4:=eN.size.trans hq;have fb:binop .add (Z 2) (Z bS)=some (Z ((2+bS:Nat):Int)):=by rw[iL J J];simp
 simp[fb,e7];have hI:2+bS<=4:=J;generalize c1:2+bS=n at*
 refine fD n J (λj c e=>Rd K e j/\dF c 2 (.ptr 0 0 0 0)/\dF c 3 (.ptr 2 0 0 0)/\dF c 4 (.ptr 3 0 0 0)/\dF c 5 (Z n)/\dF c 6 (.arr 4 0 0 4 false)/\dF c 7 (Z j)) ?_ ?_ J ?_
 ·rintro j c e gd fA ⟨⟨aX,bT,bi,nm⟩,o,C,u,D,F,h⟩;obtain⟨b6,g,left,set,dk,b7,c6,eE,bN,B,aE,hl⟩:=aX.ex;obtain⟨an,P⟩:=aX.set (th':=j) (left':=left) (se':=set) (tx':=dk) (at2:=b7) (lp':=c6) B aE hl;have c9:=nm.step an;have eM:=bi.step an;simp only[sS]at B an P c9 eM;have fE:j<4:=J;obtain⟨al,gm⟩:∃s,YT[j]? =some s:=⟨YT[j]'(by show j<4;omega),az (by show j<4;omega)⟩;simp[C,D,F,h,gd,B,dX];generalize dZ e 2 _=i at*
  have ef:=c9.get;unfold Dy at ef;have fY:i.low<=i.size+1:=Nat.le_succ_of_le P.ok.low;simp[h,ef,gm,fE,fY];have hJ:=P.lt;have dd:=Step.cons P.ok P.lt (dE 1 0 [.str [97],.str [98]]);have a7:=P.cons (dE 1 0 [.str [97],.str [98]]);have gw:=Lb.new P.lt P.fp (dE 1 0 [.str [97],.str [98]]);have bn:=an.trans dd;have Q:Th K (i.cons (dE 1 0 [.str [97],.str [98]])) al i.size 0 ((i.cons (dE 1 0 [.str [97],.str [98]])).cons (dE 4 1 [.agg [.str al,Z 0,.arr i.size 0 0 2 false,dD]])) dD 1 []:=
   ⟨SV.nil _ _ _ _ _,a7.cons _,Step.cons a7.ok a7.lt _,by simpa using Lb.new a7.lt a7.fp (dE 4 1 [.agg [.str al,Z 0,.arr i.size 0 0 2 false,dD]]),dy,dy,dz⟩
  have fC:i.size+1=(i.cons (dE 1 0 [.str [97],.str [98]])).size:=rfl;simp only[fC];generalize hC:i.cons (dE 1 0 [.str [97],.str [98]])=G at*
  refine ll (λc U=>∃v b6 l,Th K G al i.size 3 U v b6 l/\dF c 2 (.ptr 0 0 0 0)/\dF c 3 (.ptr 2 0 0 0)/\dF c 4 (.ptr 3 0 0 0)/\dF c 5 (Z n)/\dF c 6 (.arr 4 0 0 4 false)/\dF c 7 (Z j)/\dF c 8 (.ptr G.size 0 0 0)) (λA=>?_) (λA=>?_) ?_
  ·simp;refine Ce n (λk c U=>1<=k/\(∃v b6 l,Th K G al i.size (k-1) U v b6 l/\dF c 2 (.ptr 0 0 0 0)/\dF c 3 (.ptr 2 0 0 0)/\dF c 4 (.ptr 3 0 0 0)/\dF c 5 (Z n)/\dF c 6 (.arr 4 0 0 4 false)/\dF c 7 (Z j)/\dF c 8 (.ptr G.size 0 0 0))/\dF c 9 (Z k)) ?_ J (k:=1) J ⟨aw _,⟨_,_,_,Q,by simp[o,C,u,D,F,h]⟩,dy⟩;rintro k c U hD ⟨fL,⟨v,e5,l,g,o,C,u,D,F,h,L⟩,et⟩;have ae:=g.l8.get;have gB:=(nm.step bn).step g.st;have eh:=gB.get;unfold Dy at eh;have hH:decide ((k:Int)<n)=decide (k<n):=by rw[decide_eq_decide];omega
   simp[D,et];refine ej (λA=>?_) (λA=>?_)
   ·have c1:k<n:=by simpa using A
    have fS:k<4:=J;obtain⟨a8,gk⟩:∃s,YT[k]? =some s:=⟨YT[k]'(by show k<4;omega),az (by show k<4;omega)⟩;have bC:=g.cons (dE 11 0 [We 12 a8]);obtain⟨e4,cb,O,gA,ap,av,R⟩:=bC.app (x:= .arr U.size 0 0 1 false) (xs:=[We 12 a8]) (l2:=[MT 12 a8]) (n:=1) (by rw[ig];simp) (.cons (U7 12 a8 6) .nil) (by simp[U6 (k:=12) (nm:=a8) (.inl rfl)]) dy J;have ca:=gA.trans bC.l8.get;have er:(G.size=U.size)=False:=by have:=g.l8.lt;simp;omega
    simp only[We]at O;simp[F,L,et,eh,gk,fS,ae,O,ca,dX,ap,av];have fl:binop .add (Z (k:Int)) (Z 1)=some (Z ((k+1:Nat):Int)):=by rw[iL J J];simp
    simp[o,C,u,D,F,h,L,fl];exact⟨k+1,J,J,J,⟨e4,_,_,by rw[show k+1-1=k-1+1 by omega];exact R⟩,dy⟩
   ·have c1:k=n:=by simp at A;omega
    subst c1;simp[o,C,u,D,F,h,L];exact⟨v,e5,l,g.sv,g.k,g.st,g.l8,g.ms,by have:=g.len;omega,g.z⟩
  ·simp[o,C,u,D,F,h];exact⟨_,_,_,Q.sv,Q.k,Q.st,Q.l8,Q.ms,by have:=Q.len;omega,Q.z⟩
  ·rintro c U ⟨v,e5,l,g,o,C,u,D,F,h,L⟩;have ae:=g.l8.get;obtain⟨hn,th',left,hd,dk,b7,c6,eE,bN,B,aE,hl⟩:=g.k.ex;simp only[sS]at B;simp[C,L,ae,B];clear B aE hl;refine KW dy g.k.tp g.k.ok J J bH λaN cp fL e0 eO=>?_;obtain⟨eH,eV⟩:=g.k.tape eO e0;have bu:=g.step eV eH;have b8:binop .add (Z 1) (Z aN)=some (Z ((1+aN:Nat):Int)):=by rw[iL J J];simp
   have hg:=fG (bu.l8.get.trans ae.symm);simp[b8,hg];refine mF (aeF 11) dy ⟨K,2,1,0,2,1+aN⟩ ⟨⟨dy,eH,bH,dy,dy,dA⟩,dy⟩ ?_;rintro w hE ⟨l2,bs,eB,gj,eI,de⟩;simp only at bs eB gj eI de;have di:=bu.step de eI;obtain⟨hs,eb,ds,gV⟩:=bs;have hO:=bu.l8.lt;obtain⟨e4,cb,O,gA,ap,av,R⟩:=di.app (n:=3) eb.jw (ds.ft λS M=>⟨⟨by have:=M.1;omega,M.2.1,M.2.2.1,bu.sv.box (by have:=M.1;omega)⟩,rfl⟩) eB J J;have bs:=fG (di.l8.get.trans bu.l8.get.symm);have ec:=gA.trans di.l8.get;have eX:=fG gA;clear gA eO eV de e0 ds eb gV;cases eA:decide (j=0)
   case' false=>
    simp[u,h,L,O,ec,eX,bs,dX,ap,av,eA];generalize dZ cb G.size _=V at*
    obtain⟨dm,e6,eF,I⟩:=R.more (m:=7) J
   case' true=>
    simp[C,h,L,O,ec,eX,bs,dX,ap,av,eA];generalize dZ cb G.size _=V at*
    obtain⟨hn,th',left,hd,dk,b7,c6,eE,bN,B,aE,hl⟩:=R.k.ex;simp only[sS]at B;simp[B];clear B aE hl;refine sK dy R.k.tp R.k.ok J J bH λgv cL hG hh hb=>?_;obtain⟨gy,hf⟩:=R.k.tape hb hh;have bB:=R.step hf gy;have fs:=bB.l8.get;have eD:=((nm.step bn).step bB.st).get;unfold Dy at eD;simp;refine ej (λA=> ?gE) (λA=> ?gI)
    case' gI=>
     simp;generalize cL=V at*
     obtain⟨dm,e6,eF,I⟩:=bB.more (m:=7) J
    case' gE=>
     have bC:=bB.cons (dE 11 0 [We 13 [116,49]]);obtain⟨hM,fv,O,gA,ap,av,hj⟩:=bC.app (x:= .arr cL.size 0 0 1 false) (xs:=[We 13 [116,49]]) (l2:=[MT 13 [116,49]]) (n:=1) (by rw[ig];simp) (.cons (U7 13 [116,49] 6) .nil) (by simp[U6 (k:=13) (nm:=[116,49]) (.inr rfl)]) dy J;have ca:=gA.trans bC.l8.get;have er:(G.size=cL.size)=False:=by have:=bB.l8.lt;simp;omega
     have gi:YT[1]? =some [116,49]:=rfl;simp only[We]at O;simp[u,F,L,eD,gi,fs,O,ca,dX,ap,av];generalize dZ fv G.size _=V at*
     obtain⟨dm,e6,eF,I⟩:=hj.more (m:=7) J
   all_goals
    have gQ:=bT.step (bn.trans I.st) (aw _);have ha:=(eM.step dd).step I.st;have gD:=(c9.step dd).step I.st;have ae:=I.l8.get;have e8:=gw.step I.st;obtain⟨ho,dv,E,X,N,aA,eu,c4,b9,ea⟩:=gQ;have Y:=N.get;simp at Y;have er:(G.size=V.size)=False:=by have:=I.l8.lt;simp;omega
    have fo:∀S,Fp V 3 S->S<e.size:=λS M=>by
     obtain⟨_,_,_,_,eR,_,_,_,_,e9⟩:=bT;have fe:V.get 3=e.get 3:=(bn.trans I.st).get 3 eR.lt (e9 3 (.inl rfl));rw[iT fe]at M;exact eR.fp S M
    have hy:(3=V.size)=False:=by have:=N.lt;simp;omega
    have hA:E.length=j:=by have:=aA.length;simp at this;omega
    obtain⟨hN,hB,eT,dn⟩:=(N.gr 1 rfl).mn (cx:=cx) (f:=YC) N.ok TZ rfl TV rfl dy (λx=>rfl) (al,.arr i.size 0 0 2 false,dm) dz;obtain⟨eL,hL,gS⟩:=N.app 1 rfl dn;obtain⟨eW,eS⟩:=gS _ rfl;simp at eL eW eS;simp only[YC]at eT;simp[o,C,u,D,F,h,L,Y,ae,eT,eL,dX,dn.1.iy,dn.1.cells,fA];exact acj I ha gD e8 eS eW aA c4 b9 ea eu (λS M=> .inl (fo S M)) (by have:=nm.lt;omega) (by have:=bn.ok.sz;omega) ⟨by have:=nm.lt;have:=an.ok.sz;omega,an.ok.sz⟩
 ·rintro c e ⟨⟨aX,bT,bi,nm⟩,o,C,u,D,F,h⟩;obtain⟨ho,dv,E,X,N,aA,eu,c4,b9,ea⟩:=bT;have Y:=N.get;simp at Y;have W:=bi.get;unfold Fk at W;have cp:=Qn (X:=X) J c4;have ff:=(N.gr 1 rfl).KF (d:=10) J aA;have b8:=λ{tb:fJ} (ht:tb.p 102=some j3.jv)=>c04 ht ⟨vK,X⟩ cp.1;simp[u,D,h,Y,ff,b8];have gz:(0=e.size)=False:=by have:=bi.lt;simp;omega
  have eo:∀y,(dZ e 0 y).get 0=some y:=λy=>(dN W y 0).trans (ar rfl);refine ej (λA=>?_) (λA=>?_)
  ·have aN:(e.size=e.size+1+1)=False:=by simp<;>omega
   have gv:(e.size+1=e.size+1+1)=False:=dy;have hK:(e.size=e.size+1)=False:=dy;simp[o,W,RD,Ue,sU,gz,eo,dX,bi.lt,ig,yx,dS,aN];have gg:∀t∈ [(⟨[109,97,105,110],0,[[97],[98]],[EL [120] [] ⟨1,1,[],[]⟩]⟩:fP)],SZ t:=λt ht=>by
    rw[List.mem_singleton.1 ht];have gn:(EL [120] [] ⟨1,1,[],[]⟩).w<=wd 0:=Mt (by rw[dU.iW];omega) (by rw[dU.lF];simp[dU.iW]);refine⟨dy,?_,λs bN=>?_⟩
    ·simp only[dO.ke,dO.iW];unfold wd at gn;omega
    ·rw[List.mem_singleton.1 bN];exact Ez dy (.num 1) (λq=>absurd rfl q)
   exact⟨⟨⟨vK,[⟨[109,97,105,110],0,[[97],[98]],[EL [120] [] ⟨1,1,[],[]⟩]⟩]⟩,rfl,Qn dy gg,dy⟩,aX.ok.hp⟩
  ·have l3:Lb 3 e 0 (dE 2 0 [.agg [dD,dD]]):=⟨W,λq=>(b9 0 q).elim J J⟩;have fi:=((N.qx l3 (dE 2 1 [.agg [sl (vK.map iA.t),dv]])).gr 1 rfl).KF (d:=10) J (aA.ft (V':=λ_=>True) λb fB=>⟨trivial,by rw[dN W,aq (by have:=fB.1;omega)]⟩);simp[o,u,Y,W,dX,eo,fi];exact⟨⟨⟨vK,X⟩,rfl,cp,dA⟩,aX.ok.hp⟩
 ·have eP:=Step.cons a6.ok a6.lt Dy;have eC:=Lb.new a6.lt a6.fp Dy;rw[e7]at eC;simp;exact⟨⟨a6.cons _,(gP.step eP J).wide dz,(gZ.step eU).step eP,eC⟩,J⟩
end
def FG:nS prog cx 42 (λa:List Int=>[sl (a.map (T.int .u8))]) (λa=>okB a/\a.length<=1000000) (λa w=>∃c:List fX,w=sl (c.map fX.t)/\c.length=a.length):=by
 refine jh [] (iX 285 [] func42) (λa=>a.length+5) (λx y b=>by simp at b;exact jx (λ_ _ b=>by simpa using b) b) ?_;rintro a ⟨⟨_,u⟩,A⟩ e o;simp at o;simp[f42];refine fD a.length J (λd e b=>∃g,∃c:List fX,Gr b g 2 (c.map fX.t)/\il 0 b/\c.length=d/\dF e 0 (sl (a.map (T.int .u8)))/\dF e 3 g/\dF e 4 (Z d)) ?_ ?_ J ⟨dD,[],Gr.nil _ _,by exact⟨dy,dy,dy⟩,rfl,by simp[o]⟩
 ·rintro d e b p v ⟨g,c,h,l,n,i,j,k⟩;have B:=u a[d] (aF p);have q: -9223372036854775808<=a[d]:=J;have r:a[d]<9223372036854775808:=J;have⟨C,z,s,m⟩:=h.mn (cx:=cx) (f:=fX.t) l KQ rfl KP rfl dy (λ_=>rfl) (⟨a[d].tmod 4,IntKind.i64.wrap ((IntKind.i64.wrap (a[d].tdiv 4)).tmod 5-1)⟩:fX) dz;simp[i,j,k,p,s,v,q,r,CZ (show¬(4:Int)=0 by omega),aaS (show¬(4:Int)=0 by omega),CZ (show¬(5:Int)=0 by omega),qS];exact⟨_,_,m.1,⟨m.2.2.2.hp,m.2.2.2.low,ax _⟩,dz,rfl⟩
 ·rintro e b ⟨g,c,h,l,n,i,j,k⟩;simp[i,j,k];exact⟨_,⟨c,rfl,n⟩,l.hp,by rw[Q2 g h.iy,h.rS dy]⟩
