/- W01f -/
import Derived.Test.YtbappgeamhmmbaaGreatDoorA27
import Derived.Test.YtbappgeamhmmbaaGreatDoorA20
set_option linter.all false
set_option maxRecDepth 100000
set_option maxHeartbeats 0
namespace Go.Proofs.YtbappgeamhmmbaaGreatDoor
noncomputable section
open Go Go.TI Tryz
attribute [-simp] List.map_take List.map_drop List.map_append fj ez TI.d8 Bool.not_or Bool.not_and
attribute [simp] fh eG
section
attribute [-simp] size_cons
def Xu(a:List Nat×T×T):T:= .agg [.str a.1,D 0,a.2.1,a.2.2]
def QN(a:fJ):Prop:=a.locals.length<=10/\dH.ws a.body<=100000/\∀b∈a.body,MS b
def PgV(c:Nat)(b:H)(a:Nat):Prop:=4<a/\a<c/\¬Fp b 2 a/\¬Fp b 3 a
def Pg(e:Nat)(b:H)(f:Nat):Prop:=∃h a,∃d:List (List Nat×T×T),∃c:List fJ,m9 b 3 2 h [(sl (uB.map gU.t),none),(a,some (4,d.map Xu))]/\
 ir (FT b (PgV e b) 10) (d.map Xu) (c.map fJ.t)/\c.length=f/\(∀g∈c,QN g)/\(∀a,Fp b 3 a->a=3\/4<a)/\∀a,Fp b 3 a->¬Fp b 2 a
def Pg.step{f j:Nat}{b e:H}(r:Pg f b j)(c:Step 2 b e)(x:f<=b.size):Pg f e j:=by
 obtain⟨w,d,m,n,l,o,s,t,u,k⟩:=r;have⟨v,p⟩:=l.other k c;have h:e.get 3=b.get 3:=c.get 3 l.lt (k 3 (.inl rfl));refine⟨w,d,m,n,v,o.ft λg a=>⟨⟨a.1,a.2.1,λq=>?_,by rw[iL h];exact a.2.2.2⟩,c.get g (by have:=a.2.1;omega) a.2.2.1⟩,s,t,λd i=>by rw[iL h]at i;exact u d i,p⟩;rcases c.fp g q with q|q
 ·exact a.2.2.1 q
 ·have:=a.2.1;omega
def Pg.wide{c d e:Nat}{b:H}(j:Pg c b e)(o:c<=d):Pg d b e:=by
 obtain⟨m,i,f,g,l,h,k⟩:=j;exact⟨m,i,f,g,l,h.ft λn a=>⟨⟨a.1,by have:=a.2.1;omega,a.2.2⟩,rfl⟩,k⟩
def XX:List (List Nat):=[[109,97,105,110],[116,49],[116,50],[116,51]]
def B5:iI:=⟨1,0,0,true,false,XX.map T.str⟩
def DE:iI:=(Z 2 0 [.agg [dw,dw]])
structure RdM(L:List Int)(h:H)(i:Nat):Prop where
 k:Mk L 0 h 2 1
 pg:Pg h.size h i
 re:Lb 2 h 0 DE
 nm:Lb 2 h 4 B5
def Qw(i:List Int){c:H}(d:c=((((hE.cons DE).cons (Z 2 0 [.agg [sl (i.map (T.int .u8)),D 0]])).cons (Z 8 0 [.agg (rC 1 0 20 false false false false dw)])).cons (Z 2 1 [.agg [sl (uB.map gU.t),dw]]))):
 Mk i 0 c 2 1/\Pg 4 c 0/\Lb 2 c 0 DE/\c.size=4:=by
 have m:gH 0 c:=by subst d;exact⟨J,J,J⟩
 have k:c.get 2=some (Z 8 0 [.agg (rC 1 0 20 false false false false dw)]):=by subst d;simp
 have f:∀a,Fp c 2 a->a=2\/a=1:=by
  rintro a (rfl|⟨p,g,o,l,b⟩)
  ·exact .inl rfl
  ·rw[k]at g;simp only[ar]at g;subst g;simp[eY,T.cells,rC]at l;rcases l with rfl|rfl|rfl|rfl|rfl|rfl|rfl|rfl<;>first|(have b:(none:aa Nat)=some a:=b;simp at b;done)|(have b:some 1=some a:=b;simp at b;exact .inr b.symm)
 have⟨n,j⟩:=m9.start (h:=c) (w:=3) (szw:=2) (ver:=1) (F:=[(sl (uB.map gU.t),none),(dw,some (4,[]))]) m (by subst d;simp) J;refine⟨⟨m,λa e=>?_,⟨0,0,by subst d;simp,Int.le_refl _⟩,0,0,20,false,false,false,false,dw,[],k,Gr.nil _ _,rfl⟩,⟨1,dw,[],[],n,.nil,rfl,J,λa e=> .inl (j a e),λa e b=>?_⟩,⟨by subst d;simp[DE],λb=>?_⟩,by subst d;simp⟩
 ·have:=f a e;subst d;simp;omega
 ·have:=f a b;have:=j a e;omega
 ·have:=f 0 b;omega
def KV(a:Int)(b:List Nat):dH:=⟨a,0,b,[],[],⟨0,0,[],[]⟩,[],[]⟩
def UQ(a:Int)(b:List Nat):T:= .agg [D a,D 0,.str b,.str [],dw,D 0,D 0,.str [],dw,dw,dw]
def TG{e:H}{c:Nat->Prop}(a:Int)(b:List Nat)(d:Nat):FT e c (d+2) (UQ a b) (KV a b).t:=
 .inr (.inr ⟨_,(KV a b).cs,rfl,.cons (fZ ..) (.cons (fZ ..) (.cons (jU ..) (.cons (jU ..) (.cons (jb ..) (.cons (fZ ..) (.cons (fZ ..) (.cons (jU ..) (.cons (jb ..) (.cons (jb ..) (.cons (jb ..) .nil)))))))))),dH.mS _⟩)
def TF{k:Int}{nm:List Nat}(d:k=12\/k=13):MS (KV k nm)/\(KV k nm).w<=wd 2:=by
 refine⟨.mk (λa=>by unfold KV at a;simp at a;omega) (λa=>by unfold KV at a;simp at a;omega) (λc b=>by unfold KV at b;simp at b) (λa=>by unfold KV at a;simp at a;omega) (λc b=>by unfold KV at b;simp at b) (λc b=>by unfold KV at b;simp at b),?_⟩;rw[dH.kQ,dL.kQ];unfold KV wd;simp only[dH.qV,dH.I3,dH.un,dH.xy,dH.iJ,dL.iJ,dL.EP];omega
def FT.stmt{i:H}{g:Nat->Prop}{d:Nat}{c:T}{f:dH}(b:FT i g d c f.t):c.cells.length=11:=by
 cases d with
 |zero=>exact b.elim
 |succ d=>
  rw[f.mS]at b;rcases b with⟨j,k,a⟩|⟨_,_,_,_,_,_,h,_,_,_,_,a⟩|⟨e,n,rfl,l,a⟩
  ·cases c<;>first|exact absurd rfl (k _)|(rw[mP]at a;rename_i m b;cases m<;>simp[sl]at a;done)|(simp at a;done)|(simp[jJ]at j;done)
  ·cases h<;>simp[sl]at a
  ·simp only[T.agg.injEq]at a;subst a;rw[show(T.agg e).cells=e from rfl,l.length];rfl
structure Th(L:List Int)(hC:H)(nm:List Nat)(bl cnt:Nat)(h:H)(v:T)(ver:Nat)(l:List dH):Prop where
 sv:SV (hC.size+1) h.size h 2 6 v l
 k:Mk L 0 h 2 1
 st:Step 2 hC h
 l8:Lb 2 h hC.size (Z 4 ver [.agg [.str nm,D 0,.arr bl 0 0 2 false,v]])
 ms:∀s∈l,MS s/\s.w<=wd 2
 len:l.length<=cnt
 z:2<hC.size
theorem Th.cons{d:List Int}{h g:H}{j:List Nat}{e f m:Nat}{l:T}{i:List dH}(a:Th d h j e f g l m i)(c:iI):Th d h j e f (g.cons c) l m i:=by
 have b:=Step.cons a.k.ok a.k.lt c;exact⟨(a.sv.step b (au _)).wide (au _) J,a.k.cons c,a.st.trans b,a.l8.step b,a.ms,a.len,a.z⟩
def Th.step{c:List Int}{h g d:H}{j:List Nat}{e f l:Nat}{k:T}{i:List dH}(a:Th c h j e f g k l i)(b:Step 2 g d)(m:Mk c 0 d 2 1):Th c h j e f d k l i:=
 ⟨(a.sv.step b (au _)).wide (au _) b.ok.sz,m,a.st.trans b,a.l8.step b,a.ms,a.len,a.z⟩
def Th.more{e:List Int}{i h:H}{j:List Nat}{f g m d:Nat}{c:T}{b:List dH}(a:Th e i j f g h c d b)(l:g<=m):∃c d b,Th e i j f m h c d b:=⟨c,d,b,a.sv,a.k,a.st,a.l8,a.ms,aO a.len l,a.z⟩
def N4{X:List fJ}(hl:X.length<=4)(b:∀a∈X,QN a):N5 ⟨uB,X⟩:=by
 refine⟨⟨⟨by simp[uB],dq,λa ht=>⟨by have:=(b a ht).1;omega,by have:=(b a ht).2.1;omega⟩⟩,?_,λa ht=>(b a ht).2.2,7,by simp[uB],by simp[uB,rm]⟩,by simp[uB],by simp[uB],⟨1,0,[113],2,0,[]⟩,by simp[uB],rfl,rfl⟩;have d:∀X:List fJ,(∀a∈X,QN a)->ph X<=X.length*100000:=by
  intro X;induction X with
  |nil=>intro _;simp[ph]
  |cons e X c=>
   intro b;have f:=c λa ht=>b a (by simp[ht]);have g:=(b e J).2.1;unfold ph at*
   simp only[aP,List.sum_cons,aY];omega
 have:=d X b;unfold ph at this;simp only;omega
def Ur{b:H}{a c:T}(i:SL a []\/∃d e h,a= .arr d e 0 h false)(f:oa a=true)(g:b.jf c=some []):iN cx b 196 196 a c=some (.val a b):=by
 unfold iN pS m7;rw[yK,dS,dS];simp only[show FJ.u= .slice 237 from rfl,yI,g,dS];show(fQ (fits _ []) (jl (fQ (oa a) (some (a,b)))))=_;rw[f];rfl
def Th.app{o:List Int}{c f:H}{i:List Nat}{h p n m:Nat}{l x:T}{xs:List T}{r l2:List dH}(b:Th o c i h p f l m r)(v:f.jf x=some xs)(s:ir (FT f (Nw (c.size+1) f.size f 2 l) 8) xs (l2.map dH.t))(N:∀j∈l2,MS j/\j.w<=wd 2)(X:l2.length<=n)(W:p+n<=1000):
 ∃e a,iN cx f 196 196 l x=some (.val e a)/\a.get c.size=f.get c.size/\e.fg=true/\e.cells=[e]/\Th o c i h (p+n) (dT a c.size (Z 4 (m+1) [.agg [.str i,D 0,.arr h 0 0 2 false,e]])) e (m+1) (r++l2):=by
 have fin:∀e a,SV (c.size+1) a.size a 2 6 e (r++l2)->Mk o 0 a 2 1->Step 2 c a->Lb 2 a c.size (Z 4 m [.agg [.str i,D 0,.arr h 0 0 2 false,l]])->Th o c i h (p+n) (dT a c.size (Z 4 (m+1) [.agg [.str i,D 0,.arr h 0 0 2 false,e]])) e (m+1) (r++l2):=λe a P F Q g=>
  ⟨by rw[fI];exact P.ry g (.inl (cU _)) _,F.ry g _,Step.ry F.ok g _ _ Q (au _),⟨(dF g.get _ _).trans (aq rfl),by rw[iL (show(dT a c.size _).get 2=a.get 2 by rw[dF g.get,ao (aW g.ne)])];exact g.nf⟩,λj L=>(List.mem_append.1 L).elim (b.ms j) (N j),by rw[bh];have:=b.len;omega,b.z⟩
 by_cases C:xs=[]
 ·subst C;have:l2=[]:=by cases l2 with|nil=>rfl|cons=>cases s
  subst this;have⟨V,u,_⟩:=b.sv;refine⟨l,f,?_,rfl,u.fg,u.cells,fin l f (by rw[cj];exact b.sv) b.k b.st b.l8⟩;rcases u with⟨rfl,rfl⟩|⟨S,U,_,_,_,rfl,_⟩
  ·exact Ur (.inl (R5 _ _)) rfl v
  ·exact Ur (.inr ⟨_,_,_,rfl⟩) rfl v
 have G:∀q∈xs,q.cells.length=11:=λq I=>by
  have⟨Y,K,M⟩:=s.GE I;obtain⟨j,_,rfl⟩:=List.mem_map.1 K;exact FT.stmt (d:=8) M
 have⟨e,a,q,y,O,R,E⟩:=b.sv.app b.k (by have:=b.l8.lt;omega) (au _) v s G C (by have:=b.len;omega);have A:=E c.size (cU _);refine⟨e,a,q,A,y.gc.1,y.gc.2,fin e a y O (R c b.st B) ⟨A.trans b.l8.get,?_⟩⟩;rw[iL (E 2 (by have:=b.z;omega))];exact b.l8.nf
def abD{y:List Int}{G b d:H}{m:List Nat}{e an N I i:Nat}{w M:T}{l9:List dH}{n:List (List Nat×T×T)}{l:List fJ}(g:Th y G m e 7 b w an l9)(X:Lb 2 b 0 DE)(V:Lb 2 b 4 B5)
 (o:Lb 2 b e (Z 1 0 [.str [97],.str [98]])) (ae:m9 d 3 2 N [(sl (uB.map gU.t),none),(M,some (4,(n++[(m,T.arr e 0 0 2 false,w)]).map Xu))]) (f:Step 3 b d) (O:ir (FT b (PgV i b) 10) (n.map Xu) (l.map fJ.t)) (R:∀v∈l,QN v)
 (A:∀a,Fp b 3 a->a=3\/4<a) (z:∀a,Fp b 3 a->¬Fp b 2 a) (av:l.length=I) (P:∀a,Fp b 3 a->a<i\/a=3) (ap:4<i) (aA:i<=G.size) (Q:4<e/\i<=e):RdM y d (I+1):=by
 have aE:=g.l8.lt;have al:b.size<=d.size:=f.ok.sz;have W:gH 0 d:=⟨f.ok.hp,f.ok.low,aw _⟩;have E:∀a,Fp b 2 a->d.get a=b.get a:=λa c=>f.get a (g.k.fp a c) λq=>z a q c;have p:=E 2 (.inl rfl);have U:∀a,a<=4->a≠3->¬Fp b 3 a:=λa j h q=>(A a q).elim h λq=>by omega
 have L:∀a x,Lb 2 b a x->a<=4->a≠3->Lb 2 d a x:=λa x u j h=>⟨(f.get a u.lt (U a j h)).trans u.get,by rw[iL p];exact u.nf⟩;have s:∀a,4<a->a<b.size->¬Fp b 2 a->¬Fp b 3 a->PgV d.size d a/\d.get a=b.get a:=λa j h F r=>⟨⟨j,B,by rw[iL p];exact F,λq=>(f.fp a q).elim r λq=>by omega⟩,f.get a h r⟩;have C:∀a,Fp b 3 a->a<i\/a=3:=λa c=>P a c;refine⟨g.k.same W al E,⟨N,M,n++[(m,T.arr e 0 0 2 false,w)],l++[⟨m,0,[[97],[98]],l9⟩],ae,?_,dp,λv ht=>?_,λa c=>?_,λa c q=>?_⟩,L 0 _ X B B,L 4 _ V B B⟩
 ·rw[List.map_append,List.map_append];refine ir.append (O.ft λa c=>s a c.1 (by have:=c.2.1;omega) c.2.2.1 c.2.2.2) (.cons ?_ .nil);have K:=s e Q.1 o.lt o.nf λq=>(C e q).elim (λq=>by omega) λq=>by omega
  refine .inr (.inr ⟨_,_,rfl,.cons (jU ..) (.cons (fZ ..) (.cons (.inr (.inl ⟨e,0,0,2,false,[.str [97],.str [98]],[.str [97],.str [98]],rfl,K.1,?_,.cons (jU ..) (.cons (jU ..) .nil),rfl⟩)) (.cons (g.sv.ft.mono λa c=>s a (by have:=c.1;omega) c.2.1 c.2.2.1 λq=>(C a q).elim (λq=>by have:=c.1;omega) λq=>by have:=c.1;omega) .nil))),rfl⟩);rw[gh,K.2,o.get];simp
 ·rcases List.mem_append.1 ht with q|q
  ·exact R v q
  ·rw[List.mem_singleton.1 q];refine⟨J,?_,λY S=>(g.ms Y S).1⟩;have j:=xM g.ms;have h:=g.len;have F:l9.length*wd 2<=7*wd 2:=aV _ h;have r:wd 2=10000:=rfl;simp only;omega
 ·rcases f.fp a c with q|q
  ·exact A a q
  ·exact .inr B
 ·rw[iL p]at q;rcases f.fp a c with k|k
  ·exact z a k q
  ·have:=g.k.fp a q;omega
def NQ:mW prog cx 78 (λO:List Int=>[sl (O.map (T.int .u8))]) okB (λO r=>∃di:fx,r=di.t/\N5 di/\di.dC.length<=100):=by
 refine xN (tb:=⟨pt [(130,BO),(133,Ia),(132,K3),(104,jK.ji)],ht [(64,jr yX tW qM),(131,U2 11)]⟩) iB gW (iP 2535301804919368649890680801277 [(15,[(1,7),(1,9)])] func78) (λ_=>1000) (λa b u=>by simp at u;exact jt (λ_ _ u=>by simpa using u) u) J nl9 ?_;rintro O bT c eA;simp at eA;simp[f78,eA,Pu];generalize I:(((H.cons (H.cons hE _) _).cons _).cons _:H)=hy;obtain⟨dd,gP,hb,hs⟩:=Qw O I.symm;clear I;refine rh J dd.tp dd.ok B B bT λb7 e hF t2 eO=>?_;obtain⟨bn,eV⟩:=dd.tape eO t2;have gQ:=gP.step eV B;have e6:e.size=4:=eO.size.trans hs;have e9:binop .add (D 2) (D b7)=some (D ((2+b7:Nat):Int)):=by rw[ij B B];simp
 simp[e9,e6];have hH:2+b7<=4:=B;generalize c6:2+b7=n at*
 refine fc n B (λG c u=>RdM O u G/\dy c 2 (.ptr 0 0 0 0)/\dy c 3 (.ptr 2 0 0 0)/\dy c 4 (.ptr 3 0 0 0)/\dy c 5 (D n)/\dy c 6 (.arr 4 0 0 4 false)/\dy c 7 (D G)) ?_ ?_ B ?_
 ·rintro G c u gg fA ⟨⟨av,b8,bz,nm⟩,e,g,h,i,j,o⟩;obtain⟨b9,A,left,set,ds,ca,c9,eF,b6,L,bi,hl⟩:=av.ex;obtain⟨aE,R⟩:=av.set (th':=G) (left':=left) (se':=set) (tx':=ds) (at2:=ca) (lp':=c9) L bi hl;have de:=nm.step aE;have eN:=bz.step aE;simp only[rC]at L aE R de eN;have fE:G<4:=B;obtain⟨aA,gn⟩:∃s,XX[G]? =some s:=⟨XX[G]'(by show G<4;omega),ay (by show G<4;omega)⟩;simp[e,g,h,i,j,o,gg,L,dN];generalize dT u 2 _=F at*
  have er:=de.get;unfold B5 at er;have gd:F.low<=F.size+1:=Nat.le_succ_of_le R.ok.low;simp[e,g,h,i,j,o,er,gn,fE,gd];have hI:=R.lt;have dk:=Step.cons R.ok R.lt (Z 1 0 [.str [97],.str [98]]);have bs:=R.cons (Z 1 0 [.str [97],.str [98]]);have gw:=Lb.new R.lt R.fp (Z 1 0 [.str [97],.str [98]]);have bB:=aE.trans dk;have S:Th O (F.cons (Z 1 0 [.str [97],.str [98]])) aA F.size 0 ((F.cons (Z 1 0 [.str [97],.str [98]])).cons (Z 4 1 [.agg [.str aA,D 0,.arr F.size 0 0 2 false,dw]])) dw 1 []:=
   ⟨SV.nil _ _ _ _ _,bs.cons _,Step.cons bs.ok bs.lt _,by simpa using Lb.new bs.lt bs.fp (Z 4 1 [.agg [.str aA,D 0,.arr F.size 0 0 2 false,dw]]),J,J,dp⟩
  have fC:F.size+1=(F.cons (Z 1 0 [.str [97],.str [98]])).size:=rfl;simp only[fC];generalize hC:F.cons (Z 1 0 [.str [97],.str [98]])=M at*
  refine lf (λc W=>∃v b9 l,Th O M aA F.size 3 W v b9 l/\dy c 2 (.ptr 0 0 0 0)/\dy c 3 (.ptr 2 0 0 0)/\dy c 4 (.ptr 3 0 0 0)/\dy c 5 (D n)/\dy c 6 (.arr 4 0 0 4 false)/\dy c 7 (D G)/\dy c 8 (.ptr M.size 0 0 0)) (λI=>?_) (λI=>?_) ?_
  ·simp[e,g,h,i,j,o];refine yU n (λk c W=>1<=k/\(∃v b9 l,Th O M aA F.size (k-1) W v b9 l/\dy c 2 (.ptr 0 0 0 0)/\dy c 3 (.ptr 2 0 0 0)/\dy c 4 (.ptr 3 0 0 0)/\dy c 5 (D n)/\dy c 6 (.arr 4 0 0 4 false)/\dy c 7 (D G)/\dy c 8 (.ptr M.size 0 0 0))/\dy c 9 (D k)) ?_ B (k:=1) B ⟨au _,⟨_,_,_,S,by simp[e,g,h,i,j,o]⟩,J⟩;rintro k c W hD ⟨fL,⟨v,e4,l,A,e,g,h,i,j,o,C⟩,bS⟩;have ap:=A.l8.get;have gB:=(nm.step bB).step A.st;have et:=gB.get;unfold B5 at et;have fY:decide ((k:Int)<n)=decide (k<n):=by rw[decide_eq_decide];omega
   simp[e,g,h,i,j,o,C,bS,fY];refine dV (λI=>?_) (λI=>?_)
   ·have c6:k<n:=by simpa using I
    have fS:k<4:=B;obtain⟨bu,gm⟩:∃s,XX[k]? =some s:=⟨XX[k]'(by show k<4;omega),ay (by show k<4;omega)⟩;have bN:=A.cons (Z 11 0 [UQ 12 bu]);obtain⟨e3,cL,Q,gA,aX,a7,U⟩:=bN.app (x:= .arr W.size 0 0 1 false) (xs:=[UQ 12 bu]) (l2:=[KV 12 bu]) (n:=1) (by rw[gh];simp) (.cons (TG 12 bu 6) .nil) (by simp[TF (k:=12) (nm:=bu) (.inl rfl)]) J B;have cp:=gA.trans bN.l8.get;have bk:(M.size=W.size)=False:=by have:=A.l8.lt;simp;omega
    simp only[UQ]at Q;simp[e,g,h,i,j,o,C,bS,et,gm,fS,ap,bk,A.k.ok.low,Q,cp,eQ gA,dN,aX,a7];have fl:binop .add (D (k:Int)) (D 1)=some (D ((k+1:Nat):Int)):=by rw[ij B B];simp
    simp[e,g,h,i,j,o,C,bS,fl];exact⟨k+1,B,B,B,⟨e3,_,_,by rw[show k+1-1=k-1+1 by omega];exact U⟩,J⟩
   ·have c6:k=n:=by simp at I;omega
    subst c6;simp[e,g,h,i,j,o,C,bS];exact⟨v,e4,l,A.sv,A.k,A.st,A.l8,A.ms,by have:=A.len;omega,A.z⟩
  ·simp[e,g,h,i,j,o];exact⟨_,_,_,S.sv,S.k,S.st,S.l8,S.ms,by have:=S.len;omega,S.z⟩
  ·rintro c W ⟨v,e4,l,A,e,g,h,i,j,o,C⟩;have ap:=A.l8.get;obtain⟨ho,th',left,hf,ds,ca,c9,eF,b6,L,bi,hl⟩:=A.k.ex;simp only[rC]at L;simp[e,g,h,i,j,o,C,ap,L];clear L bi hl;refine Jc J A.k.tp A.k.ok B B bT λbl c1 fL e2 eP=>?_;obtain⟨eI,eW⟩:=A.k.tape eP e2;have bH:=A.step eW eI;have cb:binop .add (D 1) (D bl)=some (D ((1+bl:Nat):Int)):=by rw[ij B B];simp
   have hh:=eQ (bH.l8.get.trans ap.symm);simp[e,g,h,i,j,o,C,cb,hh];refine lO (aeY 11) J ⟨O,2,1,0,2,1+bl⟩ ⟨⟨J,eI,bT,J,J,dq⟩,J⟩ ?_;rintro hL hE ⟨l2,bC,eC,gk,eL,dm⟩;simp only at bC eC gk eL dm;have dn:=bH.step dm eL;obtain⟨hv,eh,eb,ha⟩:=bC;have hM:=bH.l8.lt;obtain⟨e3,cL,Q,gA,aX,a7,U⟩:=dn.app (n:=3) eh.jf (eb.ft λV P=>⟨⟨by have:=P.1;omega,P.2.1,P.2.2.1,bH.sv.box (by have:=P.1;omega)⟩,rfl⟩) eC B B;have bC:=eQ (dn.l8.get.trans bH.l8.get.symm);have eo:=gA.trans dn.l8.get;have e0:=eQ gA;clear gA eP eW dm e2 eb eh ha;cases eB:decide (G=0)
   case' false=>
    simp[e,g,h,i,j,o,C,Q,eo,e0,bC,dN,aX,a7,eB];generalize dT cL M.size _=ae at*
    obtain⟨dv,e5,l9,N⟩:=U.more (m:=7) B
   case' true=>
    simp[e,g,h,i,j,o,C,Q,eo,e0,bC,dN,aX,a7,eB];generalize dT cL M.size _=ae at*
    obtain⟨ho,th',left,hf,ds,ca,c9,eF,b6,L,bi,hl⟩:=U.k.ex;simp only[rC]at L;simp[e,g,h,i,j,o,C,L];clear L bi hl;refine rh J U.k.tp U.k.ok B B bT λeH c4 hG hj hd=>?_;obtain⟨gy,hg⟩:=U.k.tape hd hj;have aN:=U.step hg gy;have fo:=aN.l8.get;have eE:=((nm.step bB).step aN.st).get;unfold B5 at eE;simp[e,g,h,i,j,o,C];refine dV (λI=> ?gI) (λI=> ?gM)
    case' gM=>
     simp;generalize c4=ae at*
     obtain⟨dv,e5,l9,N⟩:=aN.more (m:=7) B
    case' gI=>
     have bN:=aN.cons (Z 11 0 [UQ 13 [116,49]]);obtain⟨hJ,fv,Q,gA,aX,a7,hn⟩:=bN.app (x:= .arr c4.size 0 0 1 false) (xs:=[UQ 13 [116,49]]) (l2:=[KV 13 [116,49]]) (n:=1) (by rw[gh];simp) (.cons (TG 13 [116,49] 6) .nil) (by simp[TF (k:=13) (nm:=[116,49]) (.inr rfl)]) J B;have cp:=gA.trans bN.l8.get;have bk:(M.size=c4.size)=False:=by have:=aN.l8.lt;simp;omega
     have gj:XX[1]? =some [116,49]:=rfl;simp only[UQ]at Q;simp[e,g,h,i,j,o,C,eE,gj,fo,bk,aN.k.ok.low,Q,cp,eQ gA,dN,aX,a7];generalize dT fv M.size _=ae at*
     obtain⟨dv,e5,l9,N⟩:=hn.more (m:=7) B
   all_goals
    have gS:=b8.step (bB.trans N.st) (au _);have hc:=(eN.step dk).step N.st;have gE:=(de.step dk).step N.st;have ap:=N.l8.get;have e7:=gw.step N.st;obtain⟨hq,ec,E,X,K,a8,ey,c7,ce,ef⟩:=gS;have an:=K.get;simp at an;have bk:(M.size=ae.size)=False:=by have:=N.l8.lt;simp;omega
    have fm:∀V,Fp ae 3 V->V<u.size:=λV P=>by
     obtain⟨_,_,_,_,eS,_,_,_,_,e8⟩:=b8;have fb:ae.get 3=u.get 3:=(bB.trans N.st).get 3 eS.lt (e8 3 (.inl rfl));rw[iL fb]at P;exact eS.fp V P
    have fs:(3=ae.size)=False:=by have:=K.lt;simp;omega
    have hA:E.length=G:=by have:=a8.length;simp at this;omega
    obtain⟨hK,hB,eT,ea⟩:=(K.gr 1 rfl).mQ (cx:=cx) (f:=Xu) K.ok Rz rfl Rw rfl J (λx=>rfl) (aA,.arr F.size 0 0 2 false,dv) dp;obtain⟨eM,gV,gZ⟩:=K.app 1 rfl ea;obtain⟨eX,eU⟩:=gZ _ rfl;simp at eM eX eU;simp only[Xu]at eT;simp[e,g,h,i,j,o,C,an,ap,bk,fs,K.ok.low,eT,eM,gV,dN,ea.1.fg,ea.1.cells,fA];exact abD N hc gE e7 eU eX a8 c7 ce ef ey (λV P=> .inl (fm V P)) (by have:=nm.lt;omega) (by have:=bB.ok.sz;omega) ⟨by have:=nm.lt;have:=aE.ok.sz;omega,aE.ok.sz⟩
 ·rintro c u ⟨⟨av,b8,bz,nm⟩,e,g,h,i,j,o⟩;obtain⟨hq,ec,E,X,K,a8,ey,c7,ce,ef⟩:=b8;have an:=K.get;simp at an;have al:=bz.get;unfold DE at al;have c1:=N4 (X:=X) B c7;have fe:=(K.gr 1 rfl).IS (d:=10) B a8;have cb:=λ{tb:fw} (ht:tb.p 104=some jK.ji)=>c04 ht ⟨uB,X⟩ c1.1;simp[e,g,h,i,j,o,an,fe,cb];have gz:(0=u.size)=False:=by have:=bz.lt;simp;omega
  have eu:∀y,(dT u 0 y).get 0=some y:=λy=>(dF al y 0).trans (aq rfl);refine dV (λI=>?_) (λI=>?_)
  ·have bl:(u.size=u.size+1+1)=False:=by simp<;>omega
   have eH:(u.size+1=u.size+1+1)=False:=J;have gv:(u.size=u.size+1)=False:=J;simp[e,g,h,i,j,o,al,Pu,RQ,sx,av.ok.low,gz,eu,dN,bz.lt,gh,xu,dO,bl,eH,gv];have gi:∀e1∈ [(⟨[109,97,105,110],0,[[97],[98]],[Bh [120] [] ⟨1,1,[],[]⟩]⟩:fJ)],QN e1:=λe1 ht=>by
    rw[List.mem_singleton.1 ht];have gp:(Bh [120] [] ⟨1,1,[],[]⟩).w<=wd 0:=Ky (by rw[dL.iJ];omega) (by rw[dL.kQ];simp[dL.iJ]);refine⟨J,?_,λs b6=>?_⟩
    ·simp only[dH.jR,dH.iJ];unfold wd at gp;omega
    ·rw[List.mem_singleton.1 b6];exact CW J (.num 1) (λq=>absurd rfl q)
   exact⟨⟨⟨uB,[⟨[109,97,105,110],0,[[97],[98]],[Bh [120] [] ⟨1,1,[],[]⟩]⟩]⟩,rfl,N4 J gi,J⟩,av.ok.hp⟩
  ·have l3:Lb 3 u 0 (Z 2 0 [.agg [dw,dw]]):=⟨al,λq=>(ce 0 q).elim B B⟩;have fi:=((K.ry l3 (Z 2 1 [.agg [sl (uB.map gU.t),ec]])).gr 1 rfl).IS (d:=10) B (a8.ft (V':=λ_=>True) λb fB=>⟨trivial,by rw[dF al,ao (by have:=fB.1;omega)]⟩);simp[e,g,h,i,j,o,an,al,dN,(K.gr 1 rfl).fg,(K.gr 1 rfl).cells,eu,fi];exact⟨⟨⟨uB,X⟩,rfl,c1,dq⟩,av.ok.hp⟩
 ·have eR:=Step.cons bn.ok bn.lt B5;have eD:=Lb.new bn.lt bn.fp B5;rw[e6]at eD;simp;exact⟨⟨bn.cons _,(gQ.step eR B).wide dp,(hb.step eV).step eR,eD⟩,B⟩
end
def DX:mW prog cx 34 (λa:List Int=>[sl (a.map (T.int .u8))]) (λa=>okB a/\a.length<=1000000) (λa w=>∃c:List iW,w=sl (c.map iW.t)/\c.length=a.length):=by
 refine iS [] (iP 285 [] func34) (λa=>a.length+5) (λx y b=>by simp at b;exact jt (λ_ _ b=>by simpa using b) b) ?_;rintro a ⟨⟨_,u⟩,A⟩ e l;simp at l;simp[f34,l];refine fc a.length B (λd e b=>∃g,∃c:List iW,Gr b g 2 (c.map iW.t)/\gH 0 b/\c.length=d/\dy e 0 (sl (a.map (T.int .u8)))/\dy e 3 g/\dy e 4 (D d)) ?_ ?_ B ⟨dw,[],Gr.nil _ _,by exact⟨J,J,J⟩,rfl,by simp[l]⟩
 ·rintro d e b p v ⟨g,c,h,m,o,i,j,k⟩;have C:=u a[d] (aD p);have q: -9223372036854775808<=a[d]:=B;have r:a[d]<9223372036854775808:=B;have⟨E,z,s,n⟩:=h.mQ (cx:=cx) (f:=iW.t) m Wl rfl Wi rfl J (λ_=>rfl) (⟨a[d].tmod 4,IntKind.i64.wrap ((IntKind.i64.wrap (a[d].tdiv 4)).tmod 5-1)⟩:iW) dp;simp[i,j,k,p,s,v,q,r,Dc (show¬(4:Int)=0 by omega),ZW (show¬(4:Int)=0 by omega),Dc (show¬(5:Int)=0 by omega),tQ];exact⟨_,_,n.1,⟨n.2.2.2.hp,n.2.2.2.low,aw _⟩,dp,rfl⟩
 ·rintro e b ⟨g,c,h,m,o,i,j,k⟩;simp[i,j,k];exact⟨_,⟨c,rfl,o⟩,m.hp,by rw[V8 g h.fg,h.qA J]⟩
