/- Texts W01f to W01f. -/
import Derived.Test.YtmaeadedikngoaaGreatDoorA34
set_option linter.all false
set_option maxRecDepth 100000
set_option maxHeartbeats 8000000
namespace Go.Proofs.YtmaeadedikngoaaGreatDoor
noncomputable section
open Go Go.TI
attribute [-simp] List.map_take List.map_drop List.map_append fw eQ dZ Bool.not_or Bool.not_and
attribute [simp] fq eY
attribute [-simp] size_cons
def V2(a:List Nat×T×T):T:= .agg [.str a.1,dy 0,a.2.1,a.2.2]
def QL(a:fH):Prop:=a.locals.length<=10/\dJ.ws a.body<=100000/\∀b∈a.body,MS b
def PgV(c:Nat)(b:H)(a:Nat):Prop:=4<a/\a<c/\¬Fp b 2 a/\¬Fp b 3 a
def Pg(e:Nat)(b:H)(f:Nat):Prop:=∃h a,∃d:List (List Nat×T×T),∃c:List fH,mW b 3 2 h [(sl (uG.map gW.t),none),(a,some (4,d.map V2))]/\
 iv (FT b (PgV e b) 10) (d.map V2) (c.map fH.t)/\c.length=f/\(∀g∈c,QL g)/\(∀a,Fp b 3 a->a=3\/4<a)/\∀a,Fp b 3 a->¬Fp b 2 a
def Pg.step{f j:Nat}{b e:H}(r:Pg f b j)(c:Step 2 b e)(x:f<=b.size):Pg f e j:=by
 obtain⟨w,d,m,n,l,o,s,t,u,k⟩:=r;obtain⟨v,p⟩:=l.other k c;have h:e.get 3=b.get 3:=c.get 3 l.lt (k 3 (.inl rfl));refine⟨w,d,m,n,v,o.ft λg a=>⟨⟨a.1,a.2.1,λq=> ?_,by rw[iJ h];exact a.2.2.2⟩,c.get g (by have:=a.2.1;omega) a.2.2.1⟩,s,t,λd i=>by rw[iJ h]at i;exact u d i,p⟩;rcases c.fp g q with q|q
 ·exact a.2.2.1 q
 ·have:=a.2.1;omega
def Pg.wide{c d e:Nat}{b:H}(j:Pg c b e)(o:c<=d):Pg d b e:=by
 obtain⟨m,i,f,g,l,h,k⟩:=j;exact⟨m,i,f,g,l,h.ft λn a=>⟨⟨a.1,by have:=a.2.1;omega,a.2.2⟩,rfl⟩,k⟩
def Wj:List (List Nat):=[[109,97,105,110],[116,49],[116,50],[116,51]]
def BK:iN:=⟨1,0,0,true,false,Wj.map T.str⟩
def Dh:iN:=(dA 2 0 [.agg [dz,dz]])
structure Rd(L:List Int)(h:H)(i:Nat):Prop where
 k:Mk L 0 h 2 1
 pg:Pg h.size h i
 re:Lb 2 h 0 Dh
 nm:Lb 2 h 4 BK
def Qv(i:List Int){c:H}(d:c=((((hE.cons Dh).cons (dA 2 0 [.agg [sl (i.map (T.int .u8)),dy 0]])).cons (dA 8 0 [.agg (rE 1 0 20 false false false false dz)])).cons (dA 2 1 [.agg [sl (uG.map gW.t),dz]]))):
 Mk i 0 c 2 1/\Pg 4 c 0/\Lb 2 c 0 Dh/\c.size=4:=by
 have m:gF 0 c:=by subst d;exact⟨dt,dt,dt⟩
 have k:c.get 2=some (dA 8 0 [.agg (rE 1 0 20 false false false false dz)]):=by subst d;simp
 have f:∀a,Fp c 2 a->a=2\/a=1:=by
  rintro a (rfl|⟨p,g,o,l,b⟩)
  ·exact .inl rfl
  ·rw[k]at g;simp only[ar]at g;subst g;simp[fa,T.cells,rE]at l;rcases l with rfl|rfl|rfl|rfl|rfl|rfl|rfl|rfl<;>first|(have b:(none:aa Nat)=some a:=b;simp at b;done)|(have b:some 1=some a:=b;simp at b;exact .inr b.symm)
 obtain⟨n,j⟩:=mW.start (h:=c) (w:=3) (szw:=2) (ver:=1) (F:=[(sl (uG.map gW.t),none),(dz,some (4,[]))]) m (by subst d;simp) dt;refine⟨⟨m,λa e=> ?_,⟨0,0,by subst d;simp,Int.le_refl _⟩,0,0,20,false,false,false,false,dz,[],k,Gr.nil _ _,rfl⟩,⟨1,dz,[],[],n,.nil,rfl,dt,λa e=> .inl (j a e),λa e b=> ?_⟩,⟨by subst d;simp[Dh],λb=> ?_⟩,by subst d;simp⟩
 ·have:=f a e;subst d;simp;omega
 ·have:=f a b;have:=j a e;omega
 ·have:=f 0 b;omega
def KW(a:Int)(b:List Nat):dJ:=⟨a,0,b,[],[],⟨0,0,[],[]⟩,[],[]⟩
def T2(a:Int)(b:List Nat):T:= .agg [dy a,dy 0,.str b,.str [],dz,dy 0,dy 0,.str [],dz,dz,dz]
def SD{e:H}{c:Nat->Prop}(a:Int)(b:List Nat)(d:Nat):FT e c (d+2) (T2 a b) (KW a b).t:=
 .inr (.inr ⟨_,(KW a b).cs,rfl,.cons (fW ..) (.cons (fW ..) (.cons (jV ..) (.cons (jV ..) (.cons (iU ..) (.cons (fW ..) (.cons (fW ..) (.cons (jV ..) (.cons (iU ..) (.cons (iU ..) (.cons (iU ..) .nil)))))))))),dJ.mT _⟩)
def SC{k:Int}{nm:List Nat}(d:k=12\/k=13):MS (KW k nm)/\(KW k nm).w<=wd 2:=by
 refine⟨.mk (λa=>by unfold KW at a;simp at a;omega) (λa=>by unfold KW at a;simp at a;omega) (λc b=>by unfold KW at b;simp at b) (λa=>by unfold KW at a;simp at a;omega) (λc b=>by unfold KW at b;simp at b) (λc b=>by unfold KW at b;simp at b),?_⟩;rw[dJ.kU,dN.kU];unfold KW wd;simp only[dJ.qY,dJ.I7,dJ.uu,dJ.xq,dJ.iD,dN.iD,dN.Eu];omega
def FT.stmt{i:H}{g:Nat->Prop}{d:Nat}{c:T}{f:dJ}(b:FT i g d c f.t):c.cells.length=11:=by
 cases d with
 |zero=>exact b.elim
 |succ d=>
  rw[f.mT]at b;rcases b with⟨j,k,a⟩|⟨_,_,_,_,_,_,h,_,_,_,_,a⟩|⟨e,n,rfl,l,a⟩
  ·cases c<;>first|exact absurd rfl (k _)|(rw[mQ]at a;rename_i m b;cases m<;>simp[sl]at a;done)|(simp at a;done)|(simp[jI]at j;done)
  ·cases h<;>simp[sl]at a
  ·simp only[T.agg.injEq]at a;subst a;rw[show(T.agg e).cells=e from rfl,l.length];rfl
structure Th(L:List Int)(hC:H)(nm:List Nat)(bl cnt:Nat)(h:H)(v:T)(ver:Nat)(l:List dJ):Prop where
 sv:SV (hC.size+1) h.size h 2 6 v l
 k:Mk L 0 h 2 1
 st:Step 2 hC h
 l8:Lb 2 h hC.size (dA 4 ver [.agg [.str nm,dy 0,.arr bl 0 0 2 false,v]])
 ms:∀s∈l,MS s/\s.w<=wd 2
 len:l.length<=cnt
 z:2<hC.size
def Th.cons{d:List Int}{h g:H}{j:List Nat}{e f m:Nat}{l:T}{i:List dJ}(a:Th d h j e f g l m i)(c:iN):Th d h j e f (g.cons c) l m i:=by
 have b:=Step.cons a.k.ok a.k.lt c;exact⟨(a.sv.step b (au _)).wide (au _) dt,a.k.cons c,a.st.trans b,a.l8.step b,a.ms,a.len,a.z⟩
def Th.step{c:List Int}{h g d:H}{j:List Nat}{e f l:Nat}{k:T}{i:List dJ}(a:Th c h j e f g k l i)(b:Step 2 g d)(m:Mk c 0 d 2 1):Th c h j e f d k l i:=
 ⟨(a.sv.step b (au _)).wide (au _) b.ok.sz,m,a.st.trans b,a.l8.step b,a.ms,a.len,a.z⟩
def Th.more{e:List Int}{i h:H}{j:List Nat}{f g m d:Nat}{c:T}{b:List dJ}(a:Th e i j f g h c d b)(l:g<=m):∃c d b,Th e i j f m h c d b:=⟨c,d,b,a.sv,a.k,a.st,a.l8,a.ms,aS a.len l,a.z⟩
def N2{X:List fH}(hl:X.length<=4)(b:∀a∈X,QL a):N3 ⟨uG,X⟩:=by
 refine⟨⟨⟨by simp[uG],dw,λa ht=>⟨by have:=(b a ht).1;omega,by have:=(b a ht).2.1;omega⟩⟩,?_,λa ht=>(b a ht).2.2,7,by simp[uG],by simp[uG,rx]⟩,by simp[uG],by simp[uG],⟨1,0,[113],2,0,[]⟩,by simp[uG],rfl,rfl⟩;have d:∀X:List fH,(∀a∈X,QL a)->ph X<=X.length*100000:=by
  intro X;induction X with
  |nil=>intro _;simp[ph]
  |cons e X c=>
   intro b;have f:=c λa ht=>b a (by simp[ht]);have g:=(b e dt).2.1;unfold ph at*
   simp only[aR,List.sum_cons,aZ];omega
 have:=d X b;unfold ph at this;simp only;omega
def TC{b:H}{a c:T}(i:SL a []\/∃d e h,a= .arr d e 0 h false)(f:og a=true)(g:b.jg c=some []):iO cx b 172 172 a c=some (.val a b):=by
 unfold iO pR nc;rw[yq,dR,dR];simp only[show FK.u= .slice 211 from rfl,yo,g,dR];show(fT (fits _ []) (jp (fT (og a) (some (a,b)))))=_;rw[f];rfl
def Th.app{o:List Int}{c f:H}{i:List Nat}{h p n m:Nat}{l x:T}{xs:List T}{r l2:List dJ}(b:Th o c i h p f l m r)(v:f.jg x=some xs)(s:iv (FT f (Nw (c.size+1) f.size f 2 l) 8) xs (l2.map dJ.t))(K:∀j∈l2,MS j/\j.w<=wd 2)(U:l2.length<=n)(S:p+n<=1000):
 ∃e a,iO cx f 172 172 l x=some (.val e a)/\a.get c.size=f.get c.size/\e.gJ=true/\e.cells=[e]/\Th o c i h (p+n) (dT a c.size (dA 4 (m+1) [.agg [.str i,dy 0,.arr h 0 0 2 false,e]])) e (m+1) (r++l2):=by
 have fin:∀e a,SV (c.size+1) a.size a 2 6 e (r++l2)->Mk o 0 a 2 1->Step 2 c a->Lb 2 a c.size (dA 4 m [.agg [.str i,dy 0,.arr h 0 0 2 false,l]])->Th o c i h (p+n) (dT a c.size (dA 4 (m+1) [.agg [.str i,dy 0,.arr h 0 0 2 false,e]])) e (m+1) (r++l2):=λe a M D N g=>
  ⟨by rw[fJ];exact M.rD g (.inl (cY _)) _,D.rD g _,Step.rD D.ok g _ _ N (au _),⟨(dI g.get _ _).trans (aq rfl),by rw[iJ (show(dT a c.size _).get 2=a.get 2 by rw[dI g.get,ao (bg g.ne)])];exact g.nf⟩,λj I=>(List.mem_append.1 I).elim (b.ms j) (K j),by rw[bh];have:=b.len;omega,b.z⟩
 by_cases B:xs=[]
 ·subst B;have:l2=[]:=by cases l2 with|nil=>rfl|cons=>cases s
  subst this;obtain⟨R,u,_⟩:=b.sv;refine⟨l,f,?_,rfl,u.gJ,u.cells,fin l f (by rw[cg];exact b.sv) b.k b.st b.l8⟩;rcases u with⟨rfl,rfl⟩|⟨P,Q,_,_,_,rfl,_⟩
  ·exact TC (.inl (RY _ _)) rfl v
  ·exact TC (.inr ⟨_,_,_,rfl⟩) rfl v
 have E:∀q∈xs,q.cells.length=11:=λq F=>by
  obtain⟨V,G,J⟩:=s.GA F;obtain⟨j,_,rfl⟩:=List.mem_map.1 G;exact FT.stmt (d:=8) J
 obtain⟨e,a,q,y,L,O,C⟩:=b.sv.app b.k (by have:=b.l8.lt;omega) (au _) v s E B (by have:=b.len;omega);have A:=C c.size (cY _);refine⟨e,a,q,A,y.gc.1,y.gc.2,fin e a y L (O c b.st dq) ⟨A.trans b.l8.get,?_⟩⟩;rw[iJ (C 2 (by have:=b.z;omega))];exact b.l8.nf
def Z0{z:List Int}{F b d:H}{m:List Nat}{e Z L G i:Nat}{x K:T}{v:List dJ}{n:List (List Nat×T×T)}{l:List fH}(g:Th z F m e 7 b x Z v)(V:Lb 2 b 0 Dh)(S:Lb 2 b 4 BK)
 (o:Lb 2 b e (dA 1 0 [.str [97],.str [98]])) (X:mW d 3 2 L [(sl (uG.map gW.t),none),(K,some (4,(n++[(m,T.arr e 0 0 2 false,x)]).map V2))]) (f:Step 3 b d) (M:iv (FT b (PgV i b) 10) (n.map V2) (l.map fH.t)) (P:∀w∈l,QL w)
 (B:∀a,Fp b 3 a->a=3\/4<a) (A:∀a,Fp b 3 a->¬Fp b 2 a) (al:l.length=G) (N:∀a,Fp b 3 a->a<i\/a=3) (ae:4<i) (an:i<=F.size) (O:4<e/\i<=e):Rd z d (G+1):=by
 have ap:=g.l8.lt;have Y:b.size<=d.size:=f.ok.sz;have U:gF 0 d:=⟨f.ok.hp,f.ok.low,aw _⟩;have D:∀a,Fp b 2 a->d.get a=b.get a:=λa c=>f.get a (g.k.fp a c) λq=>A a q c;have p:=D 2 (.inl rfl);have R:∀a,a<=4->a≠3->¬Fp b 3 a:=λa j h q=>(B a q).elim h λq=>by omega
 have J:∀a y,Lb 2 b a y->a<=4->a≠3->Lb 2 d a y:=λa y u j h=>⟨(f.get a u.lt (R a j h)).trans u.get,by rw[iJ p];exact u.nf⟩;have s:∀a,4<a->a<b.size->¬Fp b 2 a->¬Fp b 3 a->PgV d.size d a/\d.get a=b.get a:=λa j h E r=>⟨⟨j,dq,by rw[iJ p];exact E,λq=>(f.fp a q).elim r λq=>by omega⟩,f.get a h r⟩;have C:∀a,Fp b 3 a->a<i\/a=3:=λa c=>N a c;refine⟨g.k.same U Y D,⟨L,K,n++[(m,T.arr e 0 0 2 false,x)],l++[⟨m,0,[[97],[98]],v⟩],X,?_,du,λw ht=> ?_,λa c=> ?_,λa c q=> ?_⟩,J 0 _ V dq dq,J 4 _ S dq dq⟩
 ·rw[List.map_append,List.map_append];refine iv.append (M.ft λa c=>s a c.1 (by have:=c.2.1;omega) c.2.2.1 c.2.2.2) (.cons ?_ .nil);have I:=s e O.1 o.lt o.nf λq=>(C e q).elim (λq=>by omega) λq=>by omega
  refine .inr (.inr ⟨_,_,rfl,.cons (jV ..) (.cons (fW ..) (.cons (.inr (.inl ⟨e,0,0,2,false,[.str [97],.str [98]],[.str [97],.str [98]],rfl,I.1,?_,.cons (jV ..) (.cons (jV ..) .nil),rfl⟩)) (.cons (g.sv.ft.mono λa c=>s a (by have:=c.1;omega) c.2.1 c.2.2.1 λq=>(C a q).elim (λq=>by have:=c.1;omega) λq=>by have:=c.1;omega) .nil))),rfl⟩);rw[f7,I.2,o.get];simp
 ·rcases List.mem_append.1 ht with q|q
  ·exact P w q
  ·rw[List.mem_singleton.1 q];refine⟨dt,?_,λW Q=>(g.ms W Q).1⟩;have j:=wu g.ms;have h:=g.len;have E:v.length*wd 2<=7*wd 2:=aW _ h;have r:wd 2=10000:=rfl;simp only;omega
 ·rcases f.fp a c with q|q
  ·exact B a q
  ·exact .inr dq
 ·rw[iJ p]at q;rcases f.fp a c with k|k
  ·exact A a k q
  ·have:=g.k.fp a q;omega
def NO:m6 Tryz.prog cx 77 (λI:List Int=>[sl (I.map (T.int .u8))]) okB (λI r=>∃p:fx,r=p.t/\N3 p/\p.dE.length<=100):=by
 refine jd (tb:=⟨pt [(117,yX),(120,F0),(119,Ig),(93,jL.jf)],ht [(63,js yF ue qR),(118,Ue 11)]⟩) ew ej (iQ 2535301804919368649890680801277 [(15,[(1,7),(1,9)])] Tryz.func77) (λ_=>1000) (λa b e=>by simp at e;exact jw (λ_ _ e=>by simpa using e) e) dt (by simp[Tryz.f77]) ?_;rintro I bs c eb;simp at eb;simp[Tryz.f77,eb,Pt];generalize u:(((H.cons (H.cons hE _) _).cons _).cons _:H)=ha;obtain⟨ce,gk,gw,gV⟩:=Qv I u.symm;clear u;refine rk dt ce.tp ce.ok dq dq bs λbz l hh t2 eC=> ?_;obtain⟨aN,eI⟩:=ce.tape eC t2;have gm:=gk.step eI dq;have eU:l.size=4:=eC.size.trans gV;have eX:binop .add (dy 2) (dy bz)=some (dy ((2+bz:Nat):Int)):=by rw[il dq dq];simp
 simp[eX,eU];have ho:2+bz<=4:=dq;generalize b9:2+bz=n at*
 refine fh n dq (λj c e=>Rd I e j/\dB c 2 (.ptr 0 0 0 0)/\dB c 3 (.ptr 2 0 0 0)/\dB c 4 (.ptr 3 0 0 0)/\dB c 5 (dy n)/\dB c 6 (.arr 4 0 0 4 false)/\dB c 7 (dy j)) ?_ ?_ dq ?_
 ·rintro j c e fm e7 ⟨⟨aE,bB,a7,nm⟩,l,B,o,C,D,h⟩;obtain⟨bC,g,left,set,c1,bH,cb,er,bu,A,av,hl⟩:=aE.ex;obtain⟨ae,N⟩:=aE.set (th':=j) (left':=left) (se':=set) (tx':=c1) (at2:=bH) (lp':=cb) A av hl;have cp:=nm.step ae;have eB:=a7.step ae;simp only[rE]at A ae N cp eB;have fb:j<4:=dq;obtain⟨Z,fB⟩:∃s,Wj[j]? =some s:=⟨Wj[j]'(by show j<4;omega),az (by show j<4;omega)⟩;simp[B,C,D,h,fm,A,dS];generalize dT e 2 _=i at*
  have dk:=cp.get;unfold BK at dk;have fl:i.low<=i.size+1:=Nat.le_succ_of_le N.ok.low;simp[h,dk,fB,fb,fl];have hq:=N.lt;have cv:=Step.cons N.ok N.lt (dA 1 0 [.str [97],.str [98]]);have aX:=N.cons (dA 1 0 [.str [97],.str [98]]);have fL:=Lb.new N.lt N.fp (dA 1 0 [.str [97],.str [98]]);have a8:=ae.trans cv;have O:Th I (i.cons (dA 1 0 [.str [97],.str [98]])) Z i.size 0 ((i.cons (dA 1 0 [.str [97],.str [98]])).cons (dA 4 1 [.agg [.str Z,dy 0,.arr i.size 0 0 2 false,dz]])) dz 1 []:=
   ⟨SV.nil _ _ _ _ _,aX.cons _,Step.cons aX.ok aX.lt _,by simpa using Lb.new aX.lt aX.fp (dA 4 1 [.agg [.str Z,dy 0,.arr i.size 0 0 2 false,dz]]),dt,dt,du⟩
  have e9:i.size+1=(i.cons (dA 1 0 [.str [97],.str [98]])).size:=rfl;simp only[e9];generalize hf:i.cons (dA 1 0 [.str [97],.str [98]])=F at*
  refine kS (λc R=>∃v bC Y,Th I F Z i.size 3 R v bC Y/\dB c 2 (.ptr 0 0 0 0)/\dB c 3 (.ptr 2 0 0 0)/\dB c 4 (.ptr 3 0 0 0)/\dB c 5 (dy n)/\dB c 6 (.arr 4 0 0 4 false)/\dB c 7 (dy j)/\dB c 8 (.ptr F.size 0 0 0)) (λu=> ?_) (λu=> ?_) ?_
  ·simp;refine yC n (λk c R=>1<=k/\(∃v bC Y,Th I F Z i.size (k-1) R v bC Y/\dB c 2 (.ptr 0 0 0 0)/\dB c 3 (.ptr 2 0 0 0)/\dB c 4 (.ptr 3 0 0 0)/\dB c 5 (dy n)/\dB c 6 (.arr 4 0 0 4 false)/\dB c 7 (dy j)/\dB c 8 (.ptr F.size 0 0 0))/\dB c 9 (dy k)) ?_ dq (k:=1) dq ⟨au _,⟨_,_,_,O,by simp[l,B,o,C,D,h]⟩,dt⟩;rintro k c R hg ⟨fe,⟨v,eR,Y,g,l,B,o,C,D,h,J⟩,dv⟩;have W:=g.l8.get;have gd:=(nm.step a8).step g.st;have dm:=gd.get;unfold BK at dm;have hn:decide ((k:Int)<n)=decide (k<n):=by rw[decide_eq_decide];omega
   simp[C,dv];refine dW (λu=> ?_) (λu=> ?_)
   ·have b9:k<n:=by simpa using u
    have fi:k<4:=dq;obtain⟨a6,fA⟩:∃s,Wj[k]? =some s:=⟨Wj[k]'(by show k<4;omega),az (by show k<4;omega)⟩;have bn:=g.cons (dA 11 0 [T2 12 a6]);obtain⟨eP,b6,M,gA,al,an,P⟩:=bn.app (x:= .arr R.size 0 0 1 false) (xs:=[T2 12 a6]) (l2:=[KW 12 a6]) (n:=1) (by rw[f7];simp) (.cons (SD 12 a6 6) .nil) (by simp[SC (k:=12) (nm:=a6) (.inl rfl)]) dt dq;have bT:=gA.trans bn.l8.get;have ds:(F.size=R.size)=False:=by have:=g.l8.lt;simp;omega
    simp only[T2]at M;simp[D,J,dv,dm,fA,fi,W,M,bT,dS,al,an];have e3:binop .add (dy (k:Int)) (dy 1)=some (dy ((k+1:Nat):Int)):=by rw[il dq dq];simp
    simp[l,B,o,C,D,h,J,e3];exact⟨k+1,dq,dq,dq,⟨eP,_,_,by rw[show k+1-1=k-1+1 by omega];exact P⟩,dt⟩
   ·have b9:k=n:=by simp at u;omega
    subst b9;simp[l,B,o,C,D,h,J];exact⟨v,eR,Y,g.sv,g.k,g.st,g.l8,g.ms,by have:=g.len;omega,g.z⟩
  ·simp[l,B,o,C,D,h];exact⟨_,_,_,O.sv,O.k,O.st,O.l8,O.ms,by have:=O.len;omega,O.z⟩
  ·rintro c R ⟨v,eR,Y,g,l,B,o,C,D,h,J⟩;have W:=g.l8.get;obtain⟨gQ,th',left,gB,c1,bH,cb,er,bu,A,av,hl⟩:=g.k.ex;simp only[rE]at A;simp[B,J,W,A];clear A av hl;refine Jf dt g.k.tp g.k.ok dq dq bs λaA b7 fe eO eD=> ?_;obtain⟨eu,eL⟩:=g.k.tape eD eO;have bk:=g.step eL eu;have bN:binop .add (dy 1) (dy aA)=some (dy ((1+aA:Nat):Int)):=by rw[il dq dq];simp
   have gI:=ff (bk.l8.get.trans W.symm);simp[bN,gI];refine lP (acf 11) dt ⟨I,2,1,0,2,1+aA⟩ ⟨⟨dt,eu,bs,dt,dt,dw⟩,dt⟩ ?_;rintro w hE ⟨l2,bi,ef,fv,ey,cy⟩;simp only at bi ef fv ey cy;have cL:=bk.step cy ey;obtain⟨gZ,de,c7,gv⟩:=bi;have hB:=bk.l8.lt;obtain⟨eP,b6,M,gA,al,an,P⟩:=cL.app (n:=3) de.jg (c7.ft λQ K=>⟨⟨by have:=K.1;omega,K.2.1,K.2.2.1,bk.sv.box (by have:=K.1;omega)⟩,rfl⟩) ef dq dq;have bi:=ff (cL.l8.get.trans bk.l8.get.symm);have di:=gA.trans cL.l8.get;have eN:=ff gA;clear gA eD eL cy eO c7 de gv;cases ec:decide (j=0)
   case' false=>
    simp[o,h,J,M,di,eN,bi,dS,al,an,ec];generalize dT b6 F.size _=S at*
    obtain⟨c4,eS,et,G⟩:=P.more (m:=7) dq
   case' true=>
    simp[B,h,J,M,di,eN,bi,dS,al,an,ec];generalize dT b6 F.size _=S at*
    obtain⟨gQ,th',left,gB,c1,bH,cb,er,bu,A,av,hl⟩:=P.k.ex;simp only[rE]at A;simp[A];clear A av hl;refine rk dt P.k.tp P.k.ok dq dq bs λfE b8 hj gM gz=> ?_;obtain⟨fS,gE⟩:=P.k.tape gz gM;have bl:=P.step gE fS;have e5:=bl.l8.get;have eo:=((nm.step a8).step bl.st).get;unfold BK at eo;simp;refine dW (λu=> ?gi) (λu=> ?gj)
    case' gj=>
     simp;generalize b8=S at*
     obtain⟨c4,eS,et,G⟩:=bl.more (m:=7) dq
    case' gi=>
     have bn:=bl.cons (dA 11 0 [T2 13 [116,49]]);obtain⟨hy,e6,M,gA,al,an,gP⟩:=bn.app (x:= .arr b8.size 0 0 1 false) (xs:=[T2 13 [116,49]]) (l2:=[KW 13 [116,49]]) (n:=1) (by rw[f7];simp) (.cons (SD 13 [116,49] 6) .nil) (by simp[SC (k:=13) (nm:=[116,49]) (.inr rfl)]) dt dq;have bT:=gA.trans bn.l8.get;have ds:(F.size=b8.size)=False:=by have:=bl.l8.lt;simp;omega
     have fs:Wj[1]? =some [116,49]:=rfl;simp only[T2]at M;simp[o,D,J,eo,fs,e5,M,bT,dS,al,an];generalize dT e6 F.size _=S at*
     obtain⟨c4,eS,et,G⟩:=gP.more (m:=7) dq
   all_goals
    have gn:=bB.step (a8.trans G.st) (au _);have gy:=(eB.step cv).step G.st;have gg:=(cp.step cv).step G.st;have W:=G.l8.get;have eV:=fL.step G.st;obtain⟨gS,c9,E,X,L,ap,ea,ca,bS,dd⟩:=gn;have V:=L.get;simp at V;have ds:(F.size=S.size)=False:=by have:=G.l8.lt;simp;omega
    have e4:∀Q,Fp S 3 Q->Q<e.size:=λQ K=>by
     obtain⟨_,_,_,_,eF,_,_,_,_,eW⟩:=bB;have e0:S.get 3=e.get 3:=(a8.trans G.st).get 3 eF.lt (eW 3 (.inl rfl));rw[iJ e0]at K;exact eF.fp Q K
    have hb:(3=S.size)=False:=by have:=L.lt;simp;omega
    have hc:E.length=j:=by have:=ap.length;simp at this;omega
    obtain⟨hA,hd,eT,c6⟩:=(L.gr 1 rfl).mJ (cx:=cx) (f:=V2) L.ok Rw rfl Rr rfl dt (λx=>rfl) (Z,.arr i.size 0 0 2 false,c4) du;obtain⟨eA,hv,gp⟩:=L.app 1 rfl c6;obtain⟨eM,eH⟩:=gp _ rfl;simp at eA eM eH;simp only[V2]at eT;simp[l,B,o,C,D,h,J,V,W,eT,eA,dS,c6.1.gJ,c6.1.cells,e7];exact Z0 G gy gg eV eH eM ap ca bS dd ea (λQ K=> .inl (e4 Q K)) (by have:=nm.lt;omega) (by have:=a8.ok.sz;omega) ⟨by have:=nm.lt;have:=ae.ok.sz;omega,ae.ok.sz⟩
 ·rintro c e ⟨⟨aE,bB,a7,nm⟩,l,B,o,C,D,h⟩;obtain⟨gS,c9,E,X,L,ap,ea,ca,bS,dd⟩:=bB;have V:=L.get;simp at V;have U:=a7.get;unfold Dh at U;have b7:=N2 (X:=X) dq ca;have e1:=(L.gr 1 rfl).IW (d:=10) dq ap;have bN:=λ{tb:fy} (ht:tb.p 93=some jL.jf)=>c04 ht ⟨uG,X⟩ b7.1;simp[o,C,h,V,e1,bN];have fY:(0=e.size)=False:=by have:=a7.lt;simp;omega
  have dn:∀y,(dT e 0 y).get 0=some y:=λy=>(dI U y 0).trans (aq rfl);refine dW (λu=> ?_) (λu=> ?_)
  ·have aA:(e.size=e.size+1+1)=False:=by simp<;>omega
   have fE:(e.size+1=e.size+1+1)=False:=dt;have hs:(e.size=e.size+1)=False:=dt;simp[l,U,Pt,RL,rG,fY,dn,dS,a7.lt,f7,xm,dP,aA];have fo:∀t∈ [(⟨[109,97,105,110],0,[[97],[98]],[CN [120] [] ⟨1,1,[],[]⟩]⟩:fH)],QL t:=λt ht=>by
    rw[List.mem_singleton.1 ht];have fC:(CN [120] [] ⟨1,1,[],[]⟩).w<=wd 0:=KB (by rw[dN.iD];omega) (by rw[dN.kU];simp[dN.iD]);refine⟨dt,?_,λs bu=> ?_⟩
    ·simp only[dJ.jQ,dJ.iD];unfold wd at fC;omega
    ·rw[List.mem_singleton.1 bu];exact CB dt (.num 1) (λq=>absurd rfl q)
   exact⟨⟨⟨uG,[⟨[109,97,105,110],0,[[97],[98]],[CN [120] [] ⟨1,1,[],[]⟩]⟩]⟩,rfl,N2 dt fo,dt⟩,aE.ok.hp⟩
  ·have l3:Lb 3 e 0 (dA 2 0 [.agg [dz,dz]]):=⟨U,λq=>(bS 0 q).elim dq dq⟩;have e2:=((L.rD l3 (dA 2 1 [.agg [sl (uG.map gW.t),c9]])).gr 1 rfl).IW (d:=10) dq (ap.ft (V':=λ_=>True) λb e8=>⟨trivial,by rw[dI U,ao (by have:=e8.1;omega)]⟩);simp[l,o,V,U,dS,dn,e2];exact⟨⟨⟨uG,X⟩,rfl,b7,dw⟩,aE.ok.hp⟩
 ·have eE:=Step.cons aN.ok aN.lt BK;have eh:=Lb.new aN.lt aN.fp BK;rw[eU]at eh;simp;exact⟨⟨aN.cons _,(gm.step eE dq).wide du,(gw.step eI).step eE,eh⟩,dq⟩
end
end Go.Proofs.YtmaeadedikngoaaGreatDoor
