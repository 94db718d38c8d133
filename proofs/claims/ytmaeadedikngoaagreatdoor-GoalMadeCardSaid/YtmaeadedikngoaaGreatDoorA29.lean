/- Texts W01f to W01f. -/
import Derived.Test.YtmaeadedikngoaaGreatDoorA28
set_option linter.unusedVariables false
set_option linter.unusedSimpArgs false
set_option maxRecDepth 100000
set_option maxHeartbeats 8000000
namespace Go.Proofs.YtmaeadedikngoaaGreatDoor
noncomputable section
open Go Go.TI
attribute [-simp] List.map_take List.map_drop List.map_append fi ei dT Bool.not_or Bool.not_and
attribute [simp] fh ew
attribute [-simp] size_cons
def VQ(a:List Nat×T×T):T:= .agg [.str a.1,.int .i64 0,a.2.1,a.2.2]
def PD(a:eY):Prop:=a.locals.length<=10/\du.ws a.body<=100000/\∀b∈a.body,MS b
def PgV(c:Nat)(b:H)(a:Nat):Prop:=4<a/\a<c/\¬Fp b 2 a/\¬Fp b 3 a
def Pg(e:Nat)(b:H)(f:Nat):Prop:=∃h a,∃d:List (List Nat×T×T),∃c:List eY,qY b 3 2 h [(sl (ug.map f6.t),none),(a,some (4,d.map VQ))]/\
 gG (FT b (PgV e b) 10) (d.map VQ) (c.map eY.t)/\c.length=f/\(∀g∈c,PD g)/\(∀a,Fp b 3 a->a=3\/4<a)/\∀a,Fp b 3 a->¬Fp b 2 a
theorem Pg.step{f j:Nat}{b e:H}(r:Pg f b j)(c:Step 2 b e)(x:f<=b.size):Pg f e j:=by
 obtain⟨w,d,m,n,l,o,s,t,u,k⟩:=r
 obtain⟨v,p⟩:=l.other k c
 have h:e.get 3=b.get 3:=c.get 3 l.lt (k 3 (.inl rfl))
 refine⟨w,d,m,n,v,o.ft λg a=>⟨⟨a.1,a.2.1,λq=> ?_,by rw[iH h];exact a.2.2.2⟩,c.get g (by have:=a.2.1;omega) a.2.2.1⟩,s,t,λd i=>by rw[iH h]at i;exact u d i,p⟩
 rcases c.fp g q with q|q
 ·exact a.2.2.1 q
 ·have:=a.2.1;omega
theorem Pg.wide{c d e:Nat}{b:H}(j:Pg c b e)(o:c<=d):Pg d b e:=by
 obtain⟨m,i,f,g,l,h,k⟩:=j
 exact⟨m,i,f,g,l,h.ft λn a=>⟨⟨a.1,by have:=a.2.1;omega,a.2.2⟩,rfl⟩,k⟩
def Wh:List (List Nat):=[[109,97,105,110],[116,49],[116,50],[116,51]]
def A3:iE:=⟨1,0,0,true,false,Wh.map T.str⟩
def Cz:iE:=⟨2,0,0,true,false,[.agg [.dq [] false,.dq [] false]]⟩
structure Rd(L:List Int)(h:H)(i:Nat):Prop where
 k:Mk L 0 h 2 1
 pg:Pg h.size h i
 re:Lb 2 h 0 Cz
 nm:Lb 2 h 4 A3
theorem Po(i:List Int){c:H}(d:c=((((hE.cons Cz).cons ⟨2,0,0,true,false,[.agg [sl (i.map (T.int .u8)),.int .i64 0]]⟩).cons ⟨8,0,0,true,false,[.agg (rf 1 0 20 false false false false (.dq [] false))]⟩).cons ⟨2,0,1,true,false,[.agg [sl (ug.map f6.t),.dq [] false]]⟩)):
 Mk i 0 c 2 1/\Pg 4 c 0/\Lb 2 c 0 Cz/\c.size=4:=by
 have m:gh 0 c:=by subst d;exact⟨by simp,by simp,by simp⟩
 have k:c.get 2=some ⟨8,0,0,true,false,[.agg (rf 1 0 20 false false false false (.dq [] false))]⟩:=by subst d;simp
 have f:∀a,Fp c 2 a->a=2\/a=1:=by
  rintro a (rfl|⟨p,g,o,l,b⟩)
  ·exact .inl rfl
  ·rw[k]at g;simp only[ar]at g;subst g
   simp[d6,T.cells,rf]at l
   rcases l with rfl|rfl|rfl|rfl|rfl|rfl|rfl|rfl<;>first|(have b:(none:aa Nat)=some a:=b;simp at b;done)|(have b:some 1=some a:=b;simp at b;exact .inr b.symm)
 obtain⟨n,j⟩:=qY.start (h:=c) (w:=3) (szw:=2) (ver:=1) (F:=[(sl (ug.map f6.t),none),(.dq [] false,some (4,[]))]) m (by subst d;simp) (by simp)
 refine⟨⟨m,λa e=> ?_,⟨0,0,by subst d;simp,Int.le_refl _⟩,0,0,20,false,false,false,false,.dq [] false,[],k,Gr.nil _ _,rfl⟩,⟨1,.dq [] false,[],[],n,.nil,rfl,by simp,λa e=> .inl (j a e),λa e b=> ?_⟩,⟨by subst d;simp[Cz],λb=> ?_⟩,by subst d;simp⟩
 ·have:=f a e;subst d;simp;omega
 ·have:=f a b;have:=j a e;omega
 ·have:=f 0 b;omega
def Kj(a:Int)(b:List Nat):du:=⟨a,0,b,[],[],⟨0,0,[],[]⟩,[],[]⟩
def TB(a:Int)(b:List Nat):T:= .agg [.int .i64 a,.int .i64 0,.str b,.str [],.dq [] false,.int .i64 0,.int .i64 0,.str [],.dq [] false,.dq [] false,.dq [] false]
theorem Sc{e:H}{c:Nat->Prop}(a:Int)(b:List Nat)(d:Nat):FT e c (d+2) (TB a b) (Kj a b).t:=
 .inr (.inr ⟨_,(Kj a b).cs,rfl,.cons (fJ ..) (.cons (fJ ..) (.cons (jH ..) (.cons (jH ..) (.cons (iL ..) (.cons (fJ ..) (.cons (fJ ..) (.cons (jH ..) (.cons (iL ..) (.cons (iL ..) (.cons (iL ..) .nil)))))))))),du.mK _⟩)
theorem Sb{k:Int}{nm:List Nat}(d:k=12\/k=13):MS (Kj k nm)/\(Kj k nm).w<=wd 2:=by
 refine⟨.mk (λa=>by unfold Kj at a;simp at a;omega) (λa=>by unfold Kj at a;simp at a;omega) (λc b=>by unfold Kj at b;simp at b) (λa=>by unfold Kj at a;simp at a;omega) (λc b=>by unfold Kj at b;simp at b) (λc b=>by unfold Kj at b;simp at b),?_⟩
 rw[du.kJ,dC.kJ];unfold Kj wd
 simp only[du.qM,du.Iq,du.tT,du.wQ,du.il,dC.il,dC.DI];omega
theorem FT.stmt{i:H}{g:Nat->Prop}{d:Nat}{c:T}{f:du}(b:FT i g d c f.t):c.cells.length=11:=by
 cases d with
 |zero=>exact b.elim
 |succ d=>
  rw[f.mK]at b
  rcases b with⟨j,k,a⟩|⟨_,_,_,_,_,_,h,_,_,_,_,a⟩|⟨e,n,rfl,l,a⟩
  ·cases c<;>first|exact absurd rfl (k _)|(rw[mE]at a;rename_i m b;cases m<;>simp[sl]at a;done)|(simp at a;done)|(simp[jv]at j;done)
  ·cases h<;>simp[sl]at a
  ·simp only[T.agg.injEq]at a;subst a;rw[show(T.agg e).cells=e from rfl,l.length];rfl
structure Th(L:List Int)(hC:H)(nm:List Nat)(bl cnt:Nat)(h:H)(v:T)(ver:Nat)(l:List du):Prop where
 sv:SV (hC.size+1) h.size h 2 6 v l
 k:Mk L 0 h 2 1
 st:Step 2 hC h
 l8:Lb 2 h hC.size ⟨4,0,ver,true,false,[.agg [.str nm,.int .i64 0,.arr bl 0 0 2 false,v]]⟩
 ms:∀s∈l,MS s/\s.w<=wd 2
 len:l.length<=cnt
 z:2<hC.size
theorem Th.cons{d:List Int}{h g:H}{j:List Nat}{e f m:Nat}{l:T}{i:List du}(a:Th d h j e f g l m i)(c:iE):Th d h j e f (g.cons c) l m i:=by
 have b:=Step.cons a.k.ok a.k.lt c
 exact⟨(a.sv.step b (au _)).wide (au _) (by simp),a.k.cons c,a.st.trans b,a.l8.step b,a.ms,a.len,a.z⟩
theorem Th.step{c:List Int}{h g d:H}{j:List Nat}{e f l:Nat}{k:T}{i:List du}(a:Th c h j e f g k l i)(b:Step 2 g d)(m:Mk c 0 d 2 1):Th c h j e f d k l i:=
 ⟨(a.sv.step b (au _)).wide (au _) b.ok.sz,m,a.st.trans b,a.l8.step b,a.ms,a.len,a.z⟩
theorem Th.more{e:List Int}{i h:H}{j:List Nat}{f g m d:Nat}{c:T}{b:List du}(a:Th e i j f g h c d b)(l:g<=m):∃c d b,Th e i j f m h c d b:=⟨c,d,b,a.sv,a.k,a.st,a.l8,a.ms,aS a.len l,a.z⟩
theorem M4{X:List eY}(hl:X.length<=4)(b:∀a∈X,PD a):M5 ⟨ug,X⟩:=by
 refine⟨⟨⟨by simp[ug],by simp only;omega,λa ht=>⟨by have:=(b a ht).1;omega,by have:=(b a ht).2.1;omega⟩⟩,?_,λa ht=>(b a ht).2.2,7,by simp[ug],by simp[ug,qV]⟩,by simp[ug],by simp[ug],⟨1,0,[113],2,0,[]⟩,by simp[ug],rfl,rfl⟩
 have d:∀X:List eY,(∀a∈X,PD a)->oR X<=X.length*100000:=by
  intro X
  induction X with
  |nil=>intro _;simp[oR]
  |cons e X c=>
   intro b
   have f:=c λa ht=>b a (by simp[ht])
   have g:=(b e (by simp)).2.1
   unfold oR at*
   simp only[aU,List.sum_cons,aZ];omega
 have:=d X b
 unfold oR at this
 simp only;omega
theorem S3{b:H}{a c:T}(i:SL a []\/∃d e h,a= .arr d e 0 h false)(f:nS a=true)(g:b.iy c=some []):iu cx b 172 172 a c=some (.val a b):=by
 unfold iu oF mf
 rw[xK,dD,dD]
 simp only[show EV.u= .slice 211 from rfl,xJ,g,dD]
 show(fy (fits _ []) (iV (fy (nS a) (some (a,b)))))=_
 rw[f];rfl
theorem Th.app{o:List Int}{c f:H}{i:List Nat}{h p n m:Nat}{l x:T}{xs:List T}{r l2:List du}(b:Th o c i h p f l m r)(v:f.iy x=some xs)(s:gG (FT f (Nw (c.size+1) f.size f 2 l) 8) xs (l2.map du.t))(K:∀j∈l2,MS j/\j.w<=wd 2)(U:l2.length<=n)(S:p+n<=1000):
 ∃e a,iu cx f 172 172 l x=some (.val e a)/\a.get c.size=f.get c.size/\e.fT=true/\e.cells=[e]/\Th o c i h (p+n) (dI a c.size ⟨4,0,m+1,true,false,[.agg [.str i,.int .i64 0,.arr h 0 0 2 false,e]]⟩) e (m+1) (r++l2):=by
 have fin:∀e a,SV (c.size+1) a.size a 2 6 e (r++l2)->Mk o 0 a 2 1->Step 2 c a->Lb 2 a c.size ⟨4,0,m,true,false,[.agg [.str i,.int .i64 0,.arr h 0 0 2 false,l]]⟩->Th o c i h (p+n) (dI a c.size ⟨4,0,m+1,true,false,[.agg [.str i,.int .i64 0,.arr h 0 0 2 false,e]]⟩) e (m+1) (r++l2):=λe a M D N g=>
  ⟨by rw[fc];exact M.uf g (.inl (cS _)) _,D.uf g _,Step.uf D.ok g _ _ N (au _),⟨(dy g.get _ _).trans (aq rfl),by rw[iH (show(dI a c.size _).get 2=a.get 2 by rw[dy g.get,ao (br g.ne)])];exact g.nf⟩,λj I=>(List.mem_append.1 I).elim (b.ms j) (K j),by rw[aP];have:=b.len;omega,b.z⟩
 by_cases B:xs=[]
 ·subst B
  have:l2=[]:=by cases l2 with|nil=>rfl|cons=>cases s
  subst this
  obtain⟨R,u,_⟩:=b.sv
  refine⟨l,f,?_,rfl,u.fT,u.cells,fin l f (by rw[bL];exact b.sv) b.k b.st b.l8⟩
  rcases u with⟨rfl,rfl⟩|⟨P,Q,_,_,_,rfl,_⟩
  ·exact S3 (.inl (QW _ _)) rfl v
  ·exact S3 (.inr ⟨_,_,_,rfl⟩) rfl v
 have E:∀q∈xs,q.cells.length=11:=λq F=>by
  obtain⟨V,G,J⟩:=s.Nz F
  obtain⟨j,_,rfl⟩:=List.mem_map.1 G
  exact FT.stmt (d:=8) J
 obtain⟨e,a,q,y,L,O,C⟩:=b.sv.app b.k (by have:=b.l8.lt;omega) (au _) v s E B (by have:=b.len;omega)
 have A:=C c.size (cS _)
 refine⟨e,a,q,A,y.gc.1,y.gc.2,fin e a y L (O c b.st (by omega)) ⟨A.trans b.l8.get,?_⟩⟩
 rw[iH (C 2 (by have:=b.z;omega))];exact b.l8.nf
theorem ZX{z:List Int}{F b d:H}{m:List Nat}{e Z L G i:Nat}{x K:T}{v:List du}{n:List (List Nat×T×T)}{l:List eY}(g:Th z F m e 7 b x Z v)(V:Lb 2 b 0 Cz)(S:Lb 2 b 4 A3)
 (o:Lb 2 b e ⟨1,0,0,true,false,[.str [97],.str [98]]⟩) (X:qY d 3 2 L [(sl (ug.map f6.t),none),(K,some (4,(n++[(m,T.arr e 0 0 2 false,x)]).map VQ))]) (f:Step 3 b d) (M:gG (FT b (PgV i b) 10) (n.map VQ) (l.map eY.t)) (P:∀w∈l,PD w)
 (B:∀a,Fp b 3 a->a=3\/4<a) (A:∀a,Fp b 3 a->¬Fp b 2 a) (al:l.length=G) (N:∀a,Fp b 3 a->a<i\/a=3) (ae:4<i) (an:i<=F.size) (O:4<e/\i<=e):Rd z d (G+1):=by
 have ap:=g.l8.lt
 have Y:b.size<=d.size:=f.ok.sz
 have U:gh 0 d:=⟨f.ok.hp,f.ok.low,aw _⟩
 have D:∀a,Fp b 2 a->d.get a=b.get a:=λa c=>f.get a (g.k.fp a c) λq=>A a q c
 have p:=D 2 (.inl rfl)
 have R:∀a,a<=4->a≠3->¬Fp b 3 a:=λa j h q=>(B a q).elim h λq=>by omega
 have J:∀a y,Lb 2 b a y->a<=4->a≠3->Lb 2 d a y:=λa y u j h=>⟨(f.get a u.lt (R a j h)).trans u.get,by rw[iH p];exact u.nf⟩
 have s:∀a,4<a->a<b.size->¬Fp b 2 a->¬Fp b 3 a->PgV d.size d a/\d.get a=b.get a:=λa j h E r=>⟨⟨j,by omega,by rw[iH p];exact E,λq=>(f.fp a q).elim r λq=>by omega⟩,f.get a h r⟩
 have C:∀a,Fp b 3 a->a<i\/a=3:=λa c=>N a c
 refine⟨g.k.same U Y D,⟨L,K,n++[(m,T.arr e 0 0 2 false,x)],l++[⟨m,0,[[97],[98]],v⟩],X,?_,by simp;omega,λw ht=> ?_,λa c=> ?_,λa c q=> ?_⟩,J 0 _ V (by omega) (by omega),J 4 _ S (by omega) (by omega)⟩
 ·rw[List.map_append,List.map_append]
  refine gG.append (M.ft λa c=>s a c.1 (by have:=c.2.1;omega) c.2.2.1 c.2.2.2) (.cons ?_ .nil)
  have I:=s e O.1 o.lt o.nf λq=>(C e q).elim (λq=>by omega) λq=>by omega
  refine .inr (.inr ⟨_,_,rfl,.cons (jH ..) (.cons (fJ ..) (.cons (.inr (.inl ⟨e,0,0,2,false,[.str [97],.str [98]],[.str [97],.str [98]],rfl,I.1,?_,.cons (jH ..) (.cons (jH ..) .nil),rfl⟩)) (.cons (g.sv.ft.mono λa c=>s a (by have:=c.1;omega) c.2.1 c.2.2.1 λq=>(C a q).elim (λq=>by have:=c.1;omega) λq=>by have:=c.1;omega) .nil))),rfl⟩)
  rw[fH,I.2,o.get];simp
 ·rcases List.mem_append.1 ht with q|q
  ·exact P w q
  ·rw[List.mem_singleton.1 q]
   refine⟨by simp,?_,λW Q=>(g.ms W Q).1⟩
   have j:=vL g.ms
   have h:=g.len
   have E:v.length*wd 2<=7*wd 2:=aV _ h
   have r:wd 2=10000:=rfl
   simp only;omega
 ·rcases f.fp a c with q|q
  ·exact B a q
  ·exact .inr (by omega)
 ·rw[iH p]at q
  rcases f.fp a c with k|k
  ·exact A a k q
  ·have:=g.k.fp a q;omega
theorem MP:nZ Tryz.prog cx 77 (λI:List Int=>[sl (I.map (T.int .u8))]) okB (λI r=>∃p:ez,r=p.t/\M5 p/\p.dp.length<=100):=by
 refine jk (tb:=⟨pt [(117,yl),(120,Fb),(119,HC),(93,jw.jl)],ht [(63,jM xW tz qB),(118,TO 11)]⟩) dX dU (iN 2535301804919368649890680801277 [(15,[(1,7),(1,9)])] Tryz.func77) (λ_=>1000) (λa b e=>by simp at e;exact ja (λ_ _ e=>by simpa using e) e) (by simp) (by simp[Tryz.f77]) ?_
 rintro I bs c eh
 simp at eh
 simp[Tryz.f77,eh,Ol]
 generalize u:(((H.cons (H.cons hE _) _).cons _).cons _:H)=hj
 obtain⟨cp,gB,gQ,hg⟩:=Po I u.symm
 clear u
 refine qS (by simp) cp.tp cp.ok (by omega) (by omega) bs λbv l hy t2 eF=> ?_
 obtain⟨aN,eN⟩:=cp.tape eF t2
 have gE:=gB.step eN (by omega)
 have eX:l.size=4:=eF.size.trans hg
 have e5:binop .add (.int .i64 2) (.int .i64 bv)=some (.int .i64 ((2+bv:Nat):Int)):=by rw[fQ (by omega) (by omega)];simp
 simp[e5,eX]
 have hC:2+bv<=4:=by omega
 generalize ca:2+bv=n at*
 refine eQ n (by omega) (λj c e=>Rd I e j/\TI.dt c 2=some (.ptr 0 0 0 0)/\TI.dt c 3=some (.ptr 2 0 0 0)/\TI.dt c 4=some (.ptr 3 0 0 0)/\TI.dt c 5=some (.int .i64 n)/\TI.dt c 6=some (.arr 4 0 0 4 false)/\TI.dt c 7=some (.int .i64 j)) ?_ ?_ (by omega) ?_
 ·rintro j c e fL fo ⟨⟨aE,bz,a7,nm⟩,l,B,o,C,D,h⟩
  obtain⟨bB,g,left,set,c6,bN,ce,ey,bu,A,av,hl⟩:=aE.ex
  obtain⟨ae,N⟩:=aE.set (th':=j) (left':=left) (se':=set) (tx':=c6) (at2:=bN) (lp':=ce) A av hl
  have cL:=nm.step ae
  have eE:=a7.step ae
  simp only[rf]at A ae N cL eE
  have fA:j<4:=by omega
  obtain⟨Z,gi⟩:∃s,Wh[j]? =some s:=⟨Wh[j]'(by show j<4;omega),aB (by show j<4;omega)⟩
  simp[B,C,D,h,fL,A,dG]
  generalize dI e 2 _=i at*
  have dn:=cL.get
  unfold A3 at dn
  have fE:i.low<=i.size+1:=Nat.le_succ_of_le N.ok.low
  simp[h,dn,gi,fA,fE]
  have hD:=N.lt
  have cX:=Step.cons N.ok N.lt ⟨1,0,0,true,false,[.str [97],.str [98]]⟩
  have aX:=N.cons ⟨1,0,0,true,false,[.str [97],.str [98]]⟩
  have gm:=Lb.new N.lt N.fp ⟨1,0,0,true,false,[.str [97],.str [98]]⟩
  have a8:=ae.trans cX
  have O:Th I (i.cons ⟨1,0,0,true,false,[.str [97],.str [98]]⟩) Z i.size 0 ((i.cons ⟨1,0,0,true,false,[.str [97],.str [98]]⟩).cons ⟨4,0,1,true,false,[.agg [.str Z,.int .i64 0,.arr i.size 0 0 2 false,.dq [] false]]⟩) (.dq [] false) 1 []:=
   ⟨SV.nil _ _ _ _ _,aX.cons _,Step.cons aX.ok aX.lt _,by simpa using Lb.new aX.lt aX.fp ⟨4,0,1,true,false,[.agg [.str Z,.int .i64 0,.arr i.size 0 0 2 false,.dq [] false]]⟩,by simp,by simp,by simp;omega⟩
  have fv:i.size+1=(i.cons ⟨1,0,0,true,false,[.str [97],.str [98]]⟩).size:=rfl
  simp only[fv]
  generalize hs:i.cons ⟨1,0,0,true,false,[.str [97],.str [98]]⟩=F at*
  refine m6 (λc R=>∃v bB Y,Th I F Z i.size 3 R v bB Y/\TI.dt c 2=some (.ptr 0 0 0 0)/\TI.dt c 3=some (.ptr 2 0 0 0)/\TI.dt c 4=some (.ptr 3 0 0 0)/\TI.dt c 5=some (.int .i64 n)/\TI.dt c 6=some (.arr 4 0 0 4 false)/\TI.dt c 7=some (.int .i64 j)/\TI.dt c 8=some (.ptr F.size 0 0 0)) (λu=> ?_) (λu=> ?_) ?_
  ·simp
   refine mF n (λk c R=>1<=k/\(∃v bB Y,Th I F Z i.size (k-1) R v bB Y/\TI.dt c 2=some (.ptr 0 0 0 0)/\TI.dt c 3=some (.ptr 2 0 0 0)/\TI.dt c 4=some (.ptr 3 0 0 0)/\TI.dt c 5=some (.int .i64 n)/\TI.dt c 6=some (.arr 4 0 0 4 false)/\TI.dt c 7=some (.int .i64 j)/\TI.dt c 8=some (.ptr F.size 0 0 0))/\TI.dt c 9=some (.int .i64 k)) ?_ (by omega) (k:=1) (by omega) ⟨au _,⟨_,_,_,O,by simp[l,B,o,C,D,h]⟩,by simp⟩
   rintro k c R hv ⟨fB,⟨v,eV,Y,g,l,B,o,C,D,h,J⟩,eb⟩
   have W:=g.l8.get
   have gv:=(nm.step a8).step g.st
   have ds:=gv.get
   unfold A3 at ds
   have hB:decide ((k:Int)<n)=decide (k<n):=by rw[decide_eq_decide];omega
   simp[C,eb]
   refine dM (λu=> ?_) (λu=> ?_)
   ·have ca:k<n:=by simpa using u
    have fC:k<4:=by omega
    obtain⟨a6,gg⟩:∃s,Wh[k]? =some s:=⟨Wh[k]'(by show k<4;omega),aB (by show k<4;omega)⟩
    have bp:=g.cons ⟨11,0,0,true,false,[TB 12 a6]⟩
    obtain⟨eU,b7,M,gA,al,an,P⟩:=bp.app (x:= .arr R.size 0 0 1 false) (xs:=[TB 12 a6]) (l2:=[Kj 12 a6]) (n:=1) (by rw[fH];simp) (.cons (Sc 12 a6 6) .nil) (by simp[Sb (k:=12) (nm:=a6) (.inl rfl)]) (by simp) (by omega)
    have b6:=gA.trans bp.l8.get
    have ea:(F.size=R.size)=False:=by have:=g.l8.lt;simp;omega
    simp only[TB]at M
    simp[D,J,eb,ds,gg,fC,W,M,b6,dG,al,an]
    have e9:binop .add (.int .i64 (k:Int)) (.int .i64 1)=some (.int .i64 ((k+1:Nat):Int)):=by rw[fQ (by omega) (by omega)];simp
    simp[l,B,o,C,D,h,J,e9]
    exact⟨k+1,by omega,by omega,by omega,⟨eU,_,_,by rw[show k+1-1=k-1+1 by omega];exact P⟩,by simp⟩
   ·have ca:k=n:=by simp at u;omega
    subst ca
    simp[l,B,o,C,D,h,J]
    exact⟨v,eV,Y,g.sv,g.k,g.st,g.l8,g.ms,by have:=g.len;omega,g.z⟩
  ·simp[l,B,o,C,D,h]
   exact⟨_,_,_,O.sv,O.k,O.st,O.l8,O.ms,by have:=O.len;omega,O.z⟩
  ·rintro c R ⟨v,eV,Y,g,l,B,o,C,D,h,J⟩
   have W:=g.l8.get
   obtain⟨hd,th',left,gX,c6,bN,ce,ey,bu,A,av,hl⟩:=g.k.ex
   simp only[rf]at A
   simp[B,J,W,A]
   clear A av hl
   refine ID (by simp) g.k.tp g.k.ok (by omega) (by omega) bs λaA b8 fB eS eH=> ?_
   obtain⟨eB,eO⟩:=g.k.tape eH eS
   have bk:=g.step eO eB
   have bT:binop .add (.int .i64 1) (.int .i64 aA)=some (.int .i64 ((1+aA:Nat):Int)):=by rw[fQ (by omega) (by omega)];simp
   have ha:=ee (bk.l8.get.trans W.symm)
   simp[bT,ha]
   refine kA (adg 11) (by simp) ⟨I,2,1,0,2,1+aA⟩ ⟨⟨by simp,eB,bs,by simp,by simp,by simp only;omega⟩,by simp⟩ ?_
   rintro w hE ⟨l2,bi,er,fY,eC,c1⟩
   simp only at bi er fY eC c1
   have c4:=bk.step c1 eC
   obtain⟨hh,dk,dd,gP⟩:=bi
   have hJ:=bk.l8.lt
   obtain⟨eU,b7,M,gA,al,an,P⟩:=c4.app (n:=3) dk.iy (dd.ft λQ K=>⟨⟨by have:=K.1;omega,K.2.1,K.2.2.1,bk.sv.box (by have:=K.1;omega)⟩,rfl⟩) er (by omega) (by omega)
   have bi:=ee (c4.l8.get.trans bk.l8.get.symm)
   have dm:=gA.trans c4.l8.get
   have eR:=ee gA
   clear gA eH eO c1 eS dd dk gP
   cases eo:decide (j=0)
   case' false=>
    simp[o,h,J,M,dm,eR,bi,dG,al,an,eo]
    generalize dI b7 F.size _=S at*
    obtain⟨c7,eW,eA,G⟩:=P.more (m:=7) (by omega)
   case' true=>
    simp[B,h,J,M,dm,eR,bi,dG,al,an,eo]
    generalize dI b7 F.size _=S at*
    obtain⟨hd,th',left,gX,c6,bN,ce,ey,bu,A,av,hl⟩:=P.k.ex
    simp only[rf]at A
    simp[A]
    clear A av hl
    refine qS (by simp) P.k.tp P.k.ok (by omega) (by omega) bs λgk b9 hA hb gV=> ?_
    obtain⟨gn,gZ⟩:=P.k.tape gV hb
    have bn:=P.step gZ gn
    have fe:=bn.l8.get
    have eu:=((nm.step a8).step bn.st).get
    unfold A3 at eu
    simp
    refine dM (λu=> ?gy) (λu=> ?gz)
    case' gz=>
     simp
     generalize b9=S at*
     obtain⟨c7,eW,eA,G⟩:=bn.more (m:=7) (by omega)
    case' gy=>
     have bp:=bn.cons ⟨11,0,0,true,false,[TB 13 [116,49]]⟩
     obtain⟨hH,fl,M,gA,al,an,hc⟩:=bp.app (x:= .arr b9.size 0 0 1 false) (xs:=[TB 13 [116,49]]) (l2:=[Kj 13 [116,49]]) (n:=1) (by rw[fH];simp) (.cons (Sc 13 [116,49] 6) .nil) (by simp[Sb (k:=13) (nm:=[116,49]) (.inr rfl)]) (by simp) (by omega)
     have b6:=gA.trans bp.l8.get
     have ea:(F.size=b9.size)=False:=by have:=bn.l8.lt;simp;omega
     have fX:Wh[1]? =some [116,49]:=rfl
     simp only[TB]at M
     simp[o,D,J,eu,fX,fe,M,b6,dG,al,an]
     generalize dI fl F.size _=S at*
     obtain⟨c7,eW,eA,G⟩:=hc.more (m:=7) (by omega)
   all_goals
    have gI:=bz.step (a8.trans G.st) (au _)
    have gS:=(eE.step cX).step G.st
    have gw:=(cL.step cX).step G.st
    have W:=G.l8.get
    have e0:=gm.step G.st
    obtain⟨hf,de,E,X,L,ap,ef,cb,bX,di⟩:=gI
    have V:=L.get
    simp at V
    have ea:(F.size=S.size)=False:=by have:=G.l8.lt;simp;omega
    have fb:∀Q,Fp S 3 Q->Q<e.size:=λQ K=>by
     obtain⟨_,_,_,_,eL,_,_,_,_,e4⟩:=bz
     have e6:S.get 3=e.get 3:=(a8.trans G.st).get 3 eL.lt (e4 3 (.inl rfl))
     rw[iH e6]at K;exact eL.fp Q K
    have hn:(3=S.size)=False:=by have:=L.lt;simp;omega
    have ho:E.length=j:=by have:=ap.length;simp at this;omega
    obtain⟨hI,hq,eT,c9⟩:=(L.gr 1 rfl).nY (cx:=cx) (f:=VQ) L.ok Qu rfl Qo rfl (by simp) (λx=>rfl) (Z,.arr i.size 0 0 2 false,c7) (by simp;omega)
    obtain⟨eD,hG,gM⟩:=L.app 1 rfl c9
    obtain⟨eP,eM⟩:=gM _ rfl
    simp at eD eP eM
    simp only[VQ]at eT
    simp[l,B,o,C,D,h,J,V,W,eT,eD,dG,c9.1.fT,c9.1.cells,fo]
    exact ZX G gS gw e0 eM eP ap cb bX di ef (λQ K=> .inl (fb Q K)) (by have:=nm.lt;omega) (by have:=a8.ok.sz;omega) ⟨by have:=nm.lt;have:=ae.ok.sz;omega,ae.ok.sz⟩
 ·rintro c e ⟨⟨aE,bz,a7,nm⟩,l,B,o,C,D,h⟩
  obtain⟨hf,de,E,X,L,ap,ef,cb,bX,di⟩:=bz
  have V:=L.get
  simp at V
  have U:=a7.get
  unfold Cz at U
  have b8:=M4 (X:=X) (by omega) cb
  have e7:=(L.gr 1 rfl).Gl (d:=10) (by omega) ap
  have bT:=λ{tb:eG} (ht:tb.p 93=some jw.jl)=>c04 ht ⟨ug,X⟩ b8.1
  simp[o,C,h,V,e7,bT]
  have gp:(0=e.size)=False:=by have:=a7.lt;simp;omega
  have dv:∀y,(dI e 0 y).get 0=some y:=λy=>(dy U y 0).trans (aq rfl)
  refine dM (λu=> ?_) (λu=> ?_)
  ·have aA:(e.size=e.size+1+1)=False:=by simp<;>omega
   have gk:(e.size+1=e.size+1+1)=False:=by simp
   have hF:(e.size=e.size+1)=False:=by simp
   simp[l,U,Ol,QH,rg,gp,dv,dG,a7.lt,fH,wN,dH,aA]
   have fS:∀t∈ [(⟨[109,97,105,110],0,[[97],[98]],[B6 [120] [] ⟨1,1,[],[]⟩]⟩:eY)],PD t:=λt ht=>by
    rw[List.mem_singleton.1 ht]
    have gj:(B6 [120] [] ⟨1,1,[],[]⟩).w<=wd 0:=JX (by rw[dC.il];omega) (by rw[dC.kJ];simp[dC.il])
    refine⟨by simp,?_,λs bu=> ?_⟩
    ·simp only[du.jA,du.il];unfold wd at gj;omega
    ·rw[List.mem_singleton.1 bu];exact BT (by simp) (.num 1) (λq=>absurd rfl q)
   exact⟨⟨⟨ug,[⟨[109,97,105,110],0,[[97],[98]],[B6 [120] [] ⟨1,1,[],[]⟩]⟩]⟩,rfl,M4 (by simp) fS,by simp⟩,aE.ok.hp⟩
  ·have l3:Lb 3 e 0 ⟨2,0,0,true,false,[.agg [.dq [] false,.dq [] false]]⟩:=⟨U,λq=>(bX 0 q).elim (by omega) (by omega)⟩
   have e8:=((L.uf l3 ⟨2,0,1,true,false,[.agg [sl (ug.map f6.t),de]]⟩).gr 1 rfl).Gl (d:=10) (by omega) (ap.ft (V':=λ_=>True) λb fs=>⟨trivial,by rw[dy U,ao (by have:=fs.1;omega)]⟩)
   simp[l,o,V,U,dG,dv,e8]
   exact⟨⟨⟨ug,X⟩,rfl,b8,by simp only;omega⟩,aE.ok.hp⟩
 ·have eI:=Step.cons aN.ok aN.lt A3
  have et:=Lb.new aN.lt aN.fp A3
  rw[eX]at et
  simp
  exact⟨⟨aN.cons _,(gE.step eI (by omega)).wide (by simp;omega),(gQ.step eN).step eI,et⟩,by omega⟩
end
end Go.Proofs.YtmaeadedikngoaaGreatDoor
