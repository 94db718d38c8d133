/- Texts W01f to W01f. -/
import Derived.Test.YtmaeadedikngoaaGreatDoorA34
set_option linter.unusedVariables false
set_option linter.unusedSimpArgs false
set_option linter.defProp false
set_option maxRecDepth 100000
set_option maxHeartbeats 8000000
namespace Go.Proofs.YtmaeadedikngoaaGreatDoor
noncomputable section
open Go Go.TI
attribute [-simp] List.map_take List.map_drop List.map_append fj eG dY Bool.not_or Bool.not_and
attribute [simp] fh eJ
attribute [-simp] size_cons
def VR(a:List Nat×T×T):T:= .agg [.str a.1,dw 0,a.2.1,a.2.2]
def Qz(a:fD):Prop:=a.locals.length<=10/\dG.ws a.body<=100000/\∀b∈a.body,MS b
def PgV(c:Nat)(b:H)(a:Nat):Prop:=4<a/\a<c/\¬Fp b 2 a/\¬Fp b 3 a
def Pg(e:Nat)(b:H)(f:Nat):Prop:=∃h a,∃d:List (List Nat×T×T),∃c:List fD,m9 b 3 2 h [(sl (uA.map gG.t),none),(a,some (4,d.map VR))]/\
 io (FT b (PgV e b) 10) (d.map VR) (c.map fD.t)/\c.length=f/\(∀g∈c,Qz g)/\(∀a,Fp b 3 a->a=3\/4<a)/\∀a,Fp b 3 a->¬Fp b 2 a
def Pg.step{f j:Nat}{b e:H}(r:Pg f b j)(c:Step 2 b e)(x:f<=b.size):Pg f e j:=by
 obtain⟨w,d,m,n,l,o,s,t,u,k⟩:=r;obtain⟨v,p⟩:=l.other k c;have h:e.get 3=b.get 3:=c.get 3 l.lt (k 3 (.inl rfl));refine⟨w,d,m,n,v,o.ft λg a=>⟨⟨a.1,a.2.1,λq=> ?_,by rw[iE h];exact a.2.2.2⟩,c.get g (by have:=a.2.1;omega) a.2.2.1⟩,s,t,λd i=>by rw[iE h]at i;exact u d i,p⟩;rcases c.fp g q with q|q
 ·exact a.2.2.1 q
 ·have:=a.2.1;omega
def Pg.wide{c d e:Nat}{b:H}(j:Pg c b e)(o:c<=d):Pg d b e:=by
 obtain⟨m,i,f,g,l,h,k⟩:=j;exact⟨m,i,f,g,l,h.ft λn a=>⟨⟨a.1,by have:=a.2.1;omega,a.2.2⟩,rfl⟩,k⟩
def V9:List (List Nat):=[[109,97,105,110],[116,49],[116,50],[116,51]]
def BB:iJ:=⟨1,0,0,true,false,V9.map T.str⟩
def Dx:iJ:=(dy 2 0 [.agg [dx,dx]])
structure Rd(L:List Int)(h:H)(i:Nat):Prop where
 k:Mk L 0 h 2 1
 pg:Pg h.size h i
 re:Lb 2 h 0 Dx
 nm:Lb 2 h 4 BB
def Qk(i:List Int){c:H}(d:c=((((hE.cons Dx).cons (dy 2 0 [.agg [sl (i.map (T.int .u8)),dw 0]])).cons (dy 8 0 [.agg (rx 1 0 20 false false false false dx)])).cons (dy 2 1 [.agg [sl (uA.map gG.t),dx]]))):
 Mk i 0 c 2 1/\Pg 4 c 0/\Lb 2 c 0 Dx/\c.size=4:=by
 have m:gu 0 c:=by subst d;exact⟨dp,dp,dp⟩
 have k:c.get 2=some (dy 8 0 [.agg (rx 1 0 20 false false false false dx)]):=by subst d;simp
 have f:∀a,Fp c 2 a->a=2\/a=1:=by
  rintro a (rfl|⟨p,g,o,l,b⟩)
  ·exact .inl rfl
  ·rw[k]at g;simp only[ar]at g;subst g;simp[eQ,T.cells,rx]at l;rcases l with rfl|rfl|rfl|rfl|rfl|rfl|rfl|rfl<;>first|(have b:(none:aa Nat)=some a:=b;simp at b;done)|(have b:some 1=some a:=b;simp at b;exact .inr b.symm)
 obtain⟨n,j⟩:=m9.start (h:=c) (w:=3) (szw:=2) (ver:=1) (F:=[(sl (uA.map gG.t),none),(dx,some (4,[]))]) m (by subst d;simp) dp;refine⟨⟨m,λa e=> ?_,⟨0,0,by subst d;simp,Int.le_refl _⟩,0,0,20,false,false,false,false,dx,[],k,Gr.nil _ _,rfl⟩,⟨1,dx,[],[],n,.nil,rfl,dp,λa e=> .inl (j a e),λa e b=> ?_⟩,⟨by subst d;simp[Dx],λb=> ?_⟩,by subst d;simp⟩
 ·have:=f a e;subst d;simp;omega
 ·have:=f a b;have:=j a e;omega
 ·have:=f 0 b;omega
def KN(a:Int)(b:List Nat):dG:=⟨a,0,b,[],[],⟨0,0,[],[]⟩,[],[]⟩
def TR(a:Int)(b:List Nat):T:= .agg [dw a,dw 0,.str b,.str [],dx,dw 0,dw 0,.str [],dx,dx,dx]
def Sr{e:H}{c:Nat->Prop}(a:Int)(b:List Nat)(d:Nat):FT e c (d+2) (TR a b) (KN a b).t:=
 .inr (.inr ⟨_,(KN a b).cs,rfl,.cons (fR ..) (.cons (fR ..) (.cons (jR ..) (.cons (jR ..) (.cons (iQ ..) (.cons (fR ..) (.cons (fR ..) (.cons (jR ..) (.cons (iQ ..) (.cons (iQ ..) (.cons (iQ ..) .nil)))))))))),dG.mP _⟩)
def Sq{k:Int}{nm:List Nat}(d:k=12\/k=13):MS (KN k nm)/\(KN k nm).w<=wd 2:=by
 refine⟨.mk (λa=>by unfold KN at a;simp at a;omega) (λa=>by unfold KN at a;simp at a;omega) (λc b=>by unfold KN at b;simp at b) (λa=>by unfold KN at a;simp at a;omega) (λc b=>by unfold KN at b;simp at b) (λc b=>by unfold KN at b;simp at b),?_⟩;rw[dG.kP,dK.kP];unfold KN wd;simp only[dG.qU,dG.IY,dG.ul,dG.xg,dG.iz,dK.iz,dK.EI];omega
def FT.stmt{i:H}{g:Nat->Prop}{d:Nat}{c:T}{f:dG}(b:FT i g d c f.t):c.cells.length=11:=by
 cases d with
 |zero=>exact b.elim
 |succ d=>
  rw[f.mP]at b;rcases b with⟨j,k,a⟩|⟨_,_,_,_,_,_,h,_,_,_,_,a⟩|⟨e,n,rfl,l,a⟩
  ·cases c<;>first|exact absurd rfl (k _)|(rw[mL]at a;rename_i m b;cases m<;>simp[sl]at a;done)|(simp at a;done)|(simp[jE]at j;done)
  ·cases h<;>simp[sl]at a
  ·simp only[T.agg.injEq]at a;subst a;rw[show(T.agg e).cells=e from rfl,l.length];rfl
structure Th(L:List Int)(hC:H)(nm:List Nat)(bl cnt:Nat)(h:H)(v:T)(ver:Nat)(l:List dG):Prop where
 sv:SV (hC.size+1) h.size h 2 6 v l
 k:Mk L 0 h 2 1
 st:Step 2 hC h
 l8:Lb 2 h hC.size (dy 4 ver [.agg [.str nm,dw 0,.arr bl 0 0 2 false,v]])
 ms:∀s∈l,MS s/\s.w<=wd 2
 len:l.length<=cnt
 z:2<hC.size
def Th.cons{d:List Int}{h g:H}{j:List Nat}{e f m:Nat}{l:T}{i:List dG}(a:Th d h j e f g l m i)(c:iJ):Th d h j e f (g.cons c) l m i:=by
 have b:=Step.cons a.k.ok a.k.lt c;exact⟨(a.sv.step b (au _)).wide (au _) dp,a.k.cons c,a.st.trans b,a.l8.step b,a.ms,a.len,a.z⟩
def Th.step{c:List Int}{h g d:H}{j:List Nat}{e f l:Nat}{k:T}{i:List dG}(a:Th c h j e f g k l i)(b:Step 2 g d)(m:Mk c 0 d 2 1):Th c h j e f d k l i:=
 ⟨(a.sv.step b (au _)).wide (au _) b.ok.sz,m,a.st.trans b,a.l8.step b,a.ms,a.len,a.z⟩
def Th.more{e:List Int}{i h:H}{j:List Nat}{f g m d:Nat}{c:T}{b:List dG}(a:Th e i j f g h c d b)(l:g<=m):∃c d b,Th e i j f m h c d b:=⟨c,d,b,a.sv,a.k,a.st,a.l8,a.ms,aS a.len l,a.z⟩
def NQ{X:List fD}(hl:X.length<=4)(b:∀a∈X,Qz a):NR ⟨uA,X⟩:=by
 refine⟨⟨⟨by simp[uA],dt,λa ht=>⟨by have:=(b a ht).1;omega,by have:=(b a ht).2.1;omega⟩⟩,?_,λa ht=>(b a ht).2.2,7,by simp[uA],by simp[uA,rj]⟩,by simp[uA],by simp[uA],⟨1,0,[113],2,0,[]⟩,by simp[uA],rfl,rfl⟩;have d:∀X:List fD,(∀a∈X,Qz a)->o7 X<=X.length*100000:=by
  intro X;induction X with
  |nil=>intro _;simp[o7]
  |cons e X c=>
   intro b;have f:=c λa ht=>b a (by simp[ht]);have g:=(b e dp).2.1;unfold o7 at*
   simp only[aR,List.sum_cons,aZ];omega
 have:=d X b;unfold o7 at this;simp only;omega
def Tl{b:H}{a c:T}(i:SL a []\/∃d e h,a= .arr d e 0 h false)(f:oa a=true)(g:b.jc c=some []):iK cx b 172 172 a c=some (.val a b):=by
 unfold iK pN mY;rw[yi,dO,dO];simp only[show FM.u= .slice 211 from rfl,yg,g,dO];show(fP (fits _ []) (jl (fP (oa a) (some (a,b)))))=_;rw[f];rfl
def Th.app{o:List Int}{c f:H}{i:List Nat}{h p n m:Nat}{l x:T}{xs:List T}{r l2:List dG}(b:Th o c i h p f l m r)(v:f.jc x=some xs)(s:io (FT f (Nw (c.size+1) f.size f 2 l) 8) xs (l2.map dG.t))(K:∀j∈l2,MS j/\j.w<=wd 2)(U:l2.length<=n)(S:p+n<=1000):
 ∃e a,iK cx f 172 172 l x=some (.val e a)/\a.get c.size=f.get c.size/\e.gD=true/\e.cells=[e]/\Th o c i h (p+n) (dQ a c.size (dy 4 (m+1) [.agg [.str i,dw 0,.arr h 0 0 2 false,e]])) e (m+1) (r++l2):=by
 have fin:∀e a,SV (c.size+1) a.size a 2 6 e (r++l2)->Mk o 0 a 2 1->Step 2 c a->Lb 2 a c.size (dy 4 m [.agg [.str i,dw 0,.arr h 0 0 2 false,l]])->Th o c i h (p+n) (dQ a c.size (dy 4 (m+1) [.agg [.str i,dw 0,.arr h 0 0 2 false,e]])) e (m+1) (r++l2):=λe a M D N g=>
  ⟨by rw[fG];exact M.rn g (.inl (cW _)) _,D.rn g _,Step.rn D.ok g _ _ N (au _),⟨(dE g.get _ _).trans (aq rfl),by rw[iE (show(dQ a c.size _).get 2=a.get 2 by rw[dE g.get,ao (bg g.ne)])];exact g.nf⟩,λj I=>(List.mem_append.1 I).elim (b.ms j) (K j),by rw[bh];have:=b.len;omega,b.z⟩
 by_cases B:xs=[]
 ·subst B;have:l2=[]:=by cases l2 with|nil=>rfl|cons=>cases s
  subst this;obtain⟨R,u,_⟩:=b.sv;refine⟨l,f,?_,rfl,u.gD,u.cells,fin l f (by rw[cg];exact b.sv) b.k b.st b.l8⟩;rcases u with⟨rfl,rfl⟩|⟨P,Q,_,_,_,rfl,_⟩
  ·exact Tl (.inl (RN _ _)) rfl v
  ·exact Tl (.inr ⟨_,_,_,rfl⟩) rfl v
 have E:∀q∈xs,q.cells.length=11:=λq F=>by
  obtain⟨V,G,J⟩:=s.GE F;obtain⟨j,_,rfl⟩:=List.mem_map.1 G;exact FT.stmt (d:=8) J
 obtain⟨e,a,q,y,L,O,C⟩:=b.sv.app b.k (by have:=b.l8.lt;omega) (au _) v s E B (by have:=b.len;omega);have A:=C c.size (cW _);refine⟨e,a,q,A,y.gc.1,y.gc.2,fin e a y L (O c b.st dj) ⟨A.trans b.l8.get,?_⟩⟩;rw[iE (C 2 (by have:=b.z;omega))];exact b.l8.nf
def ZQ{z:List Int}{F b d:H}{m:List Nat}{e Z L G i:Nat}{x K:T}{v:List dG}{n:List (List Nat×T×T)}{l:List fD}(g:Th z F m e 7 b x Z v)(V:Lb 2 b 0 Dx)(S:Lb 2 b 4 BB)
 (o:Lb 2 b e (dy 1 0 [.str [97],.str [98]])) (X:m9 d 3 2 L [(sl (uA.map gG.t),none),(K,some (4,(n++[(m,T.arr e 0 0 2 false,x)]).map VR))]) (f:Step 3 b d) (M:io (FT b (PgV i b) 10) (n.map VR) (l.map fD.t)) (P:∀w∈l,Qz w)
 (B:∀a,Fp b 3 a->a=3\/4<a) (A:∀a,Fp b 3 a->¬Fp b 2 a) (al:l.length=G) (N:∀a,Fp b 3 a->a<i\/a=3) (ae:4<i) (an:i<=F.size) (O:4<e/\i<=e):Rd z d (G+1):=by
 have ap:=g.l8.lt;have Y:b.size<=d.size:=f.ok.sz;have U:gu 0 d:=⟨f.ok.hp,f.ok.low,aw _⟩;have D:∀a,Fp b 2 a->d.get a=b.get a:=λa c=>f.get a (g.k.fp a c) λq=>A a q c;have p:=D 2 (.inl rfl);have R:∀a,a<=4->a≠3->¬Fp b 3 a:=λa j h q=>(B a q).elim h λq=>by omega
 have J:∀a y,Lb 2 b a y->a<=4->a≠3->Lb 2 d a y:=λa y u j h=>⟨(f.get a u.lt (R a j h)).trans u.get,by rw[iE p];exact u.nf⟩;have s:∀a,4<a->a<b.size->¬Fp b 2 a->¬Fp b 3 a->PgV d.size d a/\d.get a=b.get a:=λa j h E r=>⟨⟨j,dj,by rw[iE p];exact E,λq=>(f.fp a q).elim r λq=>by omega⟩,f.get a h r⟩;have C:∀a,Fp b 3 a->a<i\/a=3:=λa c=>N a c;refine⟨g.k.same U Y D,⟨L,K,n++[(m,T.arr e 0 0 2 false,x)],l++[⟨m,0,[[97],[98]],v⟩],X,?_,dq,λw ht=> ?_,λa c=> ?_,λa c q=> ?_⟩,J 0 _ V dj dj,J 4 _ S dj dj⟩
 ·rw[List.map_append,List.map_append];refine io.append (M.ft λa c=>s a c.1 (by have:=c.2.1;omega) c.2.2.1 c.2.2.2) (.cons ?_ .nil);have I:=s e O.1 o.lt o.nf λq=>(C e q).elim (λq=>by omega) λq=>by omega
  refine .inr (.inr ⟨_,_,rfl,.cons (jR ..) (.cons (fR ..) (.cons (.inr (.inl ⟨e,0,0,2,false,[.str [97],.str [98]],[.str [97],.str [98]],rfl,I.1,?_,.cons (jR ..) (.cons (jR ..) .nil),rfl⟩)) (.cons (g.sv.ft.mono λa c=>s a (by have:=c.1;omega) c.2.1 c.2.2.1 λq=>(C a q).elim (λq=>by have:=c.1;omega) λq=>by have:=c.1;omega) .nil))),rfl⟩);rw[fW,I.2,o.get];simp
 ·rcases List.mem_append.1 ht with q|q
  ·exact P w q
  ·rw[List.mem_singleton.1 q];refine⟨dp,?_,λW Q=>(g.ms W Q).1⟩;have j:=wg g.ms;have h:=g.len;have E:v.length*wd 2<=7*wd 2:=aW _ h;have r:wd 2=10000:=rfl;simp only;omega
 ·rcases f.fp a c with q|q
  ·exact B a q
  ·exact .inr dj
 ·rw[iE p]at q;rcases f.fp a c with k|k
  ·exact A a k q
  ·have:=g.k.fp a q;omega
def NB:mU Tryz.prog cx 77 (λI:List Int=>[sl (I.map (T.int .u8))]) okB (λI r=>∃p:fk,r=p.t/\NR p/\p.dB.length<=100):=by
 refine iZ (tb:=⟨pt [(117,yN),(120,F3),(119,H9),(93,jH.jb)],ht [(63,jp yw tX qN),(118,T2 11)]⟩) ei eg (iL 2535301804919368649890680801277 [(15,[(1,7),(1,9)])] Tryz.func77) (λ_=>1000) (λa b e=>by simp at e;exact jt (λ_ _ e=>by simpa using e) e) dp (by simp[Tryz.f77]) ?_;rintro I bs c ef;simp at ef;simp[Tryz.f77,ef,Pi];generalize u:(((H.cons (H.cons hE _) _).cons _).cons _:H)=hc;obtain⟨ce,gn,gz,ha⟩:=Qk I u.symm;clear u;refine rf dp ce.tp ce.ok dj dj bs λbz l hn t2 eE=> ?_;obtain⟨aN,eM⟩:=ce.tape eE t2;have gp:=gn.step eM dj;have eW:l.size=4:=eE.size.trans ha;have e1:binop .add (dw 2) (dw bz)=some (dw ((2+bz:Nat):Int)):=by rw[gY dj dj];simp
 simp[e1,eW];have hs:2+bz<=4:=dj;generalize b9:2+bz=n at*
 refine fc n dj (λj c e=>Rd I e j/\dz c 2 (.ptr 0 0 0 0)/\dz c 3 (.ptr 2 0 0 0)/\dz c 4 (.ptr 3 0 0 0)/\dz c 5 (dw n)/\dz c 6 (.arr 4 0 0 4 false)/\dz c 7 (dw j)) ?_ ?_ dj ?_
 ·rintro j c e fs e9 ⟨⟨aE,bB,a7,nm⟩,l,B,o,C,D,h⟩;obtain⟨bC,g,left,set,c6,bH,cb,eu,bu,A,av,hl⟩:=aE.ex;obtain⟨ae,N⟩:=aE.set (th':=j) (left':=left) (se':=set) (tx':=c6) (at2:=bH) (lp':=cb) A av hl;have cp:=nm.step ae;have eD:=a7.step ae;simp only[rx]at A ae N cp eD;have fi:j<4:=dj;obtain⟨Z,fE⟩:∃s,V9[j]? =some s:=⟨V9[j]'(by show j<4;omega),az (by show j<4;omega)⟩;simp[B,C,D,h,fs,A,dP];generalize dQ e 2 _=i at*
  have dn:=cp.get;unfold BB at dn;have fo:i.low<=i.size+1:=Nat.le_succ_of_le N.ok.low;simp[h,dn,fE,fi,fo];have hv:=N.lt;have cL:=Step.cons N.ok N.lt (dy 1 0 [.str [97],.str [98]]);have aX:=N.cons (dy 1 0 [.str [97],.str [98]]);have fY:=Lb.new N.lt N.fp (dy 1 0 [.str [97],.str [98]]);have a8:=ae.trans cL;have O:Th I (i.cons (dy 1 0 [.str [97],.str [98]])) Z i.size 0 ((i.cons (dy 1 0 [.str [97],.str [98]])).cons (dy 4 1 [.agg [.str Z,dw 0,.arr i.size 0 0 2 false,dx]])) dx 1 []:=
   ⟨SV.nil _ _ _ _ _,aX.cons _,Step.cons aX.ok aX.lt _,by simpa using Lb.new aX.lt aX.fp (dy 4 1 [.agg [.str Z,dw 0,.arr i.size 0 0 2 false,dx]]),dp,dp,dq⟩
  have fe:i.size+1=(i.cons (dy 1 0 [.str [97],.str [98]])).size:=rfl;simp only[fe];generalize hh:i.cons (dy 1 0 [.str [97],.str [98]])=F at*
  refine lh (λc R=>∃v bC Y,Th I F Z i.size 3 R v bC Y/\dz c 2 (.ptr 0 0 0 0)/\dz c 3 (.ptr 2 0 0 0)/\dz c 4 (.ptr 3 0 0 0)/\dz c 5 (dw n)/\dz c 6 (.arr 4 0 0 4 false)/\dz c 7 (dw j)/\dz c 8 (.ptr F.size 0 0 0)) (λu=> ?_) (λu=> ?_) ?_
  ·simp;refine yt n (λk c R=>1<=k/\(∃v bC Y,Th I F Z i.size (k-1) R v bC Y/\dz c 2 (.ptr 0 0 0 0)/\dz c 3 (.ptr 2 0 0 0)/\dz c 4 (.ptr 3 0 0 0)/\dz c 5 (dw n)/\dz c 6 (.arr 4 0 0 4 false)/\dz c 7 (dw j)/\dz c 8 (.ptr F.size 0 0 0))/\dz c 9 (dw k)) ?_ dj (k:=1) dj ⟨au _,⟨_,_,_,O,by simp[l,B,o,C,D,h]⟩,dp⟩;rintro k c R hj ⟨fl,⟨v,eU,Y,g,l,B,o,C,D,h,J⟩,eb⟩;have W:=g.l8.get;have gi:=(nm.step a8).step g.st;have ds:=gi.get;unfold BB at ds;have hq:decide ((k:Int)<n)=decide (k<n):=by rw[decide_eq_decide];omega
   simp[C,eb];refine dU (λu=> ?_) (λu=> ?_)
   ·have b9:k<n:=by simpa using u
    have fm:k<4:=dj;obtain⟨a6,fC⟩:∃s,V9[k]? =some s:=⟨V9[k]'(by show k<4;omega),az (by show k<4;omega)⟩;have bn:=g.cons (dy 11 0 [TR 12 a6]);obtain⟨eS,b6,M,gA,al,an,P⟩:=bn.app (x:= .arr R.size 0 0 1 false) (xs:=[TR 12 a6]) (l2:=[KN 12 a6]) (n:=1) (by rw[fW];simp) (.cons (Sr 12 a6 6) .nil) (by simp[Sq (k:=12) (nm:=a6) (.inl rfl)]) dp dj;have bT:=gA.trans bn.l8.get;have ea:(F.size=R.size)=False:=by have:=g.l8.lt;simp;omega
    simp only[TR]at M;simp[D,J,eb,ds,fC,fm,W,M,bT,dP,al,an];have e5:binop .add (dw (k:Int)) (dw 1)=some (dw ((k+1:Nat):Int)):=by rw[gY dj dj];simp
    simp[l,B,o,C,D,h,J,e5];exact⟨k+1,dj,dj,dj,⟨eS,_,_,by rw[show k+1-1=k-1+1 by omega];exact P⟩,dp⟩
   ·have b9:k=n:=by simp at u;omega
    subst b9;simp[l,B,o,C,D,h,J];exact⟨v,eU,Y,g.sv,g.k,g.st,g.l8,g.ms,by have:=g.len;omega,g.z⟩
  ·simp[l,B,o,C,D,h];exact⟨_,_,_,O.sv,O.k,O.st,O.l8,O.ms,by have:=O.len;omega,O.z⟩
  ·rintro c R ⟨v,eU,Y,g,l,B,o,C,D,h,J⟩;have W:=g.l8.get;obtain⟨gV,th',left,gI,c6,bH,cb,eu,bu,A,av,hl⟩:=g.k.ex;simp only[rx]at A;simp[B,J,W,A];clear A av hl;refine I8 dp g.k.tp g.k.ok dj dj bs λaA b7 fl eR eF=> ?_;obtain⟨eA,eN⟩:=g.k.tape eF eR;have bk:=g.step eN eA;have bN:binop .add (dw 1) (dw aA)=some (dw ((1+aA:Nat):Int)):=by rw[gY dj dj];simp
   have gP:=eZ (bk.l8.get.trans W.symm);simp[bN,gP];refine lJ (ab6 11) dp ⟨I,2,1,0,2,1+aA⟩ ⟨⟨dp,eA,bs,dp,dp,dt⟩,dp⟩ ?_;rintro w hE ⟨l2,bi,eo,fB,eB,c1⟩;simp only at bi eo fB eB c1;have c4:=bk.step c1 eB;obtain⟨hb,dk,dd,gy⟩:=bi;have hD:=bk.l8.lt;obtain⟨eS,b6,M,gA,al,an,P⟩:=c4.app (n:=3) dk.jc (dd.ft λQ K=>⟨⟨by have:=K.1;omega,K.2.1,K.2.2.1,bk.sv.box (by have:=K.1;omega)⟩,rfl⟩) eo dj dj;have bi:=eZ (c4.l8.get.trans bk.l8.get.symm);have dm:=gA.trans c4.l8.get;have eP:=eZ gA;clear gA eF eN c1 eR dd dk gy;cases eh:decide (j=0)
   case' false=>
    simp[o,h,J,M,dm,eP,bi,dP,al,an,eh];generalize dQ b6 F.size _=S at*
    obtain⟨c7,eV,ey,G⟩:=P.more (m:=7) dj
   case' true=>
    simp[B,h,J,M,dm,eP,bi,dP,al,an,eh];generalize dQ b6 F.size _=S at*
    obtain⟨gV,th',left,gI,c6,bH,cb,eu,bu,A,av,hl⟩:=P.k.ex;simp only[rx]at A;simp[A];clear A av hl;refine rf dp P.k.tp P.k.ok dj dj bs λfS b8 ho gQ gE=> ?_;obtain⟨gd,gM⟩:=P.k.tape gE gQ;have bl:=P.step gM gd;have e7:=bl.l8.get;have et:=((nm.step a8).step bl.st).get;unfold BB at et;simp;refine dU (λu=> ?gk) (λu=> ?gm)
    case' gm=>
     simp;generalize b8=S at*
     obtain⟨c7,eV,ey,G⟩:=bl.more (m:=7) dj
    case' gk=>
     have bn:=bl.cons (dy 11 0 [TR 13 [116,49]]);obtain⟨hB,e8,M,gA,al,an,gS⟩:=bn.app (x:= .arr b8.size 0 0 1 false) (xs:=[TR 13 [116,49]]) (l2:=[KN 13 [116,49]]) (n:=1) (by rw[fW];simp) (.cons (Sr 13 [116,49] 6) .nil) (by simp[Sq (k:=13) (nm:=[116,49]) (.inr rfl)]) dp dj;have bT:=gA.trans bn.l8.get;have ea:(F.size=b8.size)=False:=by have:=bl.l8.lt;simp;omega
     have fA:V9[1]? =some [116,49]:=rfl;simp only[TR]at M;simp[o,D,J,et,fA,e7,M,bT,dP,al,an];generalize dQ e8 F.size _=S at*
     obtain⟨c7,eV,ey,G⟩:=gS.more (m:=7) dj
   all_goals
    have gv:=bB.step (a8.trans G.st) (au _);have gB:=(eD.step cL).step G.st;have gj:=(cp.step cL).step G.st;have W:=G.l8.get;have eX:=fY.step G.st;obtain⟨gZ,de,E,X,L,ap,ec,ca,bS,di⟩:=gv;have V:=L.get;simp at V;have ea:(F.size=S.size)=False:=by have:=G.l8.lt;simp;omega
    have e6:∀Q,Fp S 3 Q->Q<e.size:=λQ K=>by
     obtain⟨_,_,_,_,eI,_,_,_,_,e0⟩:=bB;have e2:S.get 3=e.get 3:=(a8.trans G.st).get 3 eI.lt (e0 3 (.inl rfl));rw[iE e2]at K;exact eI.fp Q K
    have hd:(3=S.size)=False:=by have:=L.lt;simp;omega
    have hf:E.length=j:=by have:=ap.length;simp at this;omega
    obtain⟨hC,hg,eT,c9⟩:=(L.gr 1 rfl).mM (cx:=cx) (f:=VR) L.ok Rl rfl Rg rfl dp (λx=>rfl) (Z,.arr i.size 0 0 2 false,c7) dq;obtain⟨eC,hA,gw⟩:=L.app 1 rfl c9;obtain⟨eO,eL⟩:=gw _ rfl;simp at eC eO eL;simp only[VR]at eT;simp[l,B,o,C,D,h,J,V,W,eT,eC,dP,c9.1.gD,c9.1.cells,e9];exact ZQ G gB gj eX eL eO ap ca bS di ec (λQ K=> .inl (e6 Q K)) (by have:=nm.lt;omega) (by have:=a8.ok.sz;omega) ⟨by have:=nm.lt;have:=ae.ok.sz;omega,ae.ok.sz⟩
 ·rintro c e ⟨⟨aE,bB,a7,nm⟩,l,B,o,C,D,h⟩;obtain⟨gZ,de,E,X,L,ap,ec,ca,bS,di⟩:=bB;have V:=L.get;simp at V;have U:=a7.get;unfold Dx at U;have b7:=NQ (X:=X) dj ca;have e3:=(L.gr 1 rfl).IP (d:=10) dj ap;have bN:=λ{tb:fq} (ht:tb.p 93=some jH.jb)=>c04 ht ⟨uA,X⟩ b7.1;simp[o,C,h,V,e3,bN];have gg:(0=e.size)=False:=by have:=a7.lt;simp;omega
  have dv:∀y,(dQ e 0 y).get 0=some y:=λy=>(dE U y 0).trans (aq rfl);refine dU (λu=> ?_) (λu=> ?_)
  ·have aA:(e.size=e.size+1+1)=False:=by simp<;>omega
   have fS:(e.size+1=e.size+1+1)=False:=dp;have hy:(e.size=e.size+1)=False:=dp;simp[l,U,Pi,Rz,rC,gg,dv,dP,a7.lt,fW,xd,dM,aA];have fv:∀t∈ [(⟨[109,97,105,110],0,[[97],[98]],[CE [120] [] ⟨1,1,[],[]⟩]⟩:fD)],Qz t:=λt ht=>by
    rw[List.mem_singleton.1 ht];have fL:(CE [120] [] ⟨1,1,[],[]⟩).w<=wd 0:=Ks (by rw[dK.iz];omega) (by rw[dK.kP];simp[dK.iz]);refine⟨dp,?_,λs bu=> ?_⟩
    ·simp only[dG.jM,dG.iz];unfold wd at fL;omega
    ·rw[List.mem_singleton.1 bu];exact Ct dp (.num 1) (λq=>absurd rfl q)
   exact⟨⟨⟨uA,[⟨[109,97,105,110],0,[[97],[98]],[CE [120] [] ⟨1,1,[],[]⟩]⟩]⟩,rfl,NQ dp fv,dp⟩,aE.ok.hp⟩
  ·have l3:Lb 3 e 0 (dy 2 0 [.agg [dx,dx]]):=⟨U,λq=>(bS 0 q).elim dj dj⟩;have e4:=((L.rn l3 (dy 2 1 [.agg [sl (uA.map gG.t),de]])).gr 1 rfl).IP (d:=10) dj (ap.ft (V':=λ_=>True) λb fb=>⟨trivial,by rw[dE U,ao (by have:=fb.1;omega)]⟩);simp[l,o,V,U,dP,dv,e4];exact⟨⟨⟨uA,X⟩,rfl,b7,dt⟩,aE.ok.hp⟩
 ·have eH:=Step.cons aN.ok aN.lt BB;have er:=Lb.new aN.lt aN.fp BB;rw[eW]at er;simp;exact⟨⟨aN.cons _,(gp.step eH dj).wide dq,(gz.step eM).step eH,er⟩,dj⟩
end
end Go.Proofs.YtmaeadedikngoaaGreatDoor
