/- W01f -/
import Derived.Test.YtmoiekepclmgbaaGreatDoorA24
import Derived.Test.YtmoiekepclmgbaaGreatDoorA18
set_option linter.all false
set_option maxRecDepth 100000
set_option maxHeartbeats 0
namespace Go.Proofs.YtmoiekepclmgbaaGreatDoor
noncomputable section
open Go Go.TI Tryz
attribute [-simp] List.map_take List.map_drop List.map_append fU fK fh Bool.not_or Bool.not_and
attribute [simp] fT fM
section
attribute [-simp] size_cons
def thT(a:List Nat×T×T):T:= .agg [.str a.1,G 0,a.2.1,a.2.2]
def VK(a:iw):Prop:=a.locals.length<=10/\ei.ws a.body<=100000/\∀b∈a.body,MS b
def PgV(c:Nat)(b:H)(a:Nat):Prop:=4<a/\a<c/\¬Fp b 2 a/\¬Fp b 3 a
def Pg(e:Nat)(b:H)(f:Nat):Prop:=∃h a,∃d:List (List Nat×T×T),∃c:List iw,nS b 3 2 h [(sl (xD.map iY.t),none),(a,some (4,d.map thT))]/\
 jh (FT b (PgV e b) 10) (d.map thT) (c.map iw.t)/\c.length=f/\(∀g∈c,VK g)/\(∀a,Fp b 3 a->a=3\/4<a)/\∀a,Fp b 3 a->¬Fp b 2 a
def Pg.step{f j:Nat}{b e:H}(r:Pg f b j)(c:Step 2 b e)(x:f<=b.size):Pg f e j:=by
 obtain⟨w,d,m,n,l,o,s,t,u,k⟩:=r;have⟨v,p⟩:=l.other k c;have h:e.get 3=b.get 3:=c.get 3 l.lt (k 3 (.inl rfl));refine⟨w,d,m,n,v,o.ft λg a=>⟨⟨a.1,a.2.1,λq=>?_,by rw[jt h];exact a.2.2.2⟩,c.get g (by have:=a.2.1;omega) a.2.2.1⟩,s,t,λd i=>by rw[jt h]at i;exact u d i,p⟩;rcases c.fp g q with q|q
 ·exact a.2.2.1 q
 ·have:=a.2.1;omega
def Pg.wide{c d e:Nat}{b:H}(j:Pg c b e)(o:c<=d):Pg d b e:=by
 obtain⟨m,i,f,g,l,h,k⟩:=j;exact⟨m,i,f,g,l,h.ft λn a=>⟨⟨a.1,by have:=a.2.1;omega,a.2.2⟩,rfl⟩,k⟩
def nms:List (List Nat):=[[109,97,105,110],[116,49],[116,50],[116,51]]
def ER:jv:=⟨1,0,0,true,false,nms.map T.str⟩
def GM:jv:=(dS 2 0 [.agg [dR,dR]])
structure RdM(L:List Int)(h:H)(i:Nat):Prop where
 k:Mk L 0 h 2 1
 pg:Pg h.size h i
 re:Lb 2 h 0 GM
 nm:Lb 2 h 4 ER
def Vm(i:List Int){c:H}(d:c=((((hE.cons GM).cons (dS 2 0 [.agg [sl (i.map (T.int .u8)),G 0]])).cons (dS 8 0 [.agg (uF 1 0 20 false false false false dR)])).cons (dS 2 1 [.agg [sl (xD.map iY.t),dR]]))):
 Mk i 0 c 2 1/\Pg 4 c 0/\Lb 2 c 0 GM/\c.size=4:=by
 have m:iE 0 c:=by subst d;exact⟨Y,Y,Y⟩
 have k:c.get 2=some (dS 8 0 [.agg (uF 1 0 20 false false false false dR)]):=by subst d;simp
 have f:∀a,Fp c 2 a->a=2\/a=1:=by
  rintro a (rfl|⟨p,g,o,l,b⟩)
  ·exact .inl rfl
  ·rw[k]at g;simp only[ar]at g;subst g;simp[gH,T.cells,uF]at l;rcases l with rfl|rfl|rfl|rfl|rfl|rfl|rfl|rfl<;>first|(have b:(none:aa Nat)=some a:=b;simp at b;done)|(have b:some 1=some a:=b;simp at b;exact .inr b.symm)
 have⟨n,j⟩:=nS.start (h:=c) (w:=3) (szw:=2) (ver:=1) (F:=[(sl (xD.map iY.t),none),(dR,some (4,[]))]) m (by subst d;simp) Y;refine⟨⟨m,λa e=>?_,⟨0,0,by subst d;simp,Int.le_refl _⟩,0,0,20,false,false,false,false,dR,[],k,Gr.nil _ _,rfl⟩,⟨1,dR,[],[],n,.nil,rfl,Y,λa e=> .inl (j a e),λa e b=>?_⟩,⟨by subst d;simp[GM],λb=>?_⟩,by subst d;simp⟩
 ·have:=f a e;subst d;simp;omega
 ·have:=f a b;have:=j a e;omega
 ·have:=f 0 b;omega
def Pf(a:Int)(b:List Nat):ei:=⟨a,0,b,[],[],⟨0,0,[],[]⟩,[],[]⟩
def Zf(a:Int)(b:List Nat):T:= .agg [G a,G 0,.str b,.str [],dR,G 0,G 0,.str [],dR,dR,dR]
def X6{e:H}{c:Nat->Prop}(a:Int)(b:List Nat)(d:Nat):FT e c (d+2) (Zf a b) (Pf a b).t:=
 .inr (.inr ⟨_,(Pf a b).cs,rfl,.cons (iC ..) (.cons (iC ..) (.cons (kO ..) (.cons (kO ..) (.cons (jS ..) (.cons (iC ..) (.cons (iC ..) (.cons (kO ..) (.cons (jS ..) (.cons (jS ..) (.cons (jS ..) .nil)))))))))),ei.oY _⟩)
def X5{k:Int}{nm:List Nat}(d:k=12\/k=13):MS (Pf k nm)/\(Pf k nm).w<=wd 2:=by
 refine⟨.mk (λa=>by unfold Pf at a;simp at a;omega) (λa=>by unfold Pf at a;simp at a;omega) (λc b=>by unfold Pf at b;simp at b) (λa=>by unfold Pf at a;simp at a;omega) (λc b=>by unfold Pf at b;simp at b) (λc b=>by unfold Pf at b;simp at b),?_⟩;rw[ei.mR,eY.mR];unfold Pf wd;simp only[ei.us,ei.MQ,ei.xh,ei.Ap,ei.jE,eY.jE,eY.Id];omega
def FT.stmt{i:H}{g:Nat->Prop}{d:Nat}{c:T}{f:ei}(b:FT i g d c f.t):c.cells.length=11:=by
 cases d with
 |zero=>exact b.elim
 |succ d=>
  rw[f.oY]at b;rcases b with⟨j,k,a⟩|⟨_,_,_,_,_,_,h,_,_,_,_,a⟩|⟨e,n,rfl,l,a⟩
  ·cases c<;>first|exact absurd rfl (k _)|(rw[oR]at a;rename_i m b;cases m<;>simp[sl]at a;done)|(simp at a;done)|(simp[kE]at j;done)
  ·cases h<;>simp[sl]at a
  ·simp only[T.agg.injEq]at a;subst a;rw[show(T.agg e).cells=e from rfl,l.length];rfl
structure Th(L:List Int)(hC:H)(nm:List Nat)(bl cnt:Nat)(h:H)(v:T)(ver:Nat)(l:List ei):Prop where
 sv:SV (hC.size+1) h.size h 2 6 v l
 k:Mk L 0 h 2 1
 st:Step 2 hC h
 l8:Lb 2 h hC.size (dS 4 ver [.agg [.str nm,G 0,.arr bl 0 0 2 false,v]])
 ms:∀s∈l,MS s/\s.w<=wd 2
 len:l.length<=cnt
 z:2<hC.size
theorem Th.cons{d:List Int}{h g:H}{j:List Nat}{e f m:Nat}{l:T}{i:List ei}(a:Th d h j e f g l m i)(c:jv):Th d h j e f (g.cons c) l m i:=by
 have b:=Step.cons a.k.ok a.k.lt c;exact⟨(a.sv.step b (au _)).wide (au _) Y,a.k.cons c,a.st.trans b,a.l8.step b,a.ms,a.len,a.z⟩
def Th.step{c:List Int}{h g d:H}{j:List Nat}{e f l:Nat}{k:T}{i:List ei}(a:Th c h j e f g k l i)(b:Step 2 g d)(m:Mk c 0 d 2 1):Th c h j e f d k l i:=
 ⟨(a.sv.step b (au _)).wide (au _) b.ok.sz,m,a.st.trans b,a.l8.step b,a.ms,a.len,a.z⟩
def Th.more{e:List Int}{i h:H}{j:List Nat}{f g m d:Nat}{c:T}{b:List ei}(a:Th e i j f g h c d b)(l:g<=m):∃c d b,Th e i j f m h c d b:=⟨c,d,b,a.sv,a.k,a.st,a.l8,a.ms,aQ a.len l,a.z⟩
def SR{X:List iw}(hl:X.length<=4)(b:∀a∈X,VK a):PW ⟨xD,X⟩:=by
 refine⟨⟨⟨by simp[xD],dO,λa ht=>⟨by have:=(b a ht).1;omega,by have:=(b a ht).2.1;omega⟩⟩,?_,λa ht=>(b a ht).2.2,7,by simp[xD],by simp[xD,uC]⟩,by simp[xD],by simp[xD],⟨1,0,[113],2,0,[]⟩,by simp[xD],rfl,rfl⟩;have d:∀X:List iw,(∀a∈X,VK a)->rO X<=X.length*100000:=by
  intro X;induction X with
  |nil=>intro _;simp[rO]
  |cons e X c=>
   intro b;have f:=c λa ht=>b a (by simp[ht]);have g:=(b e Y).2.1;unfold rO at*
   simp only[aL,List.sum_cons,aP];omega
 have:=d X b;unfold rO at this;simp only;omega
def YO{b:H}{a c:T}(i:SL a []\/∃d e h,a= .arr d e 0 h false)(f:qp a=true)(g:b.jM c=some []):jn cx b 193 193 a c=some (.val a b):=by
 unfold jn qt nH;rw[Bt,eJ,eJ];simp only[show Jc.u= .slice 230 from rfl,Br,g,eJ];show(iG (fits _ []) (j7 (iG (qp a) (some (a,b)))))=_;rw[f];rfl
def Th.app{o:List Int}{c f:H}{i:List Nat}{h p n m:Nat}{l x:T}{xs:List T}{r l2:List ei}(b:Th o c i h p f l m r)(v:f.jM x=some xs)(s:jh (FT f (Nw (c.size+1) f.size f 2 l) 8) xs (l2.map ei.t))(M:∀j∈l2,MS j/\j.w<=wd 2)(W:l2.length<=n)(V:p+n<=1000):
 ∃e a,jn cx f 193 193 l x=some (.val e a)/\a.get c.size=f.get c.size/\e.iN=true/\e.cells=[e]/\Th o c i h (p+n) (fg a c.size (dS 4 (m+1) [.agg [.str i,G 0,.arr h 0 0 2 false,e]])) e (m+1) (r++l2):=by
 have fin:∀e a,SV (c.size+1) a.size a 2 6 e (r++l2)->Mk o 0 a 2 1->Step 2 c a->Lb 2 a c.size (dS 4 m [.agg [.str i,G 0,.arr h 0 0 2 false,l]])->Th o c i h (p+n) (fg a c.size (dS 4 (m+1) [.agg [.str i,G 0,.arr h 0 0 2 false,e]])) e (m+1) (r++l2):=λe a O E P g=>
  ⟨by rw[ig];exact O.qh g (.inl (du _)) _,E.qh g _,Step.qh E.ok g _ _ P (au _),⟨(ee g.get _ _).trans (aq rfl),by rw[jt (show(fg a c.size _).get 2=a.get 2 by rw[ee g.get,ao (br g.ne)])];exact g.nf⟩,λj K=>(List.mem_append.1 K).elim (b.ms j) (M j),by rw[aT];have:=b.len;omega,b.z⟩
 by_cases B:xs=[]
 ·subst B;have:l2=[]:=by cases l2 with|nil=>rfl|cons=>cases s
  subst this;have⟨U,u,_⟩:=b.sv;refine⟨l,f,?_,rfl,u.iN,u.cells,fin l f (by rw[bG];exact b.sv) b.k b.st b.l8⟩;rcases u with⟨rfl,rfl⟩|⟨R,S,_,_,_,rfl,_⟩
  ·exact YO (.inl (Xq _ _)) rfl v
  ·exact YO (.inr ⟨_,_,_,rfl⟩) rfl v
 have F:∀q∈xs,q.cells.length=11:=λq I=>by
  have⟨X,J,L⟩:=s.Kd I;obtain⟨j,_,rfl⟩:=List.mem_map.1 J;exact FT.stmt (d:=8) L
 have⟨e,a,q,y,N,Q,C⟩:=b.sv.app b.k (by have:=b.l8.lt;omega) (au _) v s F B (by have:=b.len;omega);have A:=C c.size (du _);refine⟨e,a,q,A,y.gc.1,y.gc.2,fin e a y N (Q c b.st D) ⟨A.trans b.l8.get,?_⟩⟩;rw[jt (C 2 (by have:=b.z;omega))];exact b.l8.nf
def aeN{z:List Int}{I b d:H}{m:List Nat}{e an N J i:Nat}{x M:T}{v:List ei}{n:List (List Nat×T×T)}{l:List iw}(g:Th z I m e 7 b x an v)(X:Lb 2 b 0 GM)(V:Lb 2 b 4 ER)
 (o:Lb 2 b e (dS 1 0 [.str [97],.str [98]])) (ae:nS d 3 2 N [(sl (xD.map iY.t),none),(M,some (4,(n++[(m,T.arr e 0 0 2 false,x)]).map thT))]) (f:Step 3 b d) (O:jh (FT b (PgV i b) 10) (n.map thT) (l.map iw.t)) (R:∀w∈l,VK w)
 (B:∀a,Fp b 3 a->a=3\/4<a) (A:∀a,Fp b 3 a->¬Fp b 2 a) (av:l.length=J) (P:∀a,Fp b 3 a->a<i\/a=3) (ap:4<i) (aA:i<=I.size) (Q:4<e/\i<=e):RdM z d (J+1):=by
 have aE:=g.l8.lt;have al:b.size<=d.size:=f.ok.sz;have W:iE 0 d:=⟨f.ok.hp,f.ok.low,aw _⟩;have E:∀a,Fp b 2 a->d.get a=b.get a:=λa c=>f.get a (g.k.fp a c) λq=>A a q c;have p:=E 2 (.inl rfl);have U:∀a,a<=4->a≠3->¬Fp b 3 a:=λa j h q=>(B a q).elim h λq=>by omega
 have L:∀a y,Lb 2 b a y->a<=4->a≠3->Lb 2 d a y:=λa y u j h=>⟨(f.get a u.lt (U a j h)).trans u.get,by rw[jt p];exact u.nf⟩;have s:∀a,4<a->a<b.size->¬Fp b 2 a->¬Fp b 3 a->PgV d.size d a/\d.get a=b.get a:=λa j h F r=>⟨⟨j,D,by rw[jt p];exact F,λq=>(f.fp a q).elim r λq=>by omega⟩,f.get a h r⟩;have C:∀a,Fp b 3 a->a<i\/a=3:=λa c=>P a c;refine⟨g.k.same W al E,⟨N,M,n++[(m,T.arr e 0 0 2 false,x)],l++[⟨m,0,[[97],[98]],v⟩],ae,?_,dN,λw ht=>?_,λa c=>?_,λa c q=>?_⟩,L 0 _ X D D,L 4 _ V D D⟩
 ·rw[List.map_append,List.map_append];refine jh.append (O.ft λa c=>s a c.1 (by have:=c.2.1;omega) c.2.2.1 c.2.2.2) (.cons ?_ .nil);have K:=s e Q.1 o.lt o.nf λq=>(C e q).elim (λq=>by omega) λq=>by omega
  refine .inr (.inr ⟨_,_,rfl,.cons (kO ..) (.cons (iC ..) (.cons (.inr (.inl ⟨e,0,0,2,false,[.str [97],.str [98]],[.str [97],.str [98]],rfl,K.1,?_,.cons (kO ..) (.cons (kO ..) .nil),rfl⟩)) (.cons (g.sv.ft.mono λa c=>s a (by have:=c.1;omega) c.2.1 c.2.2.1 λq=>(C a q).elim (λq=>by have:=c.1;omega) λq=>by have:=c.1;omega) .nil))),rfl⟩);rw[iF,K.2,o.get];simp
 ·rcases List.mem_append.1 ht with q|q
  ·exact R w q
  ·rw[List.mem_singleton.1 q];refine⟨Y,?_,λZ S=>(g.ms Z S).1⟩;have j:=Az g.ms;have h:=g.len;have F:v.length*wd 2<=7*wd 2:=aV _ h;have r:wd 2=10000:=rfl;simp only;omega
 ·rcases f.fp a c with q|q
  ·exact B a q
  ·exact .inr D
 ·rw[jt p]at q;rcases f.fp a c with k|k
  ·exact A a k q
  ·have:=g.k.fp a q;omega
def SA:o9 prog cx 91 (λL:List Int=>[sl (L.map (T.int .u8))]) okB (λL r=>∃c1:ik,r=c1.t/\PW c1/\c1.dW.length<=100):=by
 refine AA (tb:=⟨pt [(129,Eq),(132,LP),(131,Pu),(109,kG.jX)],ht [(77,jY BJ wO ui),(130,Zu 11)]⟩) jg iT (jr 2535301804919368649890680801277 [(15,[(1,7),(1,9)])] func91) (λ_=>1000) (λa b e=>by simp at e;exact jH (λ_ _ e=>by simpa using e) e) Y nl9 ?_;rintro L bC c eo;simp at eo;simp[f91,eo,Un];generalize A:(((H.cons (H.cons hE _) _).cons _).cons _:H)=hf;obtain⟨cL,gy,gF,hb⟩:=Vm L A.symm;clear A;refine uy Y cL.tp cL.ok D D bC λbN o hq t2 eH=>?_;obtain⟨a7,eN⟩:=cL.tape eH t2;have gz:=gy.step eN D;have e0:o.size=4:=eH.size.trans hb;have e6:binop .add (G 2) (G bN)=some (G ((2+bN:Nat):Int)):=by rw[iZ D D];simp
 simp[e6,e0];have hy:2+bN<=4:=D;generalize cb:2+bN=n at*
 refine gu n D (λj c e=>RdM L e j/\dT c 2 (.ptr 0 0 0 0)/\dT c 3 (.ptr 2 0 0 0)/\dT c 4 (.ptr 3 0 0 0)/\dT c 5 (G n)/\dT c 6 (.arr 4 0 0 4 false)/\dT c 7 (G j)) ?_ ?_ D ?_
 ·rintro j c e fL fo ⟨⟨a6,bS,bn,nm⟩,o,C,u,F,I,h⟩;obtain⟨bT,g,left,set,c9,bW,cF,eA,bH,B,aN,hl⟩:=a6.ex;obtain⟨ap,Q⟩:=a6.set (th':=j) (left':=left) (se':=set) (tx':=c9) (at2:=bW) (lp':=cF) B aN hl;have cX:=nm.step ap;have eF:=bn.step ap;simp only[uF]at B ap Q cX eF;have fA:j<4:=D;obtain⟨an,fY⟩:∃s,nms[j]? =some s:=⟨nms[j]'(by show j<4;omega),az (by show j<4;omega)⟩;simp[C,F,I,h,fL,B,eZ];generalize fg e 2 _=i at*
  have dv:=cX.get;unfold ER at dv;have fE:i.low<=i.size+1:=Nat.le_succ_of_le Q.ok.low;simp[h,dv,fY,fA,fE];have hC:=Q.lt;have c4:=Step.cons Q.ok Q.lt (dS 1 0 [.str [97],.str [98]]);have a8:=Q.cons (dS 1 0 [.str [97],.str [98]]);have gi:=Lb.new Q.lt Q.fp (dS 1 0 [.str [97],.str [98]]);have bp:=ap.trans c4;have R:Th L (i.cons (dS 1 0 [.str [97],.str [98]])) an i.size 0 ((i.cons (dS 1 0 [.str [97],.str [98]])).cons (dS 4 1 [.agg [.str an,G 0,.arr i.size 0 0 2 false,dR]])) dR 1 []:=
   ⟨SV.nil _ _ _ _ _,a8.cons _,Step.cons a8.ok a8.lt _,by simpa using Lb.new a8.lt a8.fp (dS 4 1 [.agg [.str an,G 0,.arr i.size 0 0 2 false,dR]]),Y,Y,dN⟩
  have fv:i.size+1=(i.cons (dS 1 0 [.str [97],.str [98]])).size:=rfl;simp only[fv];generalize hn:i.cons (dS 1 0 [.str [97],.str [98]])=J at*
  refine kP (λc V=>∃v bT l,Th L J an i.size 3 V v bT l/\dT c 2 (.ptr 0 0 0 0)/\dT c 3 (.ptr 2 0 0 0)/\dT c 4 (.ptr 3 0 0 0)/\dT c 5 (G n)/\dT c 6 (.arr 4 0 0 4 false)/\dT c 7 (G j)/\dT c 8 (.ptr J.size 0 0 0)) (λA=>?_) (λA=>?_) ?_
  ·simp;refine uH n (λk c V=>1<=k/\(∃v bT l,Th L J an i.size (k-1) V v bT l/\dT c 2 (.ptr 0 0 0 0)/\dT c 3 (.ptr 2 0 0 0)/\dT c 4 (.ptr 3 0 0 0)/\dT c 5 (G n)/\dT c 6 (.arr 4 0 0 4 false)/\dT c 7 (G j)/\dT c 8 (.ptr J.size 0 0 0))/\dT c 9 (G k)) ?_ D (k:=1) D ⟨au _,⟨_,_,_,R,by simp[o,C,u,F,I,h]⟩,Y⟩;rintro k c V ho ⟨fB,⟨v,eW,l,g,o,C,u,F,I,h,M⟩,ef⟩;have al:=g.l8.get;have gm:=(nm.step bp).step g.st;have ea:=gm.get;unfold ER at ea;have hv:decide ((k:Int)<n)=decide (k<n):=by rw[decide_eq_decide];omega
   simp[F,ef];refine fw (λA=>?_) (λA=>?_)
   ·have cb:k<n:=by simpa using A
    have fC:k<4:=D;obtain⟨bi,fX⟩:∃s,nms[k]? =some s:=⟨nms[k]'(by show k<4;omega),az (by show k<4;omega)⟩;have bB:=g.cons (dS 11 0 [Zf 12 bi]);obtain⟨eV,b8,P,gA,av,aA,S⟩:=bB.app (x:= .arr V.size 0 0 1 false) (xs:=[Zf 12 bi]) (l2:=[Pf 12 bi]) (n:=1) (by rw[iF];simp) (.cons (X6 12 bi 6) .nil) (by simp[X5 (k:=12) (nm:=bi) (.inl rfl)]) Y D;have b7:=gA.trans bB.l8.get;have ec:(J.size=V.size)=False:=by have:=g.l8.lt;simp;omega
    simp only[Zf]at P;simp[I,M,ef,ea,fX,fC,al,P,b7,eZ,av,aA];have fb:binop .add (G (k:Int)) (G 1)=some (G ((k+1:Nat):Int)):=by rw[iZ D D];simp
    simp[o,C,u,F,I,h,M,fb];exact⟨k+1,D,D,D,⟨eV,_,_,by rw[show k+1-1=k-1+1 by omega];exact S⟩,Y⟩
   ·have cb:k=n:=by simp at A;omega
    subst cb;simp[o,C,u,F,I,h,M];exact⟨v,eW,l,g.sv,g.k,g.st,g.l8,g.ms,by have:=g.len;omega,g.z⟩
  ·simp[o,C,u,F,I,h];exact⟨_,_,_,R.sv,R.k,R.st,R.l8,R.ms,by have:=R.len;omega,R.z⟩
  ·rintro c V ⟨v,eW,l,g,o,C,u,F,I,h,M⟩;have al:=g.l8.get;obtain⟨gZ,th',left,gP,c9,bW,cF,eA,bH,B,aN,hl⟩:=g.k.ex;simp only[uF]at B;simp[C,M,al,B];clear B aN hl;refine M1 Y g.k.tp g.k.ok D D bC λaX b9 fB eU eI=>?_;obtain⟨eC,eO⟩:=g.k.tape eI eU;have bu:=g.step eO eC;have bX:binop .add (G 1) (G aX)=some (G ((1+aX:Nat):Int)):=by rw[iZ D D];simp
   have gS:=fZ (bu.l8.get.trans al.symm);simp[bX,gS];refine lH (ahj 11) Y ⟨L,2,1,0,2,1+aX⟩ ⟨⟨Y,eC,bC,Y,Y,dO⟩,Y⟩ ?_;rintro hI hE ⟨l2,bs,et,fW,eD,c6⟩;simp only at bs et fW eD c6;have c7:=bu.step c6 eD;obtain⟨hd,dn,di,gE⟩:=bs;have hJ:=bu.l8.lt;obtain⟨eV,b8,P,gA,av,aA,S⟩:=c7.app (n:=3) dn.jM (di.ft λU N=>⟨⟨by have:=N.1;omega,N.2.1,N.2.2.1,bu.sv.box (by have:=N.1;omega)⟩,rfl⟩) et D D;have bs:=fZ (c7.l8.get.trans bu.l8.get.symm);have ds:=gA.trans c7.l8.get;have eR:=fZ gA;clear gA eI eO c6 eU di dn gE;cases er:decide (j=0)
   case' false=>
    simp[u,h,M,P,ds,eR,bs,eZ,av,aA,er];generalize fg b8 J.size _=W at*
    obtain⟨dd,eX,eB,K⟩:=S.more (m:=7) D
   case' true=>
    simp[C,h,M,P,ds,eR,bs,eZ,av,aA,er];generalize fg b8 J.size _=W at*
    obtain⟨gZ,th',left,gP,c9,bW,cF,eA,bH,B,aN,hl⟩:=S.k.ex;simp only[uF]at B;simp[B];clear B aN hl;refine uy Y S.k.tp S.k.ok D D bC λgg ca hs gV gM=>?_;obtain⟨gj,gQ⟩:=S.k.tape gM gV;have bA:=S.step gQ gj;have ff:=bA.l8.get;have ey:=((nm.step bp).step bA.st).get;unfold ER at ey;simp;refine fw (λA=> ?gv) (λA=> ?gw)
    case' gw=>
     simp;generalize ca=W at*
     obtain⟨dd,eX,eB,K⟩:=bA.more (m:=7) D
    case' gv=>
     have bB:=bA.cons (dS 11 0 [Zf 13 [116,49]]);obtain⟨hG,fi,P,gA,av,aA,gX⟩:=bB.app (x:= .arr ca.size 0 0 1 false) (xs:=[Zf 13 [116,49]]) (l2:=[Pf 13 [116,49]]) (n:=1) (by rw[iF];simp) (.cons (X6 13 [116,49] 6) .nil) (by simp[X5 (k:=13) (nm:=[116,49]) (.inr rfl)]) Y D;have b7:=gA.trans bB.l8.get;have ec:(J.size=ca.size)=False:=by have:=bA.l8.lt;simp;omega
     have fS:nms[1]? =some [116,49]:=rfl;simp only[Zf]at P;simp[u,I,M,ey,fS,ff,P,b7,eZ,av,aA];generalize fg fi J.size _=W at*
     obtain⟨dd,eX,eB,K⟩:=gX.more (m:=7) D
   all_goals
    have gB:=bS.step (bp.trans K.st) (au _);have gI:=(eF.step c4).step K.st;have gn:=(cX.step c4).step K.st;have al:=K.l8.get;have e4:=gi.step K.st;obtain⟨ha,dk,E,X,O,aE,eh,cp,b6,dm⟩:=gB;have ae:=O.get;simp at ae;have ec:(J.size=W.size)=False:=by have:=K.l8.lt;simp;omega
    have fe:∀U,Fp W 3 U->U<e.size:=λU N=>by
     obtain⟨_,_,_,_,eL,_,_,_,_,e5⟩:=bS;have e7:W.get 3=e.get 3:=(bp.trans K.st).get 3 eL.lt (e5 3 (.inl rfl));rw[jt e7]at N;exact eL.fp U N
    have hg:(3=W.size)=False:=by have:=O.lt;simp;omega
    have hh:E.length=j:=by have:=aE.length;simp at this;omega
    obtain⟨hH,hj,eT,de⟩:=(O.gr 1 rfl).my (cx:=cx) (f:=thT) O.ok WK rfl WF rfl Y (λx=>rfl) (an,.arr i.size 0 0 2 false,dd) dN;obtain⟨eE,hF,gD⟩:=O.app 1 rfl de;obtain⟨eP,eM⟩:=gD _ rfl;simp at eE eP eM;simp only[thT]at eT;simp[o,C,u,F,I,h,M,ae,al,eT,eE,eZ,de.1.iN,de.1.cells,fo];exact aeN K gI gn e4 eM eP aE cp b6 dm eh (λU N=> .inl (fe U N)) (by have:=nm.lt;omega) (by have:=bp.ok.sz;omega) ⟨by have:=nm.lt;have:=ap.ok.sz;omega,ap.ok.sz⟩
 ·rintro c e ⟨⟨a6,bS,bn,nm⟩,o,C,u,F,I,h⟩;obtain⟨ha,dk,E,X,O,aE,eh,cp,b6,dm⟩:=bS;have ae:=O.get;simp at ae;have Z:=bn.get;unfold GM at Z;have b9:=SR (X:=X) D cp;have e8:=(O.gr 1 rfl).KH (d:=10) D aE;have bX:=λ{tb:gG} (ht:tb.p 109=some kG.jX)=>c04 ht ⟨xD,X⟩ b9.1;simp[u,F,h,ae,e8,bX];have gk:(0=e.size)=False:=by have:=bn.lt;simp;omega
  have eb:∀y,(fg e 0 y).get 0=some y:=λy=>(ee Z y 0).trans (aq rfl);refine fw (λA=>?_) (λA=>?_)
  ·have aX:(e.size=e.size+1+1)=False:=by simp<;>omega
   have gg:(e.size+1=e.size+1+1)=False:=Y;have hD:(e.size=e.size+1)=False:=Y;simp[o,Z,Un,Xb,wA,gk,eb,eZ,bn.lt,iF,Al,ez,aX];have fP:∀eS∈ [(⟨[109,97,105,110],0,[[97],[98]],[F9 [120] [] ⟨1,1,[],[]⟩]⟩:iw)],VK eS:=λeS ht=>by
    rw[List.mem_singleton.1 ht];have gd:(F9 [120] [] ⟨1,1,[],[]⟩).w<=wd 0:=OM (by rw[eY.jE];omega) (by rw[eY.mR];simp[eY.jE]);refine⟨Y,?_,λs bH=>?_⟩
    ·simp only[ei.kL,ei.jE];unfold wd at gd;omega
    ·rw[List.mem_singleton.1 bH];exact FX Y (.num 1) (λq=>absurd rfl q)
   exact⟨⟨⟨xD,[⟨[109,97,105,110],0,[[97],[98]],[F9 [120] [] ⟨1,1,[],[]⟩]⟩]⟩,rfl,SR Y fP,Y⟩,a6.ok.hp⟩
  ·have l3:Lb 3 e 0 (dS 2 0 [.agg [dR,dR]]):=⟨Z,λq=>(b6 0 q).elim D D⟩;have e9:=((O.qh l3 (dS 2 1 [.agg [sl (xD.map iY.t),dk]])).gr 1 rfl).KH (d:=10) D (aE.ft (V':=λ_=>True) λb fs=>⟨trivial,by rw[ee Z,ao (by have:=fs.1;omega)]⟩);simp[o,u,ae,Z,eZ,eb,e9];exact⟨⟨⟨xD,X⟩,rfl,b9,dO⟩,a6.ok.hp⟩
 ·have eK:=Step.cons a7.ok a7.lt ER;have eu:=Lb.new a7.lt a7.fp ER;rw[e0]at eu;simp;exact⟨⟨a7.cons _,(gz.step eK D).wide dN,(gF.step eN).step eK,eu⟩,D⟩
end
def Ha:o9 prog cx 44 (λa:List Int=>[sl (a.map (T.int .u8))]) (λa=>okB a/\a.length<=1000000) (λa w=>∃c:List gJ,w=sl (c.map gJ.t)/\c.length=a.length):=by
 refine jL [] (jr 285 [] func44) (λa=>a.length+5) (λx y b=>by simp at b;exact jH (λ_ _ b=>by simpa using b) b) ?_;rintro a ⟨⟨_,u⟩,A⟩ e o;simp at o;simp[f44];refine gu a.length D (λd e b=>∃g,∃c:List gJ,Gr b g 2 (c.map gJ.t)/\iE 0 b/\c.length=d/\dT e 0 (sl (a.map (T.int .u8)))/\dT e 3 g/\dT e 4 (G d)) ?_ ?_ D ⟨dR,[],Gr.nil _ _,by exact⟨Y,Y,Y⟩,rfl,by simp[o]⟩
 ·rintro d e b p v ⟨g,c,h,l,n,i,j,k⟩;have B:=u a[d] (aC p);have q: -9223372036854775808<=a[d]:=D;have r:a[d]<9223372036854775808:=D;have⟨C,z,s,m⟩:=h.my (cx:=cx) (f:=gJ.t) l IH rfl IG rfl Y (λ_=>rfl) (⟨a[d].tmod 4,IntKind.i64.wrap ((IntKind.i64.wrap (a[d].tdiv 4)).tmod 5-1)⟩:gJ) dN;simp[i,j,k,p,s,v,q,r,Da (show¬(4:Int)=0 by omega),adt (show¬(4:Int)=0 by omega),Da (show¬(5:Int)=0 by omega),tZ];exact⟨_,_,m.1,⟨m.2.2.2.hp,m.2.2.2.low,aw _⟩,dN,rfl⟩
 ·rintro e b ⟨g,c,h,l,n,i,j,k⟩;simp[i,j,k];exact⟨_,⟨c,rfl,n⟩,l.hp,by rw[Iw g h.iN,h.qC Y]⟩
