/- W01f -/
import Derived.Test.YtajpdafdickapaaGreatDoorA24
import Derived.Test.YtajpdafdickapaaGreatDoorA18
set_option linter.all false
set_option maxRecDepth 100000
set_option maxHeartbeats 8000000
namespace Go.Proofs.YtajpdafdickapaaGreatDoor
noncomputable section
open Go Go.TI Tryz
attribute [-simp] List.map_take List.map_drop List.map_append fw eY eg Bool.not_or Bool.not_and
attribute [simp] fq eZ
section
attribute [-simp] size_cons
def Zu(a:List Nat×T×T):T:= .agg [.str a.1,Z 0,a.2.1,a.2.2]
def T7(a:fO):Prop:=a.locals.length<=10/\dO.ws a.body<=100000/\∀b∈a.body,MS b
def PgV(c:Nat)(b:H)(a:Nat):Prop:=4<a/\a<c/\¬Fp b 2 a/\¬Fp b 3 a
def Pg(e:Nat)(b:H)(f:Nat):Prop:=∃h a,∃d:List (List Nat×T×T),∃c:List fO,nG b 3 2 h [(sl (vY.map iC.t),none),(a,some (4,d.map Zu))]/\
 iF (FT b (PgV e b) 10) (d.map Zu) (c.map fO.t)/\c.length=f/\(∀g∈c,T7 g)/\(∀a,Fp b 3 a->a=3\/4<a)/\∀a,Fp b 3 a->¬Fp b 2 a
def Pg.step{f j:Nat}{b e:H}(r:Pg f b j)(c:Step 2 b e)(x:f<=b.size):Pg f e j:=by
 obtain⟨w,d,m,n,l,o,s,t,u,k⟩:=r;have⟨v,p⟩:=l.other k c;have h:e.get 3=b.get 3:=c.get 3 l.lt (k 3 (.inl rfl));refine⟨w,d,m,n,v,o.ft λg a=>⟨⟨a.1,a.2.1,λq=>?_,by rw[iT h];exact a.2.2.2⟩,c.get g (by have:=a.2.1;omega) a.2.2.1⟩,s,t,λd i=>by rw[iT h]at i;exact u d i,p⟩;rcases c.fp g q with q|q
 ·exact a.2.2.1 q
 ·have:=a.2.1;omega
def Pg.wide{c d e:Nat}{b:H}(j:Pg c b e)(o:c<=d):Pg d b e:=by
 obtain⟨m,i,f,g,l,h,k⟩:=j;exact⟨m,i,f,g,l,h.ft λn a=>⟨⟨a.1,by have:=a.2.1;omega,a.2.2⟩,rfl⟩,k⟩
def ZL:List (List Nat):=[[109,97,105,110],[116,49],[116,50],[116,51]]
def Dt:iX:=⟨1,0,0,true,false,ZL.map T.str⟩
def Fs:iX:=(dE 2 0 [.agg [dD,dD]])
structure Rd(L:List Int)(h:H)(i:Nat):Prop where
 k:Mk L 0 h 2 1
 pg:Pg h.size h i
 re:Lb 2 h 0 Fs
 nm:Lb 2 h 4 Dt
def TQ(i:List Int){c:H}(d:c=((((hE.cons Fs).cons (dE 2 0 [.agg [sl (i.map (T.int .u8)),Z 0]])).cons (dE 8 0 [.agg (sR 1 0 20 false false false false dD)])).cons (dE 2 1 [.agg [sl (vY.map iC.t),dD]]))):
 Mk i 0 c 2 1/\Pg 4 c 0/\Lb 2 c 0 Fs/\c.size=4:=by
 have m:hU 0 c:=by subst d;exact⟨dy,dy,dy⟩
 have k:c.get 2=some (dE 8 0 [.agg (sR 1 0 20 false false false false dD)]):=by subst d;simp
 have f:∀a,Fp c 2 a->a=2\/a=1:=by
  rintro a (rfl|⟨p,g,o,l,b⟩)
  ·exact .inl rfl
  ·rw[k]at g;simp only[ar]at g;subst g;simp[fF,T.cells,sR]at l;rcases l with rfl|rfl|rfl|rfl|rfl|rfl|rfl|rfl<;>first|(have b:(none:aa Nat)=some a:=b;simp at b;done)|(have b:some 1=some a:=b;simp at b;exact .inr b.symm)
 have⟨n,j⟩:=nG.start (h:=c) (w:=3) (szw:=2) (ver:=1) (F:=[(sl (vY.map iC.t),none),(dD,some (4,[]))]) m (by subst d;simp) dy;refine⟨⟨m,λa e=>?_,⟨0,0,by subst d;simp,Int.le_refl _⟩,0,0,20,false,false,false,false,dD,[],k,Gr.nil _ _,rfl⟩,⟨1,dD,[],[],n,.nil,rfl,dy,λa e=> .inl (j a e),λa e b=>?_⟩,⟨by subst d;simp[Fs],λb=>?_⟩,by subst d;simp⟩
 ·have:=f a e;subst d;simp;omega
 ·have:=f a b;have:=j a e;omega
 ·have:=f 0 b;omega
def Nt(a:Int)(b:List Nat):dO:=⟨a,0,b,[],[],⟨0,0,[],[]⟩,[],[]⟩
def Xn(a:Int)(b:List Nat):T:= .agg [Z a,Z 0,.str b,.str [],dD,Z 0,Z 0,.str [],dD,dD,dD]
def V0{e:H}{c:Nat->Prop}(a:Int)(b:List Nat)(d:Nat):FT e c (d+2) (Xn a b) (Nt a b).t:=
 .inr (.inr ⟨_,(Nt a b).cs,rfl,.cons (fV ..) (.cons (fV ..) (.cons (ko ..) (.cons (ko ..) (.cons (jh ..) (.cons (fV ..) (.cons (fV ..) (.cons (ko ..) (.cons (jh ..) (.cons (jh ..) (.cons (jh ..) .nil)))))))))),dO.nU _⟩)
def VZ{k:Int}{nm:List Nat}(d:k=12\/k=13):MS (Nt k nm)/\(Nt k nm).w<=wd 2:=by
 refine⟨.mk (λa=>by unfold Nt at a;simp at a;omega) (λa=>by unfold Nt at a;simp at a;omega) (λc b=>by unfold Nt at b;simp at b) (λa=>by unfold Nt at a;simp at a;omega) (λc b=>by unfold Nt at b;simp at b) (λc b=>by unfold Nt at b;simp at b),?_⟩;rw[dO.lI,dV.lI];unfold Nt wd;simp only[dO.sr,dO.Lm,dO.vD,dO.yK,dO.iW,dV.iW,dV.GY];omega
def FT.stmt{i:H}{g:Nat->Prop}{d:Nat}{c:T}{f:dO}(b:FT i g d c f.t):c.cells.length=11:=by
 cases d with
 |zero=>exact b.elim
 |succ d=>
  rw[f.nU]at b;rcases b with⟨j,k,a⟩|⟨_,_,_,_,_,_,h,_,_,_,_,a⟩|⟨e,n,rfl,l,a⟩
  ·cases c<;>first|exact absurd rfl (k _)|(rw[nP]at a;rename_i m b;cases m<;>simp[sl]at a;done)|(simp at a;done)|(simp[j4]at j;done)
  ·cases h<;>simp[sl]at a
  ·simp only[T.agg.injEq]at a;subst a;rw[show(T.agg e).cells=e from rfl,l.length];rfl
structure Th(L:List Int)(hC:H)(nm:List Nat)(bl cnt:Nat)(h:H)(v:T)(ver:Nat)(l:List dO):Prop where
 sv:SV (hC.size+1) h.size h 2 6 v l
 k:Mk L 0 h 2 1
 st:Step 2 hC h
 l8:Lb 2 h hC.size (dE 4 ver [.agg [.str nm,Z 0,.arr bl 0 0 2 false,v]])
 ms:∀s∈l,MS s/\s.w<=wd 2
 len:l.length<=cnt
 z:2<hC.size
theorem Th.cons{d:List Int}{h g:H}{j:List Nat}{e f m:Nat}{l:T}{i:List dO}(a:Th d h j e f g l m i)(c:iX):Th d h j e f (g.cons c) l m i:=by
 have b:=Step.cons a.k.ok a.k.lt c;exact⟨(a.sv.step b (au _)).wide (au _) dy,a.k.cons c,a.st.trans b,a.l8.step b,a.ms,a.len,a.z⟩
def Th.step{c:List Int}{h g d:H}{j:List Nat}{e f l:Nat}{k:T}{i:List dO}(a:Th c h j e f g k l i)(b:Step 2 g d)(m:Mk c 0 d 2 1):Th c h j e f d k l i:=
 ⟨(a.sv.step b (au _)).wide (au _) b.ok.sz,m,a.st.trans b,a.l8.step b,a.ms,a.len,a.z⟩
def Th.more{e:List Int}{i h:H}{j:List Nat}{f g m d:Nat}{c:T}{b:List dO}(a:Th e i j f g h c d b)(l:g<=m):∃c d b,Th e i j f m h c d b:=⟨c,d,b,a.sv,a.k,a.st,a.l8,a.ms,aO a.len l,a.z⟩
def Q2{X:List fO}(hl:X.length<=4)(b:∀a∈X,T7 a):N7 ⟨vY,X⟩:=by
 refine⟨⟨⟨by simp[vY],dA,λa ht=>⟨by have:=(b a ht).1;omega,by have:=(b a ht).2.1;omega⟩⟩,?_,λa ht=>(b a ht).2.2,7,by simp[vY],by simp[vY,sN]⟩,by simp[vY],by simp[vY],⟨1,0,[113],2,0,[]⟩,by simp[vY],rfl,rfl⟩;have d:∀X:List fO,(∀a∈X,T7 a)->qv X<=X.length*100000:=by
  intro X;induction X with
  |nil=>intro _;simp[qv]
  |cons e X c=>
   intro b;have f:=c λa ht=>b a (by simp[ht]);have g:=(b e dy).2.1;unfold qv at*
   simp only[aP,List.sum_cons,aT];omega
 have:=d X b;unfold qv at this;simp only;omega
def WL{b:H}{a c:T}(i:SL a []\/∃d e h,a= .arr d e 0 h false)(f:pz a=true)(g:b.jw c=some []):jc cx b 186 186 a c=some (.val a b):=by
 unfold jc rm om;rw[Al,ed,ed];simp only[show Ia.u= .slice 230 from rfl,Aj,g,ed];show(gX (fits _ []) (jL (gX (pz a) (some (a,b)))))=_;rw[f];rfl
def Th.app{o:List Int}{c f:H}{i:List Nat}{h p n m:Nat}{l x:T}{xs:List T}{r l2:List dO}(b:Th o c i h p f l m r)(v:f.jw x=some xs)(s:iF (FT f (Nw (c.size+1) f.size f 2 l) 8) xs (l2.map dO.t))(L:∀j∈l2,MS j/\j.w<=wd 2)(V:l2.length<=n)(U:p+n<=1000):
 ∃e a,jc cx f 186 186 l x=some (.val e a)/\a.get c.size=f.get c.size/\e.ir=true/\e.cells=[e]/\Th o c i h (p+n) (dY a c.size (dE 4 (m+1) [.agg [.str i,Z 0,.arr h 0 0 2 false,e]])) e (m+1) (r++l2):=by
 have fin:∀e a,SV (c.size+1) a.size a 2 6 e (r++l2)->Mk o 0 a 2 1->Step 2 c a->Lb 2 a c.size (dE 4 m [.agg [.str i,Z 0,.arr h 0 0 2 false,l]])->Th o c i h (p+n) (dY a c.size (dE 4 (m+1) [.agg [.str i,Z 0,.arr h 0 0 2 false,e]])) e (m+1) (r++l2):=λe a N D O g=>
  ⟨by rw[fJ];exact N.qD g (.inl (c8 _)) _,D.qD g _,Step.qD D.ok g _ _ O (au _),⟨(dN g.get _ _).trans (aq rfl),by rw[iT (show(dY a c.size _).get 2=a.get 2 by rw[dN g.get,ao (bm g.ne)])];exact g.nf⟩,λj I=>(List.mem_append.1 I).elim (b.ms j) (L j),by rw[aS];have:=b.len;omega,b.z⟩
 by_cases B:xs=[]
 ·subst B;have:l2=[]:=by cases l2 with|nil=>rfl|cons=>cases s
  subst this;have⟨S,u,_⟩:=b.sv;refine⟨l,f,?_,rfl,u.ir,u.cells,fin l f (by rw[bP];exact b.sv) b.k b.st b.l8⟩;rcases u with⟨rfl,rfl⟩|⟨Q,R,_,_,_,rfl,_⟩
  ·exact WL (.inl (Vo _ _)) rfl v
  ·exact WL (.inr ⟨_,_,_,rfl⟩) rfl v
 have E:∀q∈xs,q.cells.length=11:=λq F=>by
  have⟨W,G,K⟩:=s.IY F;obtain⟨j,_,rfl⟩:=List.mem_map.1 G;exact FT.stmt (d:=8) K
 have⟨e,a,q,y,M,P,C⟩:=b.sv.app b.k (by have:=b.l8.lt;omega) (au _) v s E B (by have:=b.len;omega);have A:=C c.size (c8 _);refine⟨e,a,q,A,y.gc.1,y.gc.2,fin e a y M (P c b.st J) ⟨A.trans b.l8.get,?_⟩⟩;rw[iT (C 2 (by have:=b.z;omega))];exact b.l8.nf
def ac8{z:List Int}{F b d:H}{m:List Nat}{e al M G i:Nat}{x L:T}{v:List dO}{n:List (List Nat×T×T)}{l:List fO}(g:Th z F m e 7 b x al v)(W:Lb 2 b 0 Fs)(U:Lb 2 b 4 Dt)
 (o:Lb 2 b e (dE 1 0 [.str [97],.str [98]])) (Y:nG d 3 2 M [(sl (vY.map iC.t),none),(L,some (4,(n++[(m,T.arr e 0 0 2 false,x)]).map Zu))]) (f:Step 3 b d) (N:iF (FT b (PgV i b) 10) (n.map Zu) (l.map fO.t)) (Q:∀w∈l,T7 w)
 (B:∀a,Fp b 3 a->a=3\/4<a) (A:∀a,Fp b 3 a->¬Fp b 2 a) (ap:l.length=G) (O:∀a,Fp b 3 a->a<i\/a=3) (an:4<i) (av:i<=F.size) (P:4<e/\i<=e):Rd z d (G+1):=by
 have aA:=g.l8.lt;have ae:b.size<=d.size:=f.ok.sz;have V:hU 0 d:=⟨f.ok.hp,f.ok.low,aw _⟩;have D:∀a,Fp b 2 a->d.get a=b.get a:=λa c=>f.get a (g.k.fp a c) λq=>A a q c;have p:=D 2 (.inl rfl);have S:∀a,a<=4->a≠3->¬Fp b 3 a:=λa j h q=>(B a q).elim h λq=>by omega
 have K:∀a y,Lb 2 b a y->a<=4->a≠3->Lb 2 d a y:=λa y u j h=>⟨(f.get a u.lt (S a j h)).trans u.get,by rw[iT p];exact u.nf⟩;have s:∀a,4<a->a<b.size->¬Fp b 2 a->¬Fp b 3 a->PgV d.size d a/\d.get a=b.get a:=λa j h E r=>⟨⟨j,J,by rw[iT p];exact E,λq=>(f.fp a q).elim r λq=>by omega⟩,f.get a h r⟩;have C:∀a,Fp b 3 a->a<i\/a=3:=λa c=>O a c;refine⟨g.k.same V ae D,⟨M,L,n++[(m,T.arr e 0 0 2 false,x)],l++[⟨m,0,[[97],[98]],v⟩],Y,?_,dz,λw ht=>?_,λa c=>?_,λa c q=>?_⟩,K 0 _ W J J,K 4 _ U J J⟩
 ·rw[List.map_append,List.map_append];refine iF.append (N.ft λa c=>s a c.1 (by have:=c.2.1;omega) c.2.2.1 c.2.2.2) (.cons ?_ .nil);have I:=s e P.1 o.lt o.nf λq=>(C e q).elim (λq=>by omega) λq=>by omega
  refine .inr (.inr ⟨_,_,rfl,.cons (ko ..) (.cons (fV ..) (.cons (.inr (.inl ⟨e,0,0,2,false,[.str [97],.str [98]],[.str [97],.str [98]],rfl,I.1,?_,.cons (ko ..) (.cons (ko ..) .nil),rfl⟩)) (.cons (g.sv.ft.mono λa c=>s a (by have:=c.1;omega) c.2.1 c.2.2.1 λq=>(C a q).elim (λq=>by have:=c.1;omega) λq=>by have:=c.1;omega) .nil))),rfl⟩);rw[ik,I.2,o.get];simp
 ·rcases List.mem_append.1 ht with q|q
  ·exact Q w q
  ·rw[List.mem_singleton.1 q];refine⟨dy,?_,λX R=>(g.ms X R).1⟩;have j:=xS g.ms;have h:=g.len;have E:v.length*wd 2<=7*wd 2:=aV _ h;have r:wd 2=10000:=rfl;simp only;omega
 ·rcases f.fp a c with q|q
  ·exact B a q
  ·exact .inr J
 ·rw[iT p]at q;rcases f.fp a c with k|k
  ·exact A a k q
  ·have:=g.k.fp a q;omega
def QL:oa prog cx 91 (λK:List Int=>[sl (K.map (T.int .u8))]) okB (λK r=>∃p:fK,r=p.t/\N7 p/\p.dH.length<=100):=by
 refine yV (tb:=⟨pt [(135,C3),(138,Kr),(137,ND),(102,j7.jA)],ht [(77,jI Az u7 sa),(136,Xy 11)]⟩) iL iB (iQ 2535301804919368649890680801277 [(15,[(1,7),(1,9)])] func91) (λ_=>1000) (λa b e=>by simp at e;exact jz (λ_ _ e=>by simpa using e) e) dy nl9 ?_;rintro K bH c et;simp at et;simp[f91,et,SA];generalize A:(((H.cons (H.cons hE _) _).cons _).cons _:H)=ho;obtain⟨c4,gD,gQ,hj⟩:=TQ K A.symm;clear A;refine sK dy c4.tp c4.ok J J bH λbS o hB t2 eL=>?_;obtain⟨a6,eR⟩:=c4.tape eL t2;have gE:=gD.step eR J;have e5:o.size=4:=eL.size.trans hj;have e8:binop .add (Z 2) (Z bS)=some (Z ((2+bS:Nat):Int)):=by rw[iz J J];simp
 simp[e8,e5];have hF:2+bS<=4:=J;generalize cy:2+bS=n at*
 refine fk n J (λj c e=>Rd K e j/\dF c 2 (.ptr 0 0 0 0)/\dF c 3 (.ptr 2 0 0 0)/\dF c 4 (.ptr 3 0 0 0)/\dF c 5 (Z n)/\dF c 6 (.arr 4 0 0 4 false)/\dF c 7 (Z j)) ?_ ?_ J ?_
 ·rintro j c e fS fs ⟨⟨aX,bT,bi,nm⟩,o,C,u,D,F,h⟩;obtain⟨bX,g,left,set,de,b6,c1,eC,bN,B,aE,hl⟩:=aX.ex;obtain⟨an,P⟩:=aX.set (th':=j) (left':=left) (se':=set) (tx':=de) (at2:=b6) (lp':=c1) B aE hl;have c6:=nm.step an;have eI:=bi.step an;simp only[sR]at B an P c6 eI;have fB:j<4:=J;obtain⟨al,gi⟩:∃s,ZL[j]? =some s:=⟨ZL[j]'(by show j<4;omega),az (by show j<4;omega)⟩;simp[C,D,F,h,fS,B,dX];generalize dY e 2 _=i at*
  have eb:=c6.get;unfold Dt at eb;have fL:i.low<=i.size+1:=Nat.le_succ_of_le P.ok.low;simp[h,eb,gi,fB,fL];have hG:=P.lt;have c7:=Step.cons P.ok P.lt (dE 1 0 [.str [97],.str [98]]);have a7:=P.cons (dE 1 0 [.str [97],.str [98]]);have gm:=Lb.new P.lt P.fp (dE 1 0 [.str [97],.str [98]]);have bn:=an.trans c7;have Q:Th K (i.cons (dE 1 0 [.str [97],.str [98]])) al i.size 0 ((i.cons (dE 1 0 [.str [97],.str [98]])).cons (dE 4 1 [.agg [.str al,Z 0,.arr i.size 0 0 2 false,dD]])) dD 1 []:=
   ⟨SV.nil _ _ _ _ _,a7.cons _,Step.cons a7.ok a7.lt _,by simpa using Lb.new a7.lt a7.fp (dE 4 1 [.agg [.str al,Z 0,.arr i.size 0 0 2 false,dD]]),dy,dy,dz⟩
  have fA:i.size+1=(i.cons (dE 1 0 [.str [97],.str [98]])).size:=rfl;simp only[fA];generalize hy:i.cons (dE 1 0 [.str [97],.str [98]])=G at*
  refine kQ (λc U=>∃v bX l,Th K G al i.size 3 U v bX l/\dF c 2 (.ptr 0 0 0 0)/\dF c 3 (.ptr 2 0 0 0)/\dF c 4 (.ptr 3 0 0 0)/\dF c 5 (Z n)/\dF c 6 (.arr 4 0 0 4 false)/\dF c 7 (Z j)/\dF c 8 (.ptr G.size 0 0 0)) (λA=>?_) (λA=>?_) ?_
  ·simp;refine rO n (λk c U=>1<=k/\(∃v bX l,Th K G al i.size (k-1) U v bX l/\dF c 2 (.ptr 0 0 0 0)/\dF c 3 (.ptr 2 0 0 0)/\dF c 4 (.ptr 3 0 0 0)/\dF c 5 (Z n)/\dF c 6 (.arr 4 0 0 4 false)/\dF c 7 (Z j)/\dF c 8 (.ptr G.size 0 0 0))/\dF c 9 (Z k)) ?_ J (k:=1) J ⟨au _,⟨_,_,_,Q,by simp[o,C,u,D,F,h]⟩,dy⟩;rintro k c U hA ⟨fC,⟨v,e0,l,g,o,C,u,D,F,h,L⟩,eo⟩;have ae:=g.l8.get;have gw:=(nm.step bn).step g.st;have ec:=gw.get;unfold Dt at ec;have hD:decide ((k:Int)<n)=decide (k<n):=by rw[decide_eq_decide];omega
   simp[D,eo];refine ee (λA=>?_) (λA=>?_)
   ·have cy:k<n:=by simpa using A
    have fE:k<4:=J;obtain⟨a8,gg⟩:∃s,ZL[k]? =some s:=⟨ZL[k]'(by show k<4;omega),az (by show k<4;omega)⟩;have bC:=g.cons (dE 11 0 [Xn 12 a8]);obtain⟨eX,ca,O,gA,ap,av,R⟩:=bC.app (x:= .arr U.size 0 0 1 false) (xs:=[Xn 12 a8]) (l2:=[Nt 12 a8]) (n:=1) (by rw[ik];simp) (.cons (V0 12 a8 6) .nil) (by simp[VZ (k:=12) (nm:=a8) (.inl rfl)]) dy J;have b9:=gA.trans bC.l8.get;have eh:(G.size=U.size)=False:=by have:=g.l8.lt;simp;omega
    simp only[Xn]at O;simp[F,L,eo,ec,gg,fE,ae,O,b9,dX,ap,av];have ff:binop .add (Z (k:Int)) (Z 1)=some (Z ((k+1:Nat):Int)):=by rw[iz J J];simp
    simp[o,C,u,D,F,h,L,ff];exact⟨k+1,J,J,J,⟨eX,_,_,by rw[show k+1-1=k-1+1 by omega];exact R⟩,dy⟩
   ·have cy:k=n:=by simp at A;omega
    subst cy;simp[o,C,u,D,F,h,L];exact⟨v,e0,l,g.sv,g.k,g.st,g.l8,g.ms,by have:=g.len;omega,g.z⟩
  ·simp[o,C,u,D,F,h];exact⟨_,_,_,Q.sv,Q.k,Q.st,Q.l8,Q.ms,by have:=Q.len;omega,Q.z⟩
  ·rintro c U ⟨v,e0,l,g,o,C,u,D,F,h,L⟩;have ae:=g.l8.get;obtain⟨hg,th',left,gZ,de,b6,c1,eC,bN,B,aE,hl⟩:=g.k.ex;simp only[sR]at B;simp[C,L,ae,B];clear B aE hl;refine Lw dy g.k.tp g.k.ok J J bH λaN cb fC eW eM=>?_;obtain⟨eE,eS⟩:=g.k.tape eM eW;have bu:=g.step eS eE;have b7:binop .add (Z 1) (Z aN)=some (Z ((1+aN:Nat):Int)):=by rw[iz J J];simp
   have hb:=fD (bu.l8.get.trans ae.symm);simp[b7,hb];refine mo (afx 11) dy ⟨K,2,1,0,2,1+aN⟩ ⟨⟨dy,eE,bH,dy,dy,dA⟩,dy⟩ ?_;rintro w hE ⟨l2,bs,ey,gd,eF,c9⟩;simp only at bs ey gd eF c9;have dd:=bu.step c9 eF;obtain⟨hn,dv,dm,gP⟩:=bs;have hL:=bu.l8.lt;obtain⟨eX,ca,O,gA,ap,av,R⟩:=dd.app (n:=3) dv.jw (dm.ft λS M=>⟨⟨by have:=M.1;omega,M.2.1,M.2.2.1,bu.sv.box (by have:=M.1;omega)⟩,rfl⟩) ey J J;have bs:=fD (dd.l8.get.trans bu.l8.get.symm);have ea:=gA.trans dd.l8.get;have eV:=fD gA;clear gA eM eS c9 eW dm dv gP;cases eu:decide (j=0)
   case' false=>
    simp[u,h,L,O,ea,eV,bs,dX,ap,av,eu];generalize dY ca G.size _=V at*
    obtain⟨di,e4,eD,I⟩:=R.more (m:=7) J
   case' true=>
    simp[C,h,L,O,ea,eV,bs,dX,ap,av,eu];generalize dY ca G.size _=V at*
    obtain⟨hg,th',left,gZ,de,b6,c1,eC,bN,B,aE,hl⟩:=R.k.ex;simp only[sR]at B;simp[B];clear B aE hl;refine sK dy R.k.tp R.k.ok J J bH λgk cp hC hd gV=>?_;obtain⟨gn,ha⟩:=R.k.tape gV hd;have bB:=R.step ha gn;have fl:=bB.l8.get;have eB:=((nm.step bn).step bB.st).get;unfold Dt at eB;simp;refine ee (λA=> ?gz) (λA=> ?gB)
    case' gB=>
     simp;generalize cp=V at*
     obtain⟨di,e4,eD,I⟩:=bB.more (m:=7) J
    case' gz=>
     have bC:=bB.cons (dE 11 0 [Xn 13 [116,49]]);obtain⟨hJ,fo,O,gA,ap,av,hf⟩:=bC.app (x:= .arr cp.size 0 0 1 false) (xs:=[Xn 13 [116,49]]) (l2:=[Nt 13 [116,49]]) (n:=1) (by rw[ik];simp) (.cons (V0 13 [116,49] 6) .nil) (by simp[VZ (k:=13) (nm:=[116,49]) (.inr rfl)]) dy J;have b9:=gA.trans bC.l8.get;have eh:(G.size=cp.size)=False:=by have:=bB.l8.lt;simp;omega
     have fY:ZL[1]? =some [116,49]:=rfl;simp only[Xn]at O;simp[u,F,L,eB,fY,fl,O,b9,dX,ap,av];generalize dY fo G.size _=V at*
     obtain⟨di,e4,eD,I⟩:=hf.more (m:=7) J
   all_goals
    have gI:=bT.step (bn.trans I.st) (au _);have gS:=(eI.step c7).step I.st;have gy:=(c6.step c7).step I.st;have ae:=I.l8.get;have e6:=gm.step I.st;obtain⟨hh,dn,E,X,N,aA,er,cL,b8,ds⟩:=gI;have Y:=N.get;simp at Y;have eh:(G.size=V.size)=False:=by have:=I.l8.lt;simp;omega
    have fi:∀S,Fp V 3 S->S<e.size:=λS M=>by
     obtain⟨_,_,_,_,eO,_,_,_,_,e7⟩:=bT;have e9:V.get 3=e.get 3:=(bn.trans I.st).get 3 eO.lt (e7 3 (.inl rfl));rw[iT e9]at M;exact eO.fp S M
    have hq:(3=V.size)=False:=by have:=N.lt;simp;omega
    have hs:E.length=j:=by have:=aA.length;simp at this;omega
    obtain⟨hK,hv,eT,dk⟩:=(N.gr 1 rfl).lP (cx:=cx) (f:=Zu) N.ok UU rfl UQ rfl dy (λx=>rfl) (al,.arr i.size 0 0 2 false,di) dz;obtain⟨eH,hI,gM⟩:=N.app 1 rfl dk;obtain⟨eU,eP⟩:=gM _ rfl;simp at eH eU eP;simp only[Zu]at eT;simp[o,C,u,D,F,h,L,Y,ae,eT,eH,dX,dk.1.ir,dk.1.cells,fs];exact ac8 I gS gy e6 eP eU aA cL b8 ds er (λS M=> .inl (fi S M)) (by have:=nm.lt;omega) (by have:=bn.ok.sz;omega) ⟨by have:=nm.lt;have:=an.ok.sz;omega,an.ok.sz⟩
 ·rintro c e ⟨⟨aX,bT,bi,nm⟩,o,C,u,D,F,h⟩;obtain⟨hh,dn,E,X,N,aA,er,cL,b8,ds⟩:=bT;have Y:=N.get;simp at Y;have W:=bi.get;unfold Fs at W;have cb:=Q2 (X:=X) J cL;have fb:=(N.gr 1 rfl).Jl (d:=10) J aA;have b7:=λ{tb:fy} (ht:tb.p 102=some j7.jA)=>c04 ht ⟨vY,X⟩ cb.1;simp[u,D,h,Y,fb,b7];have gv:(0=e.size)=False:=by have:=bi.lt;simp;omega
  have ef:∀y,(dY e 0 y).get 0=some y:=λy=>(dN W y 0).trans (aq rfl);refine ee (λA=>?_) (λA=>?_)
  ·have aN:(e.size=e.size+1+1)=False:=by simp<;>omega
   have gk:(e.size+1=e.size+1+1)=False:=dy;have hH:(e.size=e.size+1)=False:=dy;simp[o,W,SA,U9,sS,gv,ef,dX,bi.lt,ik,yG,dT,aN];have fX:∀t∈ [(⟨[109,97,105,110],0,[[97],[98]],[Ez [120] [] ⟨1,1,[],[]⟩]⟩:fO)],T7 t:=λt ht=>by
    rw[List.mem_singleton.1 ht];have gj:(Ez [120] [] ⟨1,1,[],[]⟩).w<=wd 0:=M3 (by rw[dV.iW];omega) (by rw[dV.lI];simp[dV.iW]);refine⟨dy,?_,λs bN=>?_⟩
    ·simp only[dO.ke,dO.iW];unfold wd at gj;omega
    ·rw[List.mem_singleton.1 bN];exact El dy (.num 1) (λq=>absurd rfl q)
   exact⟨⟨⟨vY,[⟨[109,97,105,110],0,[[97],[98]],[Ez [120] [] ⟨1,1,[],[]⟩]⟩]⟩,rfl,Q2 dy fX,dy⟩,aX.ok.hp⟩
  ·have l3:Lb 3 e 0 (dE 2 0 [.agg [dD,dD]]):=⟨W,λq=>(b8 0 q).elim J J⟩;have fe:=((N.qD l3 (dE 2 1 [.agg [sl (vY.map iC.t),dn]])).gr 1 rfl).Jl (d:=10) J (aA.ft (V':=λ_=>True) λb fv=>⟨trivial,by rw[dN W,ao (by have:=fv.1;omega)]⟩);simp[o,u,Y,W,dX,ef,fe];exact⟨⟨⟨vY,X⟩,rfl,cb,dA⟩,aX.ok.hp⟩
 ·have eN:=Step.cons a6.ok a6.lt Dt;have eA:=Lb.new a6.lt a6.fp Dt;rw[e5]at eA;simp;exact⟨⟨a6.cons _,(gE.step eN J).wide dz,(gQ.step eR).step eN,eA⟩,J⟩
end
def FO:oa prog cx 42 (λa:List Int=>[sl (a.map (T.int .u8))]) (λa=>okB a/\a.length<=1000000) (λa w=>∃c:List gF,w=sl (c.map gF.t)/\c.length=a.length):=by
 refine jk [] (iQ 285 [] func42) (λa=>a.length+5) (λx y b=>by simp at b;exact jz (λ_ _ b=>by simpa using b) b) ?_;rintro a ⟨⟨_,u⟩,A⟩ e o;simp at o;simp[f42];refine fk a.length J (λd e b=>∃g,∃c:List gF,Gr b g 2 (c.map gF.t)/\hU 0 b/\c.length=d/\dF e 0 (sl (a.map (T.int .u8)))/\dF e 3 g/\dF e 4 (Z d)) ?_ ?_ J ⟨dD,[],Gr.nil _ _,by exact⟨dy,dy,dy⟩,rfl,by simp[o]⟩
 ·rintro d e b p v ⟨g,c,h,l,n,i,j,k⟩;have B:=u a[d] (aD p);have q: -9223372036854775808<=a[d]:=J;have r:a[d]<9223372036854775808:=J;have⟨C,z,s,m⟩:=h.lP (cx:=cx) (f:=gF.t) l Lq rfl Lp rfl dy (λ_=>rfl) (⟨a[d].tmod 4,IntKind.i64.wrap ((IntKind.i64.wrap (a[d].tdiv 4)).tmod 5-1)⟩:gF) dz;simp[i,j,k,p,s,v,q,r,BY (show¬(4:Int)=0 by omega),abE (show¬(4:Int)=0 by omega),BY (show¬(5:Int)=0 by omega),qX];exact⟨_,_,m.1,⟨m.2.2.2.hp,m.2.2.2.low,aw _⟩,dz,rfl⟩
 ·rintro e b ⟨g,c,h,l,n,i,j,k⟩;simp[i,j,k];exact⟨_,⟨c,rfl,n⟩,l.hp,by rw[Le g h.ir,h.qP dy]⟩
