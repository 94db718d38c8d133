/- W01f -/
import Derived.Test.YtdpclhaknmicoaaGreatDoorA19
set_option linter.all false
set_option maxRecDepth 100000
set_option maxHeartbeats 0
namespace Go.Proofs.YtdpclhaknmicoaaGreatDoor
noncomputable section
open Go Go.TI Tryz
attribute [-simp] List.map_take List.map_drop List.map_append ik gu fI Bool.not_or Bool.not_and
section
attribute [-simp] size_cons
def thT(a:List Nat×T×T):T:= .agg [.str a.1,M 0,a.2.1,a.2.2]
def W6(a:iQ):Prop:=a.locals.length<=10/\fk.ws a.body<=100000/\∀b∈a.body,MS b
def PgV(c:Nat)(b:H)(a:Nat):Prop:=4<a/\a<c/\¬Fp b 2 a/\¬Fp b 3 a
def Pg(e:Nat)(b:H)(f:Nat):Prop:=∃h a,∃d:List (List Nat×T×T),∃c:List iQ,rD b 3 2 h [(sl (yL.map js.t),none),(a,some (4,d.map thT))]/\
 jw (FT b (PgV e b) 10) (d.map thT) (c.map iQ.t)/\c.length=f/\(∀g∈c,W6 g)/\(∀a,Fp b 3 a->a=3\/4<a)/\∀a,Fp b 3 a->¬Fp b 2 a
def Pg.step{e j:Nat}{d g:H}(r:Pg e d j)(b:Step 2 d g)(x:e<=d.size):Pg e g j:=by obtain⟨w,c,m,n,l,o,s,t,u,k⟩:=r;have⟨v,p⟩:=l.other k b;have h:=b.get 3 l.lt (k 3 (.inl rfl));refine⟨w,c,m,n,v,o.ft λf a=>⟨⟨a.1,a.2.1,λq=>?_,by rw[jY h];exact a.2.2.2⟩,b.get f (by have:=a.2.1;omega) a.2.2.1⟩,s,t,λc i=>by rw[jY h]at i;exact u c i,p⟩;rcases b.fp f q with q|q;exact a.2.2.1 q;have:=a.2.1;omega
def Pg.wide{c d e:Nat}{b:H}(j:Pg c b e)(o:c<=d):Pg d b e:=by obtain⟨m,i,f,g,l,h,k⟩:=j;exact⟨m,i,f,g,l,h.ft λn a=>⟨⟨a.1,iV a.2.1,a.2.2⟩,rfl⟩,k⟩
def nms:List (List Nat):=[[109,97,105,110],[116,49],[116,50],[116,51]]
def Gw:jO:=⟨1,0,0,true,false,nms.map T.str⟩
def In:jO:=(eg 2 0 [.agg [ed,ed]])
structure RdM(L:List Int)(h:H)(i:Nat):Prop where
 k:Mk L 0 h 2 1
 pg:Pg h.size h i
 re:Lb 2 h 0 In
 nm:Lb 2 h 4 Gw
def WE(i:List Int){c:H}(d:c=((((hE.cons In).cons (eg 2 0 [.agg [sl (i.map (T.int .u8)),M 0]])).cons (eg 8 0 [.agg (wg 1 0 20 false false false false ed)])).cons (eg 2 1 [.agg [sl (yL.map js.t),ed]]))):
 Mk i 0 c 2 1/\Pg 4 c 0/\Lb 2 c 0 In/\c.size=4:=by
 have m:jk 0 c:=by subst d;exact⟨Y,Y,Y⟩
 have k:c.get 2=G (eg 8 0 [.agg (wg 1 0 20 false false false false ed)]):=by subst d;simp
 have f:∀a,Fp c 2 a->a=2\/a=1:=by
  rintro a (rfl|⟨p,g,o,l,b⟩);exact .inl rfl
  .rw[k]at g;cases g;simp[iy,T.cells,wg]at l;rcases l with rfl|rfl|rfl|rfl|rfl|rfl|rfl|rfl<;>first|(have b:(none:aa Nat)=G a:=b;simp at b;done)|(have b:some 1=G a:=b;simp at b;exact .inr b.symm)
 have⟨n,j⟩:=rD.start (h:=c) (w:=3) (szw:=2) (ver:=1) (F:=[(sl (yL.map js.t),none),(ed,some (4,[]))]) m (by subst d;simp) Y;refine⟨⟨m,λa e=>?_,⟨0,0,by subst d;simp,Int.le_refl _⟩,0,0,20,false,false,false,false,ed,[],k,Gr.nil _ _,rfl⟩,⟨1,ed,[],[],n,.nil,rfl,Y,λa e=> .inl (j a e),λa e b=>?_⟩,⟨by subst d;simp[In],λb=>?_⟩,by subst d;simp⟩;have:=f a e;subst d;simp;omega;have:=f a b;have:=j a e;omega;have:=f 0 b;omega
def QN(a:Int)(b:List Nat):fk:=⟨a,0,b,[],[],⟨0,0,[],[]⟩,[],[]⟩
def spT(a:Int)(b:List Nat):T:= .agg [M a,M 0,.str b,.str [],ed,M 0,M 0,.str [],ed,ed,ed]
def Zh{e:H}{c:Nat->Prop}(a:Int)(b:List Nat)(d:Nat):FT e c (d+2) (spT a b) (QN a b).t:=
 .inr (.inr ⟨_,(QN a b).cs,rfl,.cons (jh ..) (.cons (jh ..) (.cons (lL ..) (.cons (lL ..) (.cons (kj ..) (.cons (jh ..) (.cons (jh ..) (.cons (lL ..) (.cons (kj ..) (.cons (kj ..) (.cons (kj ..) .nil)))))))))),fk.qv _⟩)
def Zg{k:Int}{nm:List Nat}(d:k=12\/k=13):MS (QN k nm)/\(QN k nm).w<=wd 2:=by refine⟨.mk (λa=>by unfold QN at a;simp at a;omega) (λa=>by unfold QN at a;simp at a;omega) (λc b=>by unfold QN at b;simp at b) (λa=>by unfold QN at a;simp at a;omega) (λc b=>by unfold QN at b;simp at b) (λc b=>by unfold QN at b;simp at b),?_⟩;rw[fk.nN,fJ.nN];unfold QN wd;simp only[fk.vP,fk.Oh,fk.yr,fk.BJ,fk.jW,fJ.jW,fJ.JC];omega
def FT.stmt{i:H}{g:Nat->Prop}{d:Nat}{c:T}{f:fk}(b:FT i g d c f.t):c.cells.length=11:=by
 cases d with
 |zero=>exact b.elim
 |succ d=>
  rw[f.qv]at b;rcases b with⟨j,k,a⟩|⟨_,_,_,_,_,_,h,_,_,_,_,a⟩|⟨e,n,rfl,l,a⟩
  .cases c<;>first|exact absurd rfl (k _)|(rw[qr]at a;rename_i m b;cases m<;>simp[sl]at a;done)|(simp at a;done)|(simp[lr]at j;done)
  cases h<;>simp[sl]at a;simp[T.agg.injEq]at a;subst a;rw[show(T.agg e).cells=e from rfl,l.length];rfl
structure Th(L:List Int)(hC:H)(nm:List Nat)(bl cnt:Nat)(h:H)(v:T)(ver:Nat)(l:List fk):Prop where
 sv:SV (hC.size+1) h.size h 2 6 v l
 k:Mk L 0 h 2 1
 st:Step 2 hC h
 l8:Lb 2 h hC.size (eg 4 ver [.agg [.str nm,M 0,.arr bl 0 0 2 false,v]])
 ms:∀s∈l,MS s/\s.w<=wd 2
 len:l.length<=cnt
 z:2<hC.size
theorem Th.cons{d:List Int}{h g:H}{j:List Nat}{e f m:Nat}{l:T}{i:List fk}(a:Th d h j e f g l m i)(c:jO):Th d h j e f (g.cons c) l m i:=by have b:=Step.cons a.k.ok a.k.lt c;exact⟨(a.sv.step b (ay _)).wide (ay _) Y,a.k.cons c,a.st.trans b,a.l8.step b,a.ms,a.len,a.z⟩
def Th.step{c:List Int}{h g d:H}{j:List Nat}{e f l:Nat}{k:T}{i:List fk}(a:Th c h j e f g k l i)(b:Step 2 g d)(m:Mk c 0 d 2 1):Th c h j e f d k l i:=
 ⟨(a.sv.step b (ay _)).wide (ay _) b.ok.sz,m,a.st.trans b,a.l8.step b,a.ms,a.len,a.z⟩
def Th.more{e:List Int}{i h:H}{j:List Nat}{f g m d:Nat}{c:T}{b:List fk}(a:Th e i j f g h c d b)(l:g<=m):∃c d b,Th e i j f m h c d b:=⟨c,d,b,a.sv,a.k,a.st,a.l8,a.ms,aV a.len l,a.z⟩
def Ue{Xq:List iQ}(hl:Xq.length<=4)(b:∀a∈Xq,W6 a):Rn ⟨yL,Xq⟩:=by
 refine⟨⟨⟨by simp[yL],dZ,λa ht=>⟨iV (b a ht).1,iV (b a ht).2.1⟩⟩,?_,λa ht=>(b a ht).2.2,7,by simp[yL],by simp[yL,uO]⟩,by simp[yL],by simp[yL,mH],⟨1,0,[113],2,0,[]⟩,by simp[yL],rfl,rfl⟩;have d:∀Xq:List iQ,(∀a∈Xq,W6 a)->tU Xq<=Xq.length*100000:=by
  intro Xq;induction Xq with
  |nil=>intro _;simp[tU]
  |cons e Xq c=>
   intro b;have f:=c λa ht=>b a (by simp[ht]);have g:=(b e Y).2.1;unfold tU at*
   simp[aS,List.sum_cons,aU];omega
 have:=d Xq b;unfold tU at this;simp only;omega
def Z2{b:H}{a c:T}(i:SL a []\/∃d e h,a= .arr d e 0 h false)(f:vM a)(g:b.kd c=G []):jE cx b 176 176 a c=be a b:=by unfold jE tu pP;rw[CT,fw,fw];simp[CR,g,fw];show(iX (fits _ []) (kJ (iX (vM a) (some (a,b)))))=_;rw[f];rfl
def Th.app{o:List Int}{c f:H}{i:List Nat}{h q n m:Nat}{l x:T}{xs:List T}{s l2:List fk}(b:Th o c i h q f l m s)(A:f.kd x=G xs)(u:jw (FT f (Nw (c.size+1) f.size f 2 l) 8) xs (l2.map fk.t))(P:∀j∈l2,MS j/\j.w<=wd 2)(ae:l2.length<=n)(Z:q+n<=1000):
 ∃e a,jE cx f 176 176 l x=be e a/\a.get c.size=f.get c.size/\e.je/\e.cells=[e]/\Th o c i h (q+n) (fQ a c.size (eg 4 (m+1) [.agg [.str i,M 0,.arr h 0 0 2 false,e]])) e (m+1) (s++l2):=by
 have fin:∀e a,SV (c.size+1) a.size a 2 6 e (s++l2)->Mk o 0 a 2 1->Step 2 c a->Lb 2 a c.size (eg 4 m [.agg [.str i,M 0,.arr h 0 0 2 false,l]])->Th o c i h (q+n) (fQ a c.size (eg 4 (m+1) [.agg [.str i,M 0,.arr h 0 0 2 false,e]])) e (m+1) (s++l2):=λe a R F S g=>
  ⟨by rw[iB];exact R.uB g (.inl (dE _)) _,F.uB g _,Step.uB F.ok g _ _ S (ay _),⟨(fj g.get _ _).trans (au rfl),by rw[jY (show(fQ a c.size _).get 2=a.get 2 by rw[fj g.get,aq (bH g.ne)])];exact g.nf⟩,λj N=>(List.mem_append.1 N).elim (b.ms j) (P j),by rw[aT];have:=b.len;omega,b.z⟩
 by_cases D:xs=[];subst D;have:l2=[]:=by cases l2 with|nil=>rfl|cons=>cases u
 subst this;have⟨X,v,_⟩:=b.sv;refine⟨l,f,?_,rfl,v.je,v.cells,fin l f (by rw[cq];exact b.sv) b.k b.st b.l8⟩;rcases v with⟨rfl,rfl⟩|⟨V,W,_,_,_,rfl,_⟩
 exact Z2 (.inl (YB _ _)) rfl A;exact Z2 (.inr ⟨_,_,_,rfl⟩) rfl A;have I:∀r∈xs,r.cells.length=11:=λr K=>by
  have⟨y,L,O⟩:=u.UF K;obtain⟨j,_,rfl⟩:=List.mem_map.1 L;exact FT.stmt (d:=8) O
 have⟨e,a,r,B,Q,U,E⟩:=b.sv.app b.k (iV b.l8.lt) (ay _) A u I D (iV b.len);have C:=E c.size (dE _);refine⟨e,a,r,C,B.gc.1,B.gc.2,fin e a B Q (U c b.st J) ⟨C.trans b.l8.get,?_⟩⟩;rw[jY (E 2 (iV b.z))];exact b.l8.nf
def aga{y:List Int}{E b d:H}{m:List Nat}{e an N F i:Nat}{w L:T}{l9:List fk}{n:List (List Nat×T×T)}{l:List iQ}(g:Th y E m e 7 b w an l9)(X:Lb 2 b 0 In)(V:Lb 2 b 4 Gw)
 (o:Lb 2 b e (eg 1 0 [.str [97],.str [98]])) (ae:rD d 3 2 N [(sl (yL.map js.t),none),(L,some (4,(n++[(m,T.arr e 0 0 2 false,w)]).map thT))]) (f:Step 3 b d) (O:jw (FT b (PgV i b) 10) (n.map thT) (l.map iQ.t)) (R:∀v∈l,W6 v)
 (A:∀a,Fp b 3 a->a=3\/4<a) (z:∀a,Fp b 3 a->¬Fp b 2 a) (ap:l.length=F) (P:∀a,Fp b 3 a->a<i\/a=3) (ao:4<i) (ar:i<=E.size) (Q:4<e/\i<=e):RdM y d (F+1):=by
 have av:=g.l8.lt;have al:b.size<=d.size:=f.ok.sz;have W:jk 0 d:=⟨f.ok.hp,f.ok.low,az _⟩;have C:∀a,Fp b 2 a->d.get a=b.get a:=λa c=>f.get a (g.k.fp a c) λq=>z a q c;have p:=C 2 (.inl rfl);have U:∀a,a<=4->a≠3->¬Fp b 3 a:=λa j h q=>(A a q).elim h λq=>by omega
 have K:∀a x,Lb 2 b a x->a<=4->a≠3->Lb 2 d a x:=λa x u j h=>⟨(f.get a u.lt (U a j h)).trans u.get,by rw[jY p];exact u.nf⟩;have s:∀a,4<a->a<b.size->¬Fp b 2 a->¬Fp b 3 a->PgV d.size d a/\d.get a=b.get a:=λa j h D r=>⟨⟨j,J,by rw[jY p];exact D,λq=>(f.fp a q).elim r λq=>by omega⟩,f.get a h r⟩;have B:∀a,Fp b 3 a->a<i\/a=3:=λa c=>P a c;refine⟨g.k.same W al C,⟨N,L,n++[(m,T.arr e 0 0 2 false,w)],l++[⟨m,0,[[97],[98]],l9⟩],ae,?_,dY,λv ht=>?_,λa c=>?_,λa c q=>?_⟩,K 0 _ X J J,K 4 _ V J J⟩;rw[List.map_append,List.map_append];refine jw.append (O.ft λa c=>s a c.1 (iV c.2.1) c.2.2.1 c.2.2.2) (.cons ?_ .nil);have I:=s e Q.1 o.lt o.nf λq=>(B e q).elim (λq=>by omega) λq=>by omega
 refine .inr (.inr ⟨_,_,rfl,.cons (lL ..) (.cons (jh ..) (.cons (.inr (.inl ⟨e,0,0,2,false,[.str [97],.str [98]],[.str [97],.str [98]],rfl,I.1,?_,.cons (lL ..) (.cons (lL ..) .nil),rfl⟩)) (.cons (g.sv.ft.mono λa c=>s a (iV c.1) c.2.1 c.2.2.1 λq=>(B a q).elim (λq=>iV c.1) λq=>iV c.1) .nil))),rfl⟩);rw[iW,I.2,o.get];simp;rcases List.mem_append.1 ht with q|q;exact R v q;rw[List.mem_singleton.1 q];refine⟨Y,?_,λZ S=>(g.ms Z S).1⟩;have j:=BX g.ms;have h:=g.len;have D:l9.length*wd 2<=7*wd 2:=bG _ h;have r:wd 2=10000:=rfl;simp only;omega;rcases f.fp a c with q|q;exact A a q;exact .inr J;rw[jY p]at q;rcases f.fp a c with k|k
 exact z a k q;have:=g.k.fp a q;omega
def TW:p8 prog cx 84 (λA:List Int=>[sl (A.map (T.int .u8))]) okB (λA r=>∃cb:iH,r=cb.t/\Rn cb/\cb.eY.length<=100):=by
 refine yQ (tb:=⟨pt [(138,FR),(142,Nk),(141,QW),(88,lN.kx)],ht [(139,kW C7 x8 vD),(140,rMs 11)]⟩) ml kl (jz 2535301804919368649890680801277 [(15,[(1,7),(1,9)])] func84) (λ_=>1000) (λa b e=>by simp at e;exact jD (λ_ _ e=>iC e) e) Y nl9 ?_;rintro A a8 c ee;simp at ee;simp[f84,ee,VA];generalize l:(((H.cons (H.cons hE _) _).cons _).cons _:H)=gQ;obtain⟨b9,gi,gn,gM⟩:=WE A l.symm;refine vZ Y b9.tp b9.ok J J a8 λbn g hb t2 eC=>?_;obtain⟨ao,eH⟩:=b9.tape eC t2;have eS:=eC.size.trans gM;have eW:binop .add (M 2) (M bn)=G (M ((2+bn:Nat):Int)):=by rw[jr J J];simp
 simp[eW,eS];have hg:2+bn<=4:=J;generalize b6:2+bn=n at*
 refine io n J (λi c e=>RdM A e i/\jg c 2 0/\jg c 3 2/\jg c 4 3/\iS c 5 n/\ka c 6 (.arr 4 0 0 4 false)/\iS c 7 i) ?_ ?_ J ?_
 .rintro i c e fv e8 ⟨⟨an,br,av,nm⟩,g⟩;obtain⟨bs,h,left,set,c4,bu,b8,et,bi,o,a7,hl⟩:=an.ex;obtain⟨V,F⟩:=an.set (th':=i) (left':=left) (se':=set) (tx':=c4) (at2:=bu) (lp':=b8) o a7 hl;have ca:=nm.step V;have eB:=av.step V;simp[wg]at o V F ca eB;have fe:i<4:=J;obtain⟨U,fE⟩:∃s,nms[i]? =G s:=⟨nms[i]'(by show i<4;omega),aF (by show i<4;omega)⟩;simp[g,fv,o,fN];generalize fQ e 2 _=j at*
  have dm:=ca.get;unfold Gw at dm;simp[g,dm,fE,fe,(Nat.le_succ_of_le F.ok.low)];have hh:=F.lt;have cp:=Step.cons F.ok F.lt (eg 1 0 [.str [97],.str [98]]);have ap:=F.cons (eg 1 0 [.str [97],.str [98]]);have fP:=Lb.new F.lt F.fp (eg 1 0 [.str [97],.str [98]]);have ax:=V.trans cp;have I:Th A (j.cons (eg 1 0 [.str [97],.str [98]])) U j.size 0 ((j.cons (eg 1 0 [.str [97],.str [98]])).cons (eg 4 1 [.agg [.str U,M 0,.arr j.size 0 0 2 false,ed]])) ed 1 []:=
   ⟨SV.nil _ _ _ _ _,ap.cons _,Step.cons ap.ok ap.lt _,iC (Lb.new ap.lt ap.fp (eg 4 1 [.agg [.str U,M 0,.arr j.size 0 0 2 false,ed]])),Y,Y,dY⟩
  have fb:j.size+1=(j.cons (eg 1 0 [.str [97],.str [98]])).size:=rfl;simp only[fb];generalize gZ:j.cons (eg 1 0 [.str [97],.str [98]])=u at*
  refine nS (λc N=>∃W bs S,Th A u U j.size 3 N W bs S/\jg c 2 0/\jg c 3 2/\jg c 4 3/\iS c 5 n/\ka c 6 (.arr 4 0 0 4 false)/\iS c 7 i/\jg c 8 u.size) (λl=>?_) (λl=>?_) ?_;simp;refine u5 n (λk c N=>1<=k/\(∃W bs S,Th A u U j.size (k-1) N W bs S/\jg c 2 0/\jg c 3 2/\jg c 4 3/\iS c 5 n/\ka c 6 (.arr 4 0 0 4 false)/\iS c 7 i/\jg c 8 u.size)/\iS c 9 k) ?_ J (k:=1) J ⟨ay _,⟨_,_,_,I,by simp[g]⟩,Y⟩;rintro k c N ha ⟨ff,⟨W,eP,S,h,g⟩,eb⟩;have R:=h.l8.get;have dn:=((nm.step ax).step h.st).get;unfold Gw at dn;have hf:decide ((k:Int)<n)=decide (k<n):=by rw[decide_eq_decide];omega
  simp[g,eb];refine fO (λl=>?_) (λl=>?_);have b6:k<n:=iC l;have fs:k<4:=J;obtain⟨ar,fC⟩:∃s,nms[k]? =G s:=⟨nms[k]'(by show k<4;omega),aF (by show k<4;omega)⟩;have aX:=h.cons (eg 11 0 [spT 12 ar]);obtain⟨eO,bW,D,gA,X,Z,K⟩:=aX.app (x:= .arr N.size 0 0 1 false) (xs:=[spT 12 ar]) (l2:=[QN 12 ar]) (n:=1) d4 (.cons (Zh 12 ar 6) .nil) (by simp[Zg (k:=12) (nm:=ar) (.inl rfl)]) Y J;have bT:=gA.trans aX.l8.get;have ea:(u.size=N.size)=False:=uC h.l8.lt;simp[spT]at D;simp[g,eb,dn,fC,fs,R,D,bT,fN,X,Z];have e4:binop .add (M (k:Int)) (M 1)=G (M ((k+1:Nat):Int)):=by rw[jr J J];simp
  simp[g,e4];exact⟨k+1,J,J,J,⟨eO,_,_,(show k+1-1=k-1+1 by omega)▸K⟩,Y⟩;have b6:k=n:=by simp at l;omega
  subst b6;simp[g];exact⟨W,eP,S,h.sv,h.k,h.st,h.l8,h.ms,iV h.len,h.z⟩;simp[g];exact⟨_,_,_,I.sv,I.k,I.st,I.l8,I.ms,iV I.len,I.z⟩
  .rintro c N ⟨W,eP,S,h,g⟩;have R:=h.l8.get;obtain⟨gF,th',left,gy,c4,bu,b8,et,bi,o,a7,hl⟩:=h.k.ex;simp[wg]at o;simp[g,R,o];refine Ow Y h.k.tp h.k.ok J J a8 λal bX ff eN eD=>?_;obtain⟨eu,eI⟩:=h.k.tape eD eN;have aE:=h.step eI eu;have bA:binop .add (M 1) (M al)=G (M ((1+al:Nat):Int)):=by rw[jr J J];simp
   have gB:=iw (aE.l8.get.trans R.symm);simp[bA,gB];refine mZ (aiD 11) Y ⟨A,2,1,0,2,1+al⟩ ⟨⟨Y,eu,a8,Y,Y,dZ⟩,Y⟩ ?_;rintro hv hE ⟨l2,aA,eh,fB,ey,cL⟩
   dsimp at aA eh fB ey cL
   have c1:=aE.step cL ey;obtain⟨gP,di,c9,gm⟩:=aA;have hy:=aE.l8.lt;obtain⟨eO,bW,D,gA,X,Z,K⟩:=c1.app (n:=3) di.kd (c9.ft λL B=>⟨⟨iV B.1,B.2.1,B.2.2.1,aE.sv.box (iV B.1)⟩,rfl⟩) eh J J;have aA:=iw (c1.l8.get.trans aE.l8.get.symm);have dk:=gA.trans c1.l8.get;have eL:=iw gA;clear gA eD eI cL eN c9 di gm;cases ef:decide (i=0)
   case' false=>
    simp[g,D,dk,eL,aA,fN,X,Z,ef];generalize fQ bW u.size _=O at*
    obtain⟨c6,eR,l9,v⟩:=K.more (m:=7) J
   case' true=>
    simp[g,D,dk,eL,aA,fN,X,Z,ef];generalize fQ bW u.size _=O at*
    obtain⟨gF,th',left,gy,c4,bu,b8,et,bi,o,a7,hl⟩:=K.k.ex;simp[wg]at o;simp[o];clear o a7 hl;refine vZ Y K.k.tp K.k.ok J J a8 λfM bZ hd gD gw=>?_;obtain⟨fS,gz⟩:=K.k.tape gw gD;have aN:=K.step gz fS;have e6:=aN.l8.get;have eo:=((nm.step ax).step aN.st).get;unfold Gw at eo;simp;refine fO (λl=> ?fY) (λl=> ?gg)
    case' gg=>
     simp;generalize bZ=O at*
     obtain⟨c6,eR,l9,v⟩:=aN.more (m:=7) J
    case' fY=>
     have aX:=aN.cons (eg 11 0 [spT 13 [116,49]]);obtain⟨hq,e7,D,gA,X,Z,gE⟩:=aX.app (x:= .arr bZ.size 0 0 1 false) (xs:=[spT 13 [116,49]]) (l2:=[QN 13 [116,49]]) (n:=1) d4 (.cons (Zh 13 [116,49] 6) .nil) (by simp[Zg (k:=13) (nm:=[116,49]) (.inr rfl)]) Y J;have bT:=gA.trans aX.l8.get;have ea:(u.size=bZ.size)=False:=uC aN.l8.lt;have fA:nms[1]? =G [116,49]:=rfl;simp[spT]at D;simp[g,eo,fA,e6,D,bT,fN,X,Z];generalize fQ e7 u.size _=O at*
     obtain⟨c6,eR,l9,v⟩:=gE.more (m:=7) J
   all_goals
    have gj:=br.step (ax.trans v.st) (ay _);have gv:=(eB.step cp).step v.st;have fX:=(ca.step cp).step v.st;have R:=v.l8.get;have eU:=fP.step v.st;obtain⟨gI,dd,E,Xq,C,ae,ec,b7,bN,de⟩:=gj;have Q:=C.get;simp at Q;have ea:(u.size=O.size)=False:=uC v.l8.lt;have e5:∀L,Fp O 3 L->L<e.size:=λL B=>by
     obtain⟨_,_,_,_,eF,_,_,_,_,eV⟩:=br;have eX:O.get 3=e.get 3:=(ax.trans v.st).get 3 eF.lt (eV 3 (.inl rfl));rw[jY eX]at B;exact eF.fp L B
    have gS:(3=O.size)=False:=uC C.lt;have gV:E.length=i:=by have:=ae.length;simp at this;omega
    obtain⟨hs,gX,eT,c7⟩:=(C.gr 1 rfl).oy (cx:=cx) (f:=thT) C.ok X9 rfl X6 rfl Y (λx=>rfl) (U,.arr j.size 0 0 2 false,c6) dY;obtain⟨eA,ho,gk⟩:=C.app 1 rfl c7;obtain⟨eK,eG⟩:=gk _ rfl;simp at eA eK eG;simp[thT]at eT;simp[g,Q,R,eT,eA,fN,c7.1.je,c7.1.cells,e8];exact aga v gv fX eU eG eK ae b7 bN de ec (λL B=> .inl (e5 L B)) (iV nm.lt) (iV ax.ok.sz) ⟨by have:=nm.lt;have:=V.ok.sz;omega,V.ok.sz⟩
 rintro c e ⟨⟨an,br,av,nm⟩,g⟩;obtain⟨gI,dd,E,Xq,C,ae,ec,b7,bN,de⟩:=br;have Q:=C.get;simp at Q;have P:=av.get;unfold In at P;have bX:=Ue (Xq:=Xq) J b7;have e0:=(C.gr 1 rfl).JT (d:=10) J ae;have bA:=λ{tb:iq} (ht:tb.p 88=G lN.kx)=>c04 ht ⟨yL,Xq⟩ bX.1;simp[g,Q,e0,bA];have fW:(0=e.size)=False:=uC av.lt;have ds:∀y,(fQ e 0 y).get 0=G y:=λy=>(fj P y 0).trans (au rfl);refine fO (λl=>?_) (λl=>?_);have al:(e.size=e.size+1+1)=False:=by simp<;>omega
 have fM:(e.size+1=e.size+1+1)=False:=Y;have hj:(e.size=e.size+1)=False:=Y;simp[g,P,VA,Yo,xR,fW,ds,fN,av.lt,iW,BC,fH,al];have fy:∀eM∈ [(⟨[109,97,105,110],0,[[97],[98]],[HH [120] [] ⟨1,1,[],[]⟩]⟩:iQ)],W6 eM:=λeM ht=>by
  rw[List.mem_singleton.1 ht];have fL:(HH [120] [] ⟨1,1,[],[]⟩).w<=wd 0:=Qn (by rw[fJ.jW];omega) (by rw[fJ.nN];simp[fJ.jW]);refine⟨Y,?_,λs bi=>?_⟩;simp[fk.ly,fk.jW];unfold wd at fL;omega;rw[List.mem_singleton.1 bi];exact Hx Y (.num 1) (λq=>absurd rfl q)
 exact⟨⟨⟨yL,[⟨[109,97,105,110],0,[[97],[98]],[HH [120] [] ⟨1,1,[],[]⟩]⟩]⟩,rfl,Ue Y fy,Y⟩,an.ok.hp⟩;have l3:Lb 3 e 0 (eg 2 0 [.agg [ed,ed]]):=⟨P,λq=>(bN 0 q).elim J J⟩;simp[g,Q,P,fN,ds,(((C.uB l3 (eg 2 1 [.agg [sl (yL.map js.t),dd]])).gr 1 rfl).JT (d:=10) J (ae.ft (V':=λ_=>True) λb e9=>⟨trivial,by rw[fj P,aq (iV e9.1)]⟩))];exact⟨⟨⟨yL,Xq⟩,rfl,bX,dZ⟩,an.ok.hp⟩;have eE:=Step.cons ao.ok ao.lt Gw;have ej:=Lb.new ao.lt ao.fp Gw;rw[eS]at ej;simp;exact⟨⟨ao.cons _,((gi.step eH J).step eE J).wide dY,(gn.step eH).step eE,ej⟩,J⟩
end
def IG:p8 prog cx 34 (λa:List Int=>[sl (a.map (T.int .u8))]) (λa=>okB a/\a.length<=1000000) (λa p=>∃c:List fG,p=sl (c.map fG.t)/\c.length=a.length):=by refine jX [] (jz 285 [] func34) (λa=>a.length+5) (λq r b=>by simp at b;exact jD (λ_ _ b=>iC b) b) ?_;rintro a ⟨⟨_,n⟩,x⟩ e m;simp at m;simp[f34];refine io a.length J (λd e b=>∃g,∃c:List fG,Gr b g 2 (c.map fG.t)/\jk 0 b/\c.length=d/\ka e 0 (sl (a.map (T.int .u8)))/\ka e 3 g/\iS e 4 d) ?_ ?_ J ⟨ed,[],Gr.nil _ _,by exact⟨Y,Y,Y⟩,rfl,by simp[m]⟩;rintro d e b o y ⟨g,c,h,i,l,k⟩;have z:=n a[d] (aG o);have s: -9223372036854775808<=a[d]:=J;have u:a[d]<9223372036854775808:=J;have⟨A,w,v,j⟩:=h.oy (cx:=cx) (f:=fG.t) i BL rfl DY rfl Y (λ_=>rfl) (⟨a[d].tmod 4,IntKind.i64.wrap ((IntKind.i64.wrap (a[d].tdiv 4)).tmod 5-1)⟩:fG) dY;simp[*,Jl (show¬(4:Int)=0 by omega),aaG (show¬(4:Int)=0 by omega),Jl (show¬(5:Int)=0 by omega),we];exact⟨_,_,j.1,⟨j.2.2.2.hp,j.2.2.2.low,az _⟩,dY,rfl⟩;rintro e b ⟨g,c,h,i,l,k⟩;simp[k];exact⟨_,⟨c,rfl,l⟩,i.hp,by rw[N9 g h.je,h.qZ Y]⟩
end
noncomputable section
open Go Go.TI
attribute [-simp] List.map_take List.map_drop List.map_append ik gu fI Bool.not_or Bool.not_and
end
noncomputable section
open Go Go.TI Tryz
noncomputable abbrev gN(a:Func)(b:Nat):sg:=gq cx a b false
noncomputable abbrev gK(a:Func)(b:Nat):sg:=gq cx a b true
def gO{b:aj}{a:Func}{d:Nat}{c:Bool}(e:prog.funcs[b]? =G a)(f:Cy ⟨a,d,c,none⟩=true:=by kernel_rfl):nR prog cx b (gq cx a d c):=aji ml kl e f
def g51:sg:=λ_ _ a b=>Cp ((.clone 2 16)) a b
def aby:nR prog cx 51 g51:=vC (uk (fn:=f51) (t:=67) (tb:=4) (te:=yA) kl func51 em em em em em em em)
def g52:sg:=λ_ _ a b=>Cp ((.clone 1 1)) a b
def abx:nR prog cx 52 g52:=vC (uk (fn:=f52) (t:=32) (tb:=4) (te:=Wz) kl func52 em em em em em em em)
def g53:sg:=λ_ _ a b=>Cp ((.clone 1 8)) a b
def abw:nR prog cx 53 g53:=vC (uk (fn:=f53) (t:=37) (tb:=4) (te:=EW) kl func53 em em em em em em em)
def afY:sg:=λ_ _ a b=>Cp ((.clone 3 24)) a b
def XM:nR prog cx 104 afY:=vC (uk (fn:=f104) (t:=33) (tb:=4) (te:=Fw) kl func104 em em em em em em em)
def afX:sg:=λ_ _ a b=>Cp (.qF) a b
def abD:(f264.name== "runtime.NumGoroutine")=false:=em
def abC:f264.body.isNone=true:=em
def abA:Extern.findNext f264=none:=em
def abB:Extern.find f264=G Extern.BytealgIndexByte.indexByte:=em
def abz:HD prog cx 264 .qF:= @JI prog cx 264 f264 func264 abD abC abA abB
def XJ:nR prog cx 264 afX:=vC abz
def qs:Tree sg:=(.node (.node (.node (.node (.node (.node (.node (.node .nil 5 (gN f5 7) .nil) 7 (gN f7 37086407215374335) .nil) 10 (gN f10 138478519) (.node (.node .nil 12 (gN f12 35184372091469) .nil) 13 (gN f13 2105007) .nil)) 15 (gN f15 127) (.node (.node (.node .nil 16 (gN f16 2475880648186041451831757567) .nil) 17 (gN f17 7) .nil) 18 (gN f18 127) (.node .nil 19 (gN f19 2270491528167423) .nil))) 20 (gN f20 2954892465099842490915138798468358981925535743) (.node (.node (.node (.node .nil 21 (gN f21 1125908631781503) .nil) 22 (gN f22 5508284103923639383255319264801237402987617783) .nil) 23 (gN f23 9241386564217587711) (.node (.node .nil 30 (gN f30 9223372036871623167) .nil) 31 (gN f31 4215) .nil)) 35 (gN f35 8796093286397) (.node (.node (.node .nil 36 (gN f36 19808249554385699031857790975) .nil) 37 (gN f37 8864829278711) .nil) 38 (gN f38 40953575029616206113996799) (.node .nil 42 (gN f42 9223389645163727807) .nil)))) 43 (gN f43 2417851783344448572752095) (.node (.node (.node (.node (.node .nil 44 (gN f44 983087) .nil) 45 (gN f45 7725) .nil) 46 (gN f46 332306998946231919705005790102318975) (.node (.node .nil 47 (gN f47 31) .nil) 48 (gN f48 16863) .nil)) 49 (gN f49 137454944735) (.node (.node (.node .nil 50 (gN f50 772424076352653274097095092108232752774234854811365887) .nil) 51 (g51) .nil) 52 (g52) (.node .nil 53 (g53) .nil))) 54 (gN f54 633825300270344703797589335871) (.node (.node (.node (.node .nil 55 (gN f55 66483) .nil) 58 (gN f58 19) .nil) 59 (gN f59 3) (.node (.node .nil 60 (gK f60 71) .nil) 61 (gN f61 11) .nil)) 67 (gK f67 1048607) (.node (.node (.node .nil 75 (gN f75 829180818552508142370930303613581122868418894632663968482586879) .nil) 77 (gN f77 95827739445721067874190659254502973333984266632037375) .nil) 78 (gN f78 1048607) (.node .nil 79 (gN f79 6434029281764525972148499167221040878727244754944919609542655) .nil))))) 80 (gN f80 576460753379335951) (.node (.node (.node (.node (.node (.node .nil 81 (gN f81 17184194575) .nil) 82 (gK f82 68723687231) .nil) 83 (gN f83 4504699140047487) (.node (.node .nil 85 (gN f85 9224506733391652861) .nil) 86 (gN f86 4432473883133) .nil)) 88 (gN f88 19342850151455133005856767) (.node (.node (.node .nil 89 (gN f89 316913254556860716756833993695) .nil) 90 (gN f90 275) .nil) 91 (gN f91 11) (.node .nil 92 (gN f92 8934607822903) .nil))) 93 (gN f93 479) (.node (.node (.node (.node .nil 94 (gN f94 79) .nil) 95 (gN f95 7231) .nil) 96 (gN f96 18463641368405213903) (.node (.node .nil 99 (gN f99 67109327) .nil) 101 (gN f101 1238093369775042453301102031) .nil)) 102 (gN f102 4196311) (.node (.node (.node .nil 104 (afY) .nil) 105 (gN f105 95) .nil) 106 (gN f106 95) (.node .nil 107 (gN f107 4605278686335) .nil)))) 108 (gK f108 30783) (.node (.node (.node (.node (.node .nil 116 (gK f116 2247) .nil) 119 (gN f119 13215461614728367217751695970865548304603543200842114553566203007) .nil) 128 (gN f128 332312079452150195464880550324504575) (.node (.node .nil 129 (gN f129 4330618893) .nil) 130 (gN f130 131635) .nil)) 131 (gN f131 9071038046463) (.node (.node (.node .nil 132 (gN f132 31) .nil) 133 (gN f133 19) .nil) 134 (gN f134 1099511628339) (.node .nil 135 (gN f135 18889470444974887141823) .nil))) 136 (gN f136 348794743007212715313826391199890521722863) (.node (.node (.node (.node .nil 137 (gN f137 12259964349774246101165194645239424850975965214878597119) .nil) 143 (gN f143 19) .nil) 145 (gN f145 33587517) (.node .nil 146 (gN f146 4101) .nil)) 147 (gN f147 21853) (.node (.node (.node .nil 148 (gN f148 37396817117309) .nil) 149 (gN f149 51) .nil) 150 (gN f150 40536831200067837) (.node .nil 151 (gN f151 72128100255664255) .nil)))))) 152 (gN f152 1242795222330225588904675325) (.node (.node (.node (.node (.node (.node (.node .nil 153 (gN f153 1237940043933112819970491391) .nil) 154 (gN f154 1053) .nil) 155 (gN f155 151115745466229840684019) (.node (.node .nil 157 (gK f157 18191) .nil) 158 (gN f158 365376106316094180278949616271352870286206697499) .nil)) 159 (gN f159 10633824283312870803151638865622599647) (.node (.node (.node .nil 160 (gN f160 137506128175) .nil) 161 (gN f161 36051629065113551) .nil) 162 (gN f162 463) (.node .nil 163 (gN f163 35315368591455) .nil))) 164 (gN f164 19) (.node (.node (.node (.node .nil 165 (gN f165 606826398900554784047567) .nil) 166 (gN f166 5868843906288553182383292937158044313155908148351) .nil) 170 (gK f170 5575) (.node (.node .nil 171 (gN f171 2147484735) .nil) 172 (gN f172 19) .nil)) 173 (gN f173 606826398900554784047567) (.node (.node (.node .nil 176 (gN f176 5) .nil) 177 (gN f177 131613) .nil) 178 (gN f178 5) (.node .nil 179 (gN f179 11161304336780981658631819976322344575566047) .nil)))) 180 (gN f180 4362601011) (.node (.node (.node (.node (.node .nil 181 (gN f181 19) .nil) 182 (gK f182 2097183) .nil) 183 (gN f183 1182933510117985879039) (.node (.node .nil 185 (gN f185 19) .nil) 186 (gN f186 19) .nil)) 187 (gN f187 5) (.node (.node (.node .nil 188 (gN f188 35500589085) .nil) 189 (gN f189 5) .nil) 190 (gN f190 1125908496810045) (.node .nil 191 (gN f191 262565) .nil))) 192 (gN f192 541) (.node (.node (.node (.node .nil 193 (gN f193 328307) .nil) 194 (gN f194 1574131) .nil) 195 (gN f195 275) (.node (.node .nil 196 (gN f196 529021) .nil) 197 (gN f197 1125902054326279) .nil)) 198 (gN f198 32909) (.node (.node (.node .nil 199 (gN f199 262707) .nil) 200 (gN f200 262707) .nil) 201 (gN f201 14474012017383023515249485065460760621927424225494418519668988771800801378299) (.node .nil 202 (gN f202 36893488147419136123) .nil))))) 206 (gN f206 20282409606012871684182924853463) (.node (.node (.node (.node (.node (.node .nil 207 (gN f207 158456325028530997355645763711) .nil) 208 (gN f208 1037) .nil) 209 (gN f209 1099578740959) (.node (.node .nil 210 (gN f210 29) .nil) 211 (gN f211 7) .nil)) 226 (gK f226 20426010943356750102455122975) (.node (.node (.node .nil 227 (gN f227 1) .nil) 230 (gN f230 5) .nil) 231 (gK f231 262175) (.node .nil 232 (gK f232 9904163146420522906957187071) .nil))) 238 (gN f238 19) (.node (.node (.node (.node .nil 239 (gN f239 2293) .nil) 240 (gN f240 2149585011) .nil) 241 (gN f241 526461) (.node (.node .nil 242 (gN f242 8606909437) .nil) 243 (gN f243 182687706027492332498828539273953093013162958911) .nil)) 244 (gN f244 70368744310543) (.node (.node (.node .nil 245 (gN f245 83) .nil) 246 (gN f246 33688639) .nil) 247 (gN f247 4196847) (.node .nil 249 (gN f249 1049655) .nil)))) 259 (gN f259 5) (.node (.node (.node (.node (.node .nil 264 (afX) .nil) 265 (gN f265 8211) .nil) 269 (gN f269 131527) (.node (.node .nil 270 (gN f270 563501857374451) .nil) 271 (gN f271 2863311549) .nil)) 272 (gN f272 18483898770635358239) (.node (.node (.node .nil 273 (gN f273 7) .nil) 274 (gN f274 99132251962343631) .nil) 275 (gN f275 8703) (.node .nil 276 (gN f276 8590200303) .nil))) 284 (gN f284 594912002450663878599) (.node (.node (.node (.node .nil 286 (gN f286 13) .nil) 291 (gN f291 32819) .nil) 294 (gN f294 132109) (.node .nil 297 (gN f297 749019592093908130998168547243562859198691857383367) .nil)) 302 (gN f302 72339071195682803) (.node (.node (.node .nil 311 (gN f311 8407165) .nil) 312 (gN f312 2101491) .nil) 314 (gN f314 9224502335110254589) (.node .nil 315 (gN f315 715827901) .nil)))))))
def aeE:qs.YP λa b=>nR prog cx a b:=by
 unfold qs
 repeat' first|exact .nil|exact gO em|exact aby|exact abx|exact abw|exact XM|exact XJ|refine .node ?_ ?_ ?_
def K1:∀a b,(λa=>qs.find a) a=G b->nR prog cx a b:=λa b c=>aeE.find c
end
noncomputable section
open Go Go.TI
attribute [-simp] List.map_take List.map_drop List.map_append ik gu fI Bool.not_or Bool.not_and
section
variable {L:List Int}{b:Nat}{h y y2:H}{w0:Nat}
end
section
attribute [-simp] size_cons
end
section
variable {lo bv:Nat}{h h':H}{rs:List (List Int)}{o:T}{xs es:List T}{ver:Nat}
end
section
attribute [-simp] size_cons
end
section
attribute [-simp] size_cons
end
end
noncomputable section
open Go Go.TI Tryz
attribute [-simp] List.map_take List.map_drop List.map_append ik gu fI Bool.not_or Bool.not_and
section
attribute [-simp] size_cons
structure OT where
 (v:T) (es:List T)
def wE(e:Nat)(a:OT)(c:List T)(b:H):Prop:=c=[a.v]/\b.kd a.v=G a.es/\(∀d∈a.es,d.cells.length=e)/\a.es.length<=1000000/\jk 0 b
def sR(f:Nat)(e:OT)(g:List T)(b:H)(d:T)(c:H):Prop:=Gr c d f e.es/\Nb b c/\∀a,fD d=G a->b.size<=a
def yn{a bytes:Nat}{l:aj}(x:HD prog cx l (.clone a bytes))(v:1<=bytes)(w:bytes<=1000):(kW OT (wE a) (sR a)).Ok prog cx l:=by
 intro i b ⟨⟨p,e⟩,y⟩;have n:∀h:OT,wE a h i b->∃d c,Cp (.clone a bytes) i b=G (d,c)/\sR a h i b d c:=by
  rintro⟨p,e⟩ ⟨rfl,g,m,hl,o⟩
  dsimp at g m hl
  show∃d c,(Z (b.kd p) λe=>List.casesOn e (some (ed,b)) λ_ _=>b.ku a bytes [] e)=G (d,c)/\_;rw[g,fw];rcases e with _|⟨F,E⟩
  exact⟨_,_,rfl,Gr.nil _ _,Nb.refl o,Y⟩;refine⟨_,_,sa m v (aV (Nat.mul_le_mul hl w) J),Gr.new (ep:=0) (ver:=0) (ex:=false) Y,(Nb.refl o).cons _,λr j=>by simp at j;omega⟩
 have⟨d,c,k,C⟩:=n _ y;refine⟨d,c,λh g=>?_,λq A B s z u=>x _ _ _ _ k q A B s z u⟩;have⟨r2,D,f,t⟩:=n h g;rw[k]at f;simp[aw,aH]at f;rw[f.1,f.2];exact t
def Gp:(kW OT (wE 1) (sR 1)).Ok prog cx 53:=yn (uk (fn:=f53) (t:=37) (tb:=4) (te:=EW) kl func53 em em em em em em em) d6 (bytes:=8) d6 
def Gq:(kW OT (wE 1) (sR 1)).Ok prog cx 52:=yn (uk (fn:=f52) (t:=32) (tb:=4) (te:=Wz) kl func52 em em em em em em em) d6 (bytes:=1) d6 
def Ly:(kW OT (wE 3) (sR 3)).Ok prog cx 104:=yn (uk (fn:=f104) (t:=33) (tb:=4) (te:=Fw) kl func104 em em em em em em em) d6 (bytes:=24) d6 
def LkG(f:H)(d:Nat->Prop)(e:T)(c:fF):Prop:=∃a,e= .agg [M c.jF,a]/\Gr f a 1 (iE c.gh)/\∀b,fD a=G b->d b
def LkD(b:List T):Prop:=∀(c d:Nat) (e f g h:T) (a:Nat),b[c]? =G (.agg [g,e])->b[d]? =G (.agg [h,f])->fD e=G a->fD f=G a->c=d
def ZA(c:iu)(j:List T)(h:H)(i:T)(b:H):Prop:=∃d e f g,i=QJ c d e f/\ES h.size b.size b d e f g c/\Nb h b/\jw (LkG b λa=>h.size<=a/\a<b.size/\fD d≠some a/\fD e≠some a/\fD f≠some a) g c.fT/\LkD g
structure ClO(S:iu)(h h':H)(i:Nat)(es:List T)(ver:Nat):Prop where
 nb:Nb h h'
 z:h.size+3<=h'.size
 b0:h'.get h.size=G (eg 4 0 [S.t])
 b1:h'.get (h.size+1)=G (eg 4 0 [.agg [ed,M 0,ed,ed]])
 b2:h'.get (h.size+1+1)=G ⟨2,0,ver,true,false,es⟩
 l:es.length=S.fT.length
 c:∀e∈es,∃x y,e= .agg [x,y]
 d:LkD es
 bd:∀(j:Nat) (o x:T) (c:Nat),es[j]? =G (.agg [o,x])->fD x=G c->c<h'.size
 a:jw (LkG h' λk=>h.size+3<=k/\k<h'.size) (es.take i) (S.fT.take i)
def Uk:(kW iu It ZA).Ok prog cx 108:=by
 refine jP [] [(53,kW OT (wE 1) (sR 1)),(52,kW OT (wE 1) (sR 1)),(104,kW OT (wE 3) (sR 3))] (jz 30783 [(5,[(3,6)])] func108) 1000005 ?_;rintro e _ c ⟨rfl,c6,hl,dn,ht,hr⟩ y bN;simp at bN;have bX:=c6.hr;simp[f108,bN,show e.fT.length*32<=70368744177664 by omega];refine io e.fT.length J (λn y h=>∃u ver,ClO e c h n u ver/\jg y 1 c.size/\jg y 2 (c.size+1)/\ka y 3 (.arr (c.size+1+1) 0 0 e.fT.length false)/\ka y 11 (sl (e.fT.map fF.t))/\iS y 12 e.fT.length/\iS y 13 n) ?_ ?_ J ?_;rintro n y h bT dk ⟨u,ver,⟨w,cL,ar,av,ax,a7,aN,aX,ao,ae⟩,cb⟩;have ap:jk 0 h:=⟨w.ok.hp,w.ok.low,az _⟩;have ds:=hr e.fT[n] (aG bT);have cp:e.fT.take (n+1)=e.fT.take n++[e.fT[n]]:=aM bT;have⟨de,di,dm⟩:=aN u[n] (aG J);have ec:(c.size+1+1=h.size)=False:=dY;have eb:=ap.low;simp[*];generalize e.fT[n]=v at*
 have br:=ap.cons (eg 2 1 [v.t]);refine mZ Gp Y ⟨sl (iE v.gh),iE v.gh⟩ ⟨rfl,Y,by simp[T.cells],dY,br⟩ ?_;rintro r L ⟨F,x,an⟩
 dsimp at F
 have c9:=x.ok.sz;simp at c9;have a8:L.get (c.size+1+1)=G ⟨2,0,ver,true,false,u⟩:=(x.get (c.size+1+1) dY).trans (by rw[fH,aq J];exact ax);have ee:il (h.cons (eg 2 1 [v.t])) L (c.size+1+1):=iw (x.get _ dY);have ef:il (h.cons (eg 2 1 [v.t])) L h.size:=iw (x.get _ Y);simp[*,F.je,F.cells,fN];have al:∀a,a<h.size->a≠c.size+1+1->(fQ L (c.size+1+1) ⟨2,0,ver+1,true,false,u.set n (.agg [M v.jF,r])⟩).get a=h.get a:=λa d N=>by
  rw[fj a8,aq N];exact(x.get a dY).trans d2
 have dd:=w.ok.sz;refine⟨u.set n (.agg [M v.jF,r]),ver+1,⟨⟨(⟨x.ok.hp,x.ok.low,az _⟩:jk 0 L).put _ _|>.hp,(⟨x.ok.hp,x.ok.low,az _⟩:jk 0 L).put _ _|>.low,dY⟩,λa d=>(al a J J).trans (w.get a d)⟩,dY,(al _ J J).trans ar,(al _ J J).trans av,by rw[fj a8,au rfl],iC a7,λB C=>?_,?_,?_,?_⟩;rcases bP C with q|q;exact aN B q;exact⟨_,_,q⟩;intro O k A f o bW a g z i l;rw[cE]at g z;split at g<;>split at z;omega;split at g;simp[aw,T.agg.injEq,bL,and_true]at g;have:=an a (g.2▸i);have:=ao k _ _ a z l;simp at*;omega;simp at g;split at z;simp[aw,T.agg.injEq,bL,and_true]at z;have:=an a (z.2▸l);have:=ao O _ _ a g i;simp at*;omega;simp at z;exact aX O k A f o bW a g z i l;intro O o A a g i;rw[cE]at g;rw[iB];split at g;split at g;simp[aw,T.agg.injEq,bL,and_true]at g;have⟨_,_,_,_,l,_⟩:=F.box (b:=a) (g.2▸i);exact H.fV l;simp at g;have:=ao O _ _ a g i;omega;rw[cp,aM dY];refine jw.append ?_ (.cons ?_ .nil);rw[List.take_set_of_le (ay _)];exact ae.imp λB m ⟨Z,Q,R,s⟩=>⟨Z,Q,R.mono λa d=>al a (s a d).2 (iV (s a d).1),λa d=>⟨(s a d).1,uC (s a d).2⟩⟩;simp[List.getElem_set_self];refine⟨r,rfl,(F.mono λa d=>by rw[fj a8,aq (by have:=an a d;simp at this;omega)]),λa d=>⟨by have:=an a d;simp at this;omega,?_⟩⟩;have⟨_,_,_,_,l,_⟩:=F.box d;have:=H.fV l;simpa using this;rintro y h ⟨u,ver,⟨w,cL,ar,av,ax,a7,aN,aX,ao,ae⟩,cb⟩;have ap:jk 0 h:=⟨w.ok.hp,w.ok.low,az _⟩;have bu:∀f a,(fQ h c.size f).get a=if a=c.size then some f else h.get a:=λf a=>fj ar f a;simp[*];have⟨I,V⟩:∃I,I=fQ h c.size (eg 4 1 [.agg [.arr (c.size+1+1) 0 0 e.fT.length false,M e.tx,sl (e.done.map T.bool),sl (e.eY.map fc.t)]]):=⟨_,rfl⟩;have eh:I.size=h.size:=by rw[V];simp
 have c7:jk 0 I:=V▸ap.put _ _;have gA:∀a,a≠c.size->I.get a=h.get a:=λa d=>by rw[V,bu,aq d]
 have b8:I.get c.size=G (eg 4 1 [.agg [.arr (c.size+1+1) 0 0 e.fT.length false,M e.tx,sl (e.done.map T.bool),sl (e.eY.map fc.t)]]):=by rw[V,bu,au rfl]
 rw[<-V];refine jy Gq Y ⟨sl (e.done.map T.bool),e.done.map T.bool⟩ ⟨rfl,Y,by intro B C;obtain⟨b,_,rfl⟩:=List.mem_map.1 C;rfl,dY,c7⟩ ?_;rintro E p ⟨S,P,bZ⟩
 dsimp at S
 have ej:=P.ok.sz;have c1:=(P.get c.size J).trans b8;have bA:∀f a,(fQ p c.size f).get a=if a=c.size then some f else p.get a:=λf a=>fj c1 f a;simp[*,S.je,S.cells,fN];have⟨K,W⟩:∃K,K=fQ p c.size (eg 4 2 [.agg [.arr (c.size+1+1) 0 0 e.fT.length false,M e.tx,E,sl (e.eY.map fc.t)]]):=⟨_,rfl⟩;have eo:K.size=p.size:=by rw[W];simp
 have br:jk 0 K:=W▸(⟨P.ok.hp,P.ok.low,az _⟩:jk 0 p).put _ _;have aE:∀a,a≠c.size->K.get a=p.get a:=λa d=>by rw[W,bA,aq d]
 have b9:K.get c.size=G (eg 4 2 [.agg [.arr (c.size+1+1) 0 0 e.fT.length false,M e.tx,E,sl (e.eY.map fc.t)]]):=by rw[W,bA,au rfl]
 rw[<-W];refine jy Ly Y ⟨sl (e.eY.map fc.t),e.eY.map fc.t⟩ ⟨rfl,Y,by intro B C;obtain⟨b,_,rfl⟩:=List.mem_map.1 C;rfl,dY,br⟩ ?_;rintro X j ⟨gT,D,b6⟩
 dsimp at gT
 have et:=D.ok.sz;have Rn:jk 0 j:=⟨D.ok.hp,D.ok.low,az _⟩;have c4:=(D.get c.size J).trans b9;have ea:j.get (c.size+1)=_:=(D.get (c.size+1) J).trans ((aE _ J).trans ((P.get _ J).trans ((gA _ J).trans av)));have ca:∀f a,(fQ j c.size f).get a=if a=c.size then some f else j.get a:=λf a=>fj c4 f a;have U:∀f A a,(fQ (fQ j c.size f) (c.size+1) A).get a=if a=c.size+1 then some A else if a=c.size then some f else j.get a:=λf A a=>by
  rw[rV (by simp[Rn.hp]) dY,ca]
 simp[*,gT.je,gT.cells,fN];rw[cd J,aI]at ae;have aA:∀a,a<h.size->a≠c.size->j.get a=h.get a:=λa d N=>(D.get a J).trans ((aE a N).trans ((P.get a J).trans (gA a N)));have b7:∀a,a<p.size->a≠c.size->j.get a=p.get a:=λa d N=>(D.get a J).trans (aE a N);have dd:=w.ok.sz;have bi:∀a,fD E=G a->h.size<=a/\a<p.size:=λa d=>⟨iV (bZ a d),by have⟨_,_,_,_,l,_⟩:=S.box d;exact H.fV l⟩;have bn:∀a,fD X=G a->p.size<=a/\a<j.size:=λa d=>⟨iV (b6 a d),by have⟨_,_,_,_,l,_⟩:=gT.box d;exact H.fV l⟩;have bs:jw (LkG (mV c (fQ (fQ j c.size (eg 4 3 [.agg [.arr (c.size+1+1) 0 0 e.fT.length false,M e.tx,E,X]])) (c.size+1) (eg 4 1 [.agg [.arr (c.size+1+1) 0 0 e.fT.length false,M e.tx,E,X]]))) λa=>c.size<=a/\a<j.size/\fD (.arr (c.size+1+1) 0 0 e.fT.length false)≠some a/\fD E≠some a/\fD X≠some a) u e.fT:=ae.imp λB v ⟨Z,Q,R,s⟩=>⟨Z,Q,R.mono λa d=>by
  have:=s a d;rw[iJ,U,aq J,aq J,aA _ J J],λa d=>by
  have:=s a d;exact⟨J,J,dY,λq=>iV (bi a q),λq=>iV (bn a q)⟩⟩
 refine⟨.arr (c.size+1+1) 0 0 e.fT.length false,E,X,u,rfl,⟨?_,S.mono λa d=>?_,gT.mono λa d=>?_,bs.imp λB v ⟨Z,Q,R,s⟩=>⟨Z,Q,.inr R,iC s⟩,λa d=>?_⟩,⟨⟨?_,?_,?_⟩,λa d=>?_⟩,iC bs,aX⟩;rw[<-a7];exact Gr.new (ep:=0) (ver:=ver) (ex:=true) (by rw[iJ,U,aq J,aq J,aA _ J J];exact ax);have:=bi a d;rw[iJ,U,aq J,aq J,b7 _ J J];have:=bn a d;rw[iJ,U,aq J,aq J];simp;rcases d with q|q|q
 simp at q;omega;have:=bi a q;omega;have:=bn a q;omega;exact(((Rn.put _ _).put _ _).out c).hp;exact(((Rn.put _ _).put _ _).out c).low;simp;omega;rw[iJ,U,aq J,aq J,aA _ J J];exact w.get a d;simp;refine⟨List.replicate e.fT.length (.agg [M 0,ed]),0,⟨(((Nb.refl bX).cons _).cons _).cons _|>.ok,λa d=>(((((Nb.refl bX).cons _).cons _).cons _).get a d).trans (iZ c a)⟩,Y,Y,Y,Y,Y,λB C=>⟨_,_,(bV C)⟩,?_,?_,.nil⟩;intro O k A f o bW a g _ i _;have:=bV (aB g);simp[T.agg.injEq,bL,and_true]at this;rw[this.2]at i;simp at i;intro O o A a g i;have:=bV (aB g);simp[T.agg.injEq,bL,and_true]at this;rw[this.2]at i;simp at i
def Ai:iF:=⟨fc×Int,λa=>[a.1.t,M a.2],λa=>True,λa=> .bool (decide (a.1.jq=3)&&decide (a.1.cond=a.2)),λa c b=>by simp at b;rw[fc.inj b.1,b.2]⟩
def TA:Ai.Ok prog cx 169:=by refine iD [] (jz 23 [] func169) (λb=>1) (by simp[Ai]) ?_;rintro⟨d,c⟩ _ e a;simp[Ai]at a|-;simp[f169,a]
def Qa{c:iq}(ht:c.p 169=G Ai)(a:fc)(b:Int):rl prog cx c 169 [a.t,M b]=G (.bool (decide (a.jq=3)&&decide (a.cond=b))):=iL ht TA (a,b) trivial
def QC(d:Int):∀(a c:List fc) (b:Nat),jb d (a++c) b=jb d a b++jb d c (b+a.length):=by
 intro a;induction a with
 |nil=>intro c b;rfl
 |cons f a e=>intro c b;simp[aW,jb,e,aU];rw[show b+(a.length+1)=b+1+a.length by omega];split<;>rfl
def Bb(c:Int)(b:List fc){a:Nat}(d:a<b.length):jb c (b.take (a+1)) 0=jb c (b.take a) 0++(if b[a].jq=3/\b[a].cond=c then [(a:Int)]else []):=by rw[aM d,QC,List.length_take,cP J];simp[jb]
def pU(a:Int)(W:List Int):Int:=if a∈W then a else W.headD (-1)
structure MO where
 (S:iu) (c0 c2 c3:T) (c wk:Int)
structure act(h h':H)(c3:T)(l:List fc):Prop where
 g:Gr h' c3 3 (l.map fc.t)
 ok:jk h.size h'
 fr:∀c,c<h.size->fD c3≠some c->h'.get c=h.get c
def Zt(a:MO)(d:List T)(b:H):Prop:=d=[QJ a.S a.c0 a.c2 a.c3,M a.c,M a.wk]/\Gr b a.c3 3 (a.S.eY.map fc.t)/\jk 0 b/\a.S.eY.length<=1000000
def Tk(a:MO)(g:List T)(d:H)(f:T)(e:H):Prop:=∃b,f= M b/\b=pU a.wk (jb a.c a.S.eY 0)/\act d e a.c3 (if jb a.c a.S.eY 0=[]then a.S.eY else a.S.eY.modify b.toNat (mh 4))
def Q2{wk:Int}{W:List Int}{b:Nat}(d:∀c∈W,0<=c/\c<b):pU wk (W++[(b:Int)])=if pU wk W<0\/(b:Int)=wk then(b:Int)else pU wk W:=by
 unfold pU;by_cases a:wk∈W;have:=d wk a;rw[au (by simp[a]),au a,aq J];rw[aq a];by_cases e:(b:Int)=wk;subst e;rw[au Y,au (.inr rfl)];rw[aq (by simp[a];omega)];rcases W with _|⟨c,W⟩
 simp;have:=d c Y;simp;intro f;omega
def TQ:(kW MO Zt Tk).Ok prog cx 113:=by
 refine jP [(169,Ai)] [] (jz 9126837199 [] func113) 1000005 ?_;rintro⟨⟨L,av,bu,a⟩,U,V,D,b,wk⟩ _ c ⟨rfl,l,ar,hl⟩ f ae;simp only at l hl;simp[QJ]at ae;obtain⟨aA,g,Z⟩:=ae;have ao:=λg:H=>l.len (cx:=cx) g QH _ rfl;rw[aL]at ao;have T:∀d,fD D=G d->d<c.size:=λd a8=>by obtain⟨_,_,_,_,bi,_⟩:=l.box a8;exact H.fV bi
 simp[f113,aA,ao];refine io a.length J (λi f h'=>Nb c h'/\c.size<h'.size/\h'.get c.size=G (eg 4 0 [.agg [U,M av,V,D]])/\iS f 1 b/\iS f 2 wk/\jg f 3 c.size/\iS f 7 (pU wk (jb b (a.take i) 0))/\ka f 11 D/\iS f 12 a.length/\iS f 13 i) ?_ ?_ J ?_;rintro i f h' N al ⟨e,bn,C,g⟩;have r:jk 0 h':=⟨e.ok.hp,e.ok.low,az _⟩;obtain⟨d,E,R,F,ax,w,n,h,O⟩:=l.at (x:=a[i].t) (i:=i) (by simp[N]);rw[aL]at w O;subst w;have m:=(e.get d (H.fV n)).trans n;have bA:(d=h'.size)=False:=uC (H.fV m);have br:=r.low;have Q:=Bb b a N;simp[g,N,m,h,br,Qa];generalize a[i]=j at*
 have aX:∀x∈jb b (a.take i) 0,0<=x/\x<i:=λx h=>by
  obtain⟨p,u,y⟩:=u6 h;simp at y;omega
 have I:=Q2 (wk:=wk) aX;have ap:=e.cons (eg 3 1 [j.t]);have S:(h'.cons (eg 3 1 [j.t])).get c.size=G (eg 4 0 [.agg [U,M av,V,.arr d E 0 a.length false]]):=by rw[fH,aq J];exact C
 refine fO (λq=>?_) (λq=>?_);simp only[aC,cm,aP]at q;rw[au ⟨q.1.1,q.1.2⟩]at Q;rw[au q.2,<-Q]at I;simp[g,al];exact⟨ap,J,iC S,I.symm⟩;simp[g,al];refine⟨ap,J,iC S,?_⟩;rw[Q];split;rename_i an;simp only[dN,ci,bg]at q;rw[I,aq];rcases q with(q|q)|q
 exact absurd an.1 q;exact absurd an.2 q;rintro(k|k);exact q.1 k;exact q.2 k;simp;rintro f h' ⟨e,bn,C,g,Z,aN,B,aE⟩;rw[aI]at B;simp[B,aE];have r:jk 0 h':=⟨e.ok.hp,e.ok.low,az _⟩;refine fO (λq=>?_) (λq=>?_);have q:0<=pU wk (jb b a 0):=iC q;have o:pU wk (jb b a 0)∈jb b a 0:=by
  generalize jb b a 0=W at*
  unfold pU at*
  split
  assumption
  rename_i z;rw[aq z]at q;rcases W with _|⟨x,W⟩
  simp at q;simp
 obtain⟨p,u,y⟩:=u6 o;have P:jb b a 0≠ []:=λk=>by rw[k]at o;simp at o
 obtain⟨j,ht⟩:∃j,a[p]? =G j:=⟨_,aF y⟩;obtain⟨d,E,R,F,ax,w,n,h,O⟩:=l.at (x:=j.t) (i:=p) (by simp[ht]);rw[aL]at w O;subst w;have m:=(e.get d (H.fV n)).trans n;simp at u;simp[aN,B,C,u,m,h,y];refine⟨_,rfl,u.symm,?_⟩;simp only;rw[aq P,bO,qP ht];have bs:=H.fV n;refine⟨?_,⟨((r.put d _).out c).hp,((r.put d _).out c).low,dY⟩,λA v z=>?_⟩;have X:=(l.mono (h':=h') λs K=>e.get s (T s K)).setAt rfl m p (mh 4 j).t (h':=mV c (fQ h' d ⟨3,E,R+1,F,false,ax.set p (mh 4 j).t⟩)) (ver2:=R+1) (ex2:=F) (by rw[iJ,fj m,au rfl]);rw[<-aY]at X;exact X;simp at z;rw[iJ,fj m,aq J];exact e.get A v;have q:¬0<=pU wk (jb b a 0):=iC q;have P:jb b a 0=[]:=by
  generalize a7:jb b a 0=W at*
  have o:∀x∈W,0<=x:=λx h=>by rw[<-a7]at h;obtain⟨p,u,y⟩:=u6 h;omega
  unfold pU at q;split at q;rename_i z;exact absurd (o _ z) q;rcases W with _|⟨x,W⟩;rfl;have:=o x Y;simp at q;omega
 simp[B];refine⟨_,rfl,rfl,?_⟩;simp only;rw[au P];exact⟨(l.mono (h':=h') λs K=>e.get s (T s K)).out c,⟨(r.out c).hp,(r.out c).low,dY⟩,λA v _=>(iJ c h' A).trans (e.get A v)⟩;simp;exact⟨⟨((Nb.refl ar.hr).cons _).ok,λb v=>(((Nb.refl ar.hr).cons _).get b v).trans (iZ c b)⟩,g,Z,by simp[pU,jb]⟩
def Gu(b:Int)(a:fc):fc:=if a.jq=3/\a.cond=b then mh 4 a else a
def Zu(a:MO)(d:List T)(b:H):Prop:=d=[QJ a.S a.c0 a.c2 a.c3,M a.c]/\Gr b a.c3 3 (a.S.eY.map fc.t)/\jk 0 b/\a.S.eY.length<=1000000
def Tl(a:MO)(f:List T)(b:H)(e:T)(d:H):Prop:=e= M (jb a.c a.S.eY 0).length/\act b d a.c3 (a.S.eY.map (Gu a.c))
def Lj:(kW MO Zu Tl).Ok prog cx 114:=by
 refine jP [(169,Ai)] [] (jz 270071 [] func114) 1000005 ?_;rintro⟨⟨L,bi,br,a⟩,al,an,u,d,bT⟩ _ c ⟨rfl,y,X,hl⟩ h R
 dsimp at y hl
 simp[QJ]at R;obtain⟨ar,l⟩:=R;have W:=λl:H=>y.len (cx:=cx) l QH _ rfl;rw[aL]at W;have O:∀e,fD u=G e->e<c.size:=λe z=>by obtain⟨_,_,_,_,aX,_⟩:=y.box z;exact H.fV aX
 simp[f114,ar,W];refine io a.length J (λi h h'=>jk c.size h'/\c.size<h'.size/\h'.get c.size=G (eg 4 0 [.agg [al,M bi,an,u]])/\(∀b,b<c.size->fD u≠some b->h'.get b=c.get b)/\Gr h' u 3 (((a.take i).map (Gu d)++a.drop i).map fc.t)/\iS h 1 d/\jg h 2 c.size/\ka h 5 (M (jb d (a.take i) 0).length)/\ka h 9 u/\iS h 10 a.length/\iS h 11 i) ?_ ?_ J ?_;rintro i h h' m S ⟨s,K,C,w,q,l⟩;have a8:jk 0 h':=⟨s.hp,s.low,az _⟩;have U:((a.take i).map (Gu d)++a.drop i)[i]? =G a[i]:=by
  rw[cX dY];simp[cP (show i<=a.length by omega),m]
 obtain⟨e,ao,ae,P,bn,T,E,V,aE⟩:=q.at (x:=a[i].t) (i:=i) (by simp[U]);have aA:(((a.take i).map (Gu d)++a.drop i).map fc.t).length=a.length:=dY;rw[aA]at T aE;subst T;have bA:(e=h'.size)=False:=uC (H.fV E);have z:e<c.size:=O e rfl;have a7:=a8.low;have A:=Bb d a m;have bu:(jb d (a.take i) 0).length<=i:=by have:=yR d (a.take i) 0;simp at this;omega
 have ax:binop .add (M ((jb d (a.take i) 0).length:Int)) (M 1)=G (M (((jb d (a.take i) 0).length:Int)+1)):=jr J J;have I:(a.take (i+1)).map (Gu d)++a.drop (i+1)=((a.take i).map (Gu d)++a.drop i).set i (Gu d a[i]):=by
  rw[List.set_append_right _ _ dY,aM m,List.map_append,aJ m];simp[cP (show i<=a.length by omega)];rw[aJ m];rfl
 simp[l,m,E,V,a7,Qa];have v:Gu d a[i]=if a[i].jq=3/\a[i].cond=d then mh 4 a[i]else a[i]:=rfl;generalize a[i]=g at*
 have Z:=s.cons (eg 3 1 [g.t]);have p:∀b,b<h'.size->(h'.cons (eg 3 1 [g.t])).get b=h'.get b:=λb f=>by rw[fH,aq J]
 refine fO (λn=>?_) (λn=>?_);simp[aC,aP]at n;rw[au n]at A v;have F:=(p e J).trans E;have N:=(p c.size K).trans C;have bN:(e=c.size)=False:=dY;simp[l,N,F,V,m,ax,S];have D:∀B b,(fQ (h'.cons (eg 3 1 [g.t])) e B).get b=if b=e then some B else(h'.cons (eg 3 1 [g.t])).get b:=λB b=>fj F B b;refine⟨Z.put _ _,J,by rw[D,aq J];exact N,λb f r=>by rw[D,aq (λn=>r n.symm),p b J];exact w b f (iC r),?_,by rw[A];simp⟩;have ap:=q.mono (h':=h'.cons (eg 3 1 [g.t])) λb f=>p b (by simp at f;omega);have:=ap.setAt rfl F i (mh 4 g).t (h':=fQ (h'.cons (eg 3 1 [g.t])) e ⟨3,ao,ae+1,P,false,bn.set i (mh 4 g).t⟩) (ver2:=ae+1) (ex2:=P) (by rw[D,au rfl]);rw[<-aY,<-v,<-I]at this;rw[v]at this;exact this;rw[aq (iC n)]at A v;simp[l,S];refine⟨Z,J,by simpa using(p c.size K).trans C,λb f r=>by rw[aq J];exact w b f (by simpa using r),?_,by rw[A];simp⟩;have aN:((a.take i).map (Gu d)++a.drop i).set i g=(a.take i).map (Gu d)++a.drop i:=by
  apply dB;intro j;rw[cE];split;rename_i k;subst k;rw[U];simp;omega;rfl
 rw[v,aN]at I;have:=q.mono (h':=h'.cons (eg 3 1 [g.t])) λb f=>p b (by simp at f;omega);rw[<-I]at this;simpa using this;rintro h h' ⟨s,K,C,w,q,l,bs,Q,av⟩;rw[aI,cr,cq]at q;rw[aI]at Q;simp[Q,av];exact⟨rfl,q.out c,⟨(s.out c).hp,(s.out c).low,dY⟩,λb f r=>(iJ c h' b).trans (w b f r)⟩;simp;exact⟨⟨X.hr.hp,X.hr.low,ay _⟩|>λ(o:jk c.size (TI.hr c))=>o.cons _,λb f _ n=>by omega,(y.mono (h':=TI.hr c) λe _=>iZ c e).mono λe z=>by rw[fH,aq (uC (O e z))],l,by simp[jb]⟩
structure InP(h h':H)(v:T)(l:List Int):Prop where
 g:Gr h' v 1 (iE l)
 ok:jk h.size h'
 fr:∀c,c<h.size->fD v≠some c->h'.get c=h.get c
def TV:p8 prog cx 256 (λa:Int=>[M a]) (λ_=>True) (λ_ d=>d= .bool false):=by refine yQ (tb:=⟨pt [],ht []⟩) ml kl (jz 5 [] func256) (λ_=>10) (λa e c=>iC c) Y nl9 ?_;rintro(a:Int) _ f b;simp at b;simp[f256,b]
def Iq:iF:=⟨Int×Int,λa=>[M a.1,M a.2],λa=>True,λa=> .bool (decide (a.1<a.2)),λa c b=>by simp at b;rw[b.1,b.2]⟩
def aaX:Iq.Ok prog cx 218:=by refine AO (tb:=⟨pt [(256,TV.kx)],ht []⟩) ml kl (jz 19 [] func218) (λa=>1) (by simp[Iq]) nl9 ?_;rintro⟨a,b⟩ _ f c;simp[Iq]at c|-;obtain⟨_,rfl,d⟩:=TV.use a trivial;obtain⟨_,rfl,e⟩:=TV.use b trivial;simp[*,f218]
def Vv{c:iq}(ht:c.p 218=G Iq)(a b:Int):rl prog cx c 218 [M a,M b]=G (.bool (decide (a<b))):=iL ht aaX (a,b) trivial
structure V5 where
 (A:List Int) (t:Int) (v:T)
def Zv(a:V5)(c:List T)(b:H):Prop:=c=[a.v,M 0,M ((a.A++[a.t]).length:Nat)]/\Gr b a.v 1 (iE (a.A++[a.t]))/\jk 0 b/\MP a.A/\a.t∉a.A/\a.A.length<=10
def Jt(a:V5)(d:List T)(b:H)(e:T)(c:H):Prop:=InP b c a.v (oF a.A a.t)
def N1{d:Int}:∀{b a:List Int},(∀c∈b,c<d)->(∀c∈a,d<c)->oF (b++a) d=b++d::a:=by
 intro b;induction b with
 |nil=>
  intro a _ e;rcases a with _|⟨f,a⟩
  rfl;have:=e f Y;simp[oF];rw[aq J,aq J]
 |cons c b i=>intro a g e;have:=g c Y;simp[aW,oF];rw[au this,i (λf h=>g f (by simp[h])) e]
def QL{b:List Int}{c:Int}{a:Nat}(d:a<b.length):((iE (b.take (a+1)++c::b.drop (a+1))).set (a+1) (M b[a])).set a (M c)=iE (b.take a++c::b.drop a):=by have e:(b.take a).length=a:=dY;rw[aM d,aJ d];simp only[iE,List.map_append,aS,aO,aW,bJ];have f:(List.map (T.int .i64) (b.take a)).length=a:=iC e;rw[List.set_append_right _ _ J,List.set_append_right _ _ J,f];simp
def Rl:(kW V5 Zv Jt).Ok prog cx 212:=by
 refine wP (tb:=⟨pt [(218,Iq)],ht []⟩) ml kl (jz 1073746119 [] func212) (λ_ _=>100) (λi a e ap=>by obtain⟨rfl,_⟩:=ap;simp[f212]) ?_;rintro⟨b,f,m⟩ _ e ⟨rfl,Z,C,L,ht,hl⟩ h N
 dsimp at Z L ht hl
 simp at N;simp[f212,N];have bs:Gr (TI.hr e) m 1 (iE (b++[f])):=Z.mono λl _=>iZ e l;have a7:binop .add (M 0) (M 1)=G (M 1):=jr J J;simp[a7];refine u5 (b.length+1) (λk h h'=>1<=k/\InP e (mV e h') m (if k<=b.length then b++[f]else oF b f)/\jk e.size h'/\ka h 0 m/\iS h 1 0/\iS h 2 ((b.length:Int)+1)/\iS h 6 k) ?_ J (k:=1) J ?_;rintro k h h' b6 ⟨bZ,s,D,n⟩;have b9:jk 0 h':=⟨D.hp,D.low,az _⟩;by_cases b7:k<b.length+1;have O:binop .add (M (k:Int)) (M 1)=G (M ((k:Int)+1)):=jr J J;rw[au J]at s;have K:Gr h' m 1 (iE (b++[f])):=s.g.mono λl _=>(iJ e h' l).symm;have bu:binop .sub (M (k:Int)) (M 1)=G (M ((k-1:Nat):Int)):=by rw[my J J];congr 2;omega
 simp[n,show(k:Int)<b.length+1 by omega];by_cases ao:k<b.length;have⟨p1,F,H⟩:=(show rx h' 1 m _ from .inr K).idx (te:=EW) rfl rfl (i:=k) (x:= M b[k]) (by simp[List.getElem?_append,ao]) rfl;have⟨p2,aA,aE⟩:=(show rx h' 1 m _ from .inr K).idx (te:=EW) rfl rfl (i:=k-1) (x:= M b[k-1]) (by simp[List.getElem?_append,show k-1<b.length by omega]) rfl;have S:¬b[k]<b[k-1]:=by
  have:=List.pairwise_iff_getElem.1 L (k-1) k J ao J;omega
 refine u5 1 (λ_ h j=>h'=j/\ka h 0 m/\iS h 1 0/\iS h 2 ((b.length:Int)+1)/\iS h 6 k/\iS h 7 k) ?_ J (k:=0) J (by simp[n]);rintro _ h _ _ ⟨rfl,n⟩;simp[n,F,H,aA,aE,bu,Vv,S,O];exact⟨k+1,J,J,J,by rw[au J];exact s,D,Y⟩;have bi:k=b.length:=J;subst bi;have a8:=s.fr;refine u5 b.length (λV h j=>∃o,o+V=b.length/\Gr j m 1 (iE (b.take o++f::b.drop o))/\jk e.size j/\(∀d,d<e.size->fD m≠some d->j.get d=e.get d)/\(∀x∈b.drop o,f<x)/\ka h 0 m/\iS h 1 0/\iS h 2 ((b.length:Int)+1)/\iS h 6 b.length/\iS h 7 o) ?_ J (k:=0) J ⟨b.length,J,iC K,D,λd v r=>(iJ e h' d).symm.trans (a8 d v r),Y,by simp[n]⟩;rintro V h j ap ⟨o,bX,B,p,X,an,n⟩;have ca:jk 0 j:=⟨p.hp,p.low,az _⟩;have fin:(∀x∈b.take o,x<f)->InP e (mV e j) m (oF b f):=λhl=>by
  have A:=N1 hl an;rw[cB]at A;rw[A];exact⟨B.out e,⟨(p.out e).hp,(p.out e).low,by simp;exact p.sz⟩,λd v r=>(iJ e j d).trans (X d v r)⟩
 rcases o with _|c;simp[n,O];exact⟨b.length+1,J,J,J,aq J▸fin Y,p,Y⟩;have y:c<b.length:=J;have aX:(iE (b.take (c+1)++f::b.drop (c+1))).length=b.length+1:=dY;have F:(b.take (c+1)++f::b.drop (c+1))[c+1]? =G f:=by rw[cX dY];simp[cP (show c+1<=b.length by omega)]
 have H:(b.take (c+1)++f::b.drop (c+1))[c]? =G b[c]:=by rw[cN dY];simp[y]
 have⟨l,I,z,t,E,P,w,av,bn⟩:=B.at (x:= M f) (i:=c+1) (by rw[bw,F];rfl);have⟨bA,bN,cb,bT,cp,Q,R,U,S⟩:=B.at (x:= M b[c]) (i:=c) (by rw[bw,H];rfl);rw[P]at Q;simp at Q;obtain⟨rfl,rfl⟩:=Q;rw[w]at R;simp at R;obtain⟨rfl,rfl,rfl⟩:=R;rw[aX]at P bn S;subst P;have ar:binop .sub (M ((c:Int)+1)) (M 1)=G (M (c:Int)):=by rw[my J J];congr 2;omega
 have ax:mQ ((c:Int)+1)=G (c+1):=by have:=fZ (show(0:Int)<=((c+1:Nat):Int)by omega);simpa using this
 by_cases T:f<b[c];have u:∀q d,(fQ j l q).get d=if d=l then some q else j.get d:=λq d=>fj w q d;have al:∀q W d,(fQ (fQ j l q) l W).get d=if d=l then some W else j.get d:=λq W d=>by
  rw[fj (x:=q) (by rw[u,au rfl]),u];split<;>rfl
 have br:∀x,(E.set (c+1) x)[c]? =G (M b[c]):=λx=>by rw[cE,aq J];exact U
 simp[n,ar,ax,w,av,U,show c+1<b.length+1 by omega,show c<b.length+1 by omega,show(0:Int)<(c:Int)+1 by omega,Vv,T,u,br];have aN:=B.setAt rfl w (c+1) (M b[c]) (h':=fQ j l ⟨1,I,z+1,t,false,E.set (c+1) (M b[c])⟩) (ver2:=z+1) (ex2:=t) (by rw[u,au rfl]);have ae:=aN.setAt rfl (by rw[u,au rfl]) c (M f) (h':=fQ (fQ j l ⟨1,I,z+1,t,false,E.set (c+1) (M b[c])⟩) l ⟨1,I,z+1+1,t,false,(E.set (c+1) (M b[c])).set c (M f)⟩) (ver2:=z+1+1) (ex2:=t) (by rw[al,au rfl]);rw[QL y]at ae;refine⟨V+1,J,J,c,J,ae,(p.put _ _).put _ _,λd v r=>by rw[al,aq (λA=>r A.symm)];exact X d v (iC r),λx hx=>?_,rfl⟩;rw[aJ y]at hx;rcases List.mem_cons.1 hx with rfl|hx
 exact T;exact an x hx;simp[n,ar,ax,w,av,U,show c+1<b.length+1 by omega,show c<b.length+1 by omega,show(0:Int)<(c:Int)+1 by omega,Vv,T,O];refine⟨b.length+1,J,J,J,?_,p,Y⟩;rw[aq J];refine fin λx hx=>?_;obtain⟨i,bW,rfl⟩:=List.mem_take_iff_getElem.1 hx;have b8:b[c]≠f:=λk=>ht (k▸aG y);rcases aR i c with k|k
 have:=List.pairwise_iff_getElem.1 L i c J y k;omega;have:i=c:=J;subst this;omega;rw[aq J]at s;simp[n,show¬(k:Int)<b.length+1 by omega];exact s;exact⟨J,by
  have:(if 1<=b.length then b++[f]else oF b f)=b++[f]:=by
   split;rfl;rw[show b=[]from bC J];rfl
  rw[this];exact⟨bs.out e,⟨(C.hr.out e).hp,(C.hr.out e).low,ay _⟩,λd _ _=>(iJ e _ d).trans (iZ e d)⟩,⟨C.hr.hp,C.hr.low,ay _⟩,by simp[N]⟩
def Zs(a:V5×Int)(c:List T)(b:H):Prop:=c=[a.1.v,M 0,M ((a.1.A++[a.1.t]).length:Nat),M a.2]/\Gr b a.1.v 1 (iE (a.1.A++[a.1.t]))/\jk 0 b/\MP a.1.A/\a.1.t∉a.1.A/\a.1.A.length<=10
def Tj(a:V5×Int)(d:List T)(b:H)(e:T)(c:H):Prop:=InP b c a.1.v (oF a.1.A a.1.t)
def InP.out{h c:H}{e:T}{d:List Int}(a:InP (TI.hr h) c e d):InP h (mV h c) e d:=⟨a.g.out h,⟨(a.ok.out h).hp,(a.ok.out h).low,by have:=a.ok.sz;simpa using this⟩,λb f i=>(iJ h c b).trans ((a.fr b (iC f) i).trans (iZ h b))⟩
def aeV:(kW (V5×Int) Zs Tj).Ok prog cx 167:=by
 refine wP (tb:=⟨pt [],ht [(212,kW V5 Zv Jt)]⟩) ml kl (jz 10384593871817177683247510831234831 [] func167) (λ_ _=>100) (λt p c l=>by obtain⟨rfl,_⟩:=l;simp[f167]) ?_;rintro⟨⟨a,h,d⟩,u⟩ _ c ⟨rfl,e,o,f,ht,hl⟩ b g
 dsimp at e f ht hl
 simp at g;have s:binop .sub (M ((a.length:Int)+1)) (M 0)=G (M ((a.length:Int)+1)):=by rw[my J J];simp
 have m:Gr (TI.hr c) d 1 (iE (a++[h])):=e.mono λi _=>iZ c i;simp[f167];refine u5 1 (λ_ b j=>TI.hr c=j/\ka b 0 d/\iS b 1 0/\iS b 2 ((a.length:Int)+1)) ?_ J (k:=0) J (by simp[g]);rintro _ b _ _ ⟨rfl,q⟩;simp[*,show(a.length:Int)+1<=12 by omega];refine jy Rl Y ⟨a,h,d⟩ ⟨Y,m,o.hr,f,ht,hl⟩ ?_;rintro v r n;simp;exact n.out
def vx:iF:=⟨fh×fi×Int,λa=>[a.1.t,a.2.1.t,M a.2.2],λa=>sH a.1 a.2.1,λa=> M (jn a.1 a.2.1 a.2.2),λa c b=>by simp at b;rw[show a=c from aD (fh.inj b.1) (aD (fi.inj b.2.1) b.2.2)]⟩
def kO.qA{c:fh}(e:kO c){b:gd}(f:b∈c.eZ):jB b.fa c.gY.eY.length=true:=by obtain⟨i,g,rfl⟩:=List.getElem_of_mem f;have⟨b,a,_,_,d,_⟩:=e.at (i:=i) (by rw[gG];omega);simp[bO]at a;rw[aF g]at a;simp[aw]at a;rw[a];exact d
def NN{e:Int}{i:List Int}:∀{b:List gd} (c:Nat),(∀a∈b,a.fa≠e)->rR e i b c=-1:=by
 intro b;induction b with
 |nil=>intro c _;rfl
 |cons a b g=>
  intro c d;unfold rR;rw[aq λh=>d a Y h.1];exact g _ λa f=>d a (by simp[f])
def W9:vx.Ok prog cx 49:=by
 refine iD [(58,oc)] (jz 137454944735 [] func49) (λz=>1000) (by simp[vx]) ?_;rintro⟨a,g,d⟩ (i:sH a g) e k;simp[vx]at k|-;have hl:=i.ev;have D:=i.hw.ok.len;have E:=i.od;cases m:jB d a.gY.eY.length;have F:=sU m;have B:jn a g d=-1:=NN 0 λA w y=>by have:=i.hw.qA w;rw[y,m]at this;simp at this
 by_cases K:d<0;simp[*,f49];simp[*,f49,show(a.gY.eY.length:Int)<=d by omega];have⟨L,N⟩:=gG.1 m;simp[f49,k,show¬d<0 by omega,show¬(a.gY.eY.length:Int)<=d by omega];refine io a.eZ.length J (λj e h=>jk 2 h/\h.get 0=G (eg 15 0 [a.t])/\h.get 1=G (eg 9 0 [g.t])/\iS e 2 d/\jg e 3 0/\jg e 4 1/\ka e 20 (sl (a.eZ.map gd.t))/\iS e 21 a.eZ.length/\iS e 22 j/\rR d g.order (a.eZ.drop j) j=jn a g d) ?_ ?_ J ⟨⟨Y,Y,Y⟩,Y,Y,by simp[k,jn]⟩;rintro j e h x C ⟨f,p,q,r,u,v,s,n,o,c⟩;rw[aJ x]at c;simp[rR]at c;have H:=f.ne (b:=0) J;have I:=f.ne (b:=1) J;simp[*,f.low,ph];refine fO (λl=>?_) (λl=>?_);rw[au (iC l)]at c;simp[f.hp,<-c];rw[aq (iC l)]at c;simp[*,f.cons];rintro e h ⟨f,p,q,r,u,v,s,n,o,c⟩;rw[cr]at c;simp[rR]at c;simp[n,o,f.hp,<-c]
def Ki{d:iq}(ht:d.p 49=G vx)(b:fh)(a:fi)(c:Int)(e:sH b a):rl prog cx d 49 [b.t,a.t,M c]=G (M (jn b a c)):=iL ht W9 (b,a,c) e
def wy:iF:=⟨fh×fi×Int×List Int,λa=>[a.1.t,a.2.1.t,M a.2.2.1,sl (a.2.2.2.map (T.int .i64))],λa=>sH a.1 a.2.1/\a.1.eZ≠ []/\a.2.2.2.length<=1000000,λa=> .bool (mD a.1 a.2.1 a.2.2.1 a.2.2.2),λa c b=>by simp at b;rw[show a=c from aD (fh.inj b.1) (aD (fi.inj b.2.1) (aD b.2.2.1 (jD Y b.2.2.2)))]⟩
def T6:wy.Ok prog cx 54:=by
 refine iD [] (jz 633825300270344703797589335871 [] func54) (λa=>1000005) (by simp[wy]) ?_;rintro⟨c,g,t,l⟩ ⟨S,aE,hl⟩ d ar
 dsimp at S aE hl
 simp[wy]at ar|-;obtain⟨L,v,j⟩:=ar;have b8:=S.hw.cnt aE;have b9:=S.hw.ok.len;cases l with
 |nil=>
  have:mD c g t []:=by unfold mD;split<;>simp
  simp[f54,L,v,j,this]
 |cons a0 l0=>
 have bi:decide ((a0::l0).length=0)=false:=Y;generalize a0::l0=l at*
 have V:decide (l=[])=false:=by cases l<;>simp at bi|-
 cases E:jB t c.mP.count.length with
 |false=>
  have Q:mD c g t l=false:=by unfold mD;rw[nQ E];exact V
  have ca:=sU E;by_cases s:t<0;simp[f54,L,v,j,V,Q,show decide (t<0)=true by simpa using s];simp[f54,L,v,j,V,Q,show decide (t<0)=false by simpa using s,show decide ((c.gY.eY.length:Int)<=t)=true by simp;omega]
 |true=>
 have⟨first,a7,a8⟩:=jt E;have bT:=fZ (gG.1 E).1;have Q:mD c g t l=l.all (yK c g.fixed t first):=by unfold mD;rw[a8]
 have⟨cb,cp⟩:=gG.1 E;simp[f54,L,v,j,V,Q,bT,a7,show decide (t<0)=false by simp;omega,show decide ((c.gY.eY.length:Int)<=t)=false by simp;omega,show decide ((c.mP.count.length:Int)<=t)=false by simp;omega];refine io c.eZ.length J (λi d m=>∃r,Gr m r 1 (iE (rj t (c.eZ.take i) 0))/\(∀b,fD r=G b->2<=b)/\jk 2 m/\m.get 0=G (eg 15 0 [c.t])/\m.get 1=G (eg 9 0 [g.t])/\iS d 2 t/\ka d 3 (sl (l.map (T.int .i64)))/\jg d 5 1/\iS d 9 first/\ka d 10 r/\ka d 43 (sl (c.eZ.map gd.t))/\iS d 44 c.eZ.length/\iS d 45 i) ?_ ?_ J ⟨ed,Gr.nil _ _,Y,⟨Y,Y,Y⟩,Y,Y,by simp[j]⟩;rintro i d m F D ⟨r,u,K,k,W,y,j⟩;have av:=Cv t (c.eZ.take i) 0;rw[List.length_take]at av;have w:=Gd t (c.eZ.take i) [c.eZ[i]] 0;rw[<-aM F,List.length_take,cP J]at w;simp[rj]at w;generalize rj t (c.eZ.take i) 0=o at*
 have ae:=k.cons (eg 7 1 [c.eZ[i].t]);have ap:Gr (m.cons (eg 7 1 [c.eZ[i].t])) r 1 (iE o):=u.mono λb P=>by
  have⟨_,_,_,_,s,_⟩:=u.box P;rw[fH,aq (iV (H.fV s))]
 have bA:=k.ne (b:=0) J;have bN:=k.ne (b:=1) J;simp[j,F,k.low];refine fO (λq=>?_) (λq=>?_);rw[au (iC q)]at w;have⟨c4,z,an,bZ⟩:=ap.oy (cx:=cx) (f:=T.int .i64) (ae.Dc (az _)) kS rfl nL rfl Y (λ_=>rfl) (i:Int) dY;obtain⟨a1,a2,a3,a4⟩:=bZ;simp at an;have cL:=ae.sz;have ao:∀b,b<2->z.get b=m.get b:=λb P=>(a2 b J λs=>iV (K b s)).trans (by rw[fH,aq (iV k.sz)]);simp[j,D,an];exact⟨_,by rw[w];simpa using a1,λb P=>(a3 b P).elim (K b) λs=>by omega,⟨a4.hp,a4.low,iV a4.sz⟩,(ao 0 J).trans W,(ao 1 J).trans y,rfl⟩;rw[aq (iC q)]at w;simp[j,D,bA,bN,W,y];exact⟨_,by rw[w];simpa using ap,K,ae,rfl⟩
 .rintro d m ⟨r,u,K,k,W,y,j⟩;rw[aI]at u;have av:=Cv t c.eZ 0;have bn:=λx=>K8 (t:=t) (l:=c.eZ) (i:=0) (x:=x);have own:∀h:Int,-9223372036854775808<=h->h<9223372036854775808->sh t c.eZ 0 h=if 0<=h then(rj t c.eZ 0).getD h.toNat (-1)else-1:=λh bu I=>by
   split;exact Gt t _ _ _ J I;exact LD t _ _ _ J bu J
  generalize rj t c.eZ 0=o at*
  simp[j];refine io l.length J (λn d z=>z=m/\jg d 5 1/\iS d 9 first/\ka d 10 r/\ka d 59 (sl (l.map (T.int .i64)))/\iS d 60 l.length/\iS d 61 n/\(l.drop n).all (yK c g.fixed t first)=l.all (yK c g.fixed t first)) ?_ ?_ J (by simp[j])
  .rintro n d z F D ⟨rfl,N,p,A,O,B,C,e⟩;rw[aJ F,cA]at e;simp[p,O,B,C,F];refine fO (λq=>?_) (λq=>?_);have:yK c g.fixed t first l[n]:=by unfold yK;rw[q];rfl
   rw[this,aZ]at e;simp[N,p,A,O,B,C,D,e];have br:yK c g.fixed t first l[n]=xM g.fixed (sh t c.eZ 0 (IntKind.i64.wrap (l[n]-first))):=by unfold yK;rw[q];rfl
   have⟨bW,bX⟩:=adp (l[n]-first);rw[br,own _ bW bX]at e;have R:=λv=>u.len (cx:=cx) v uu _ rfl;simp at R;have U:=we .i64 l[n] first
   generalize IntKind.i64.wrap (l[n]-first)=h at*
   have ax:xM g.fixed (-1)=false:=rfl;cases p1:decide (h<0)with
   |true=>
    rw[aq (by simp at p1;omega),ax,dy]at e;simp[p,U,p1,k.hp,<-e]
   |false=>
   have Z:0<=h:=iC p1;rw[au Z]at e;cases p2:decide ((o.length:Int)<=h)with
   |true=>
    have:o.getD h.toNat (-1)=-1:=by rw[da,cj (by simp at p2;omega)];rfl
    rw[this,ax,dy]at e;simp[p,A,U,p1,p2,R,k.hp,<-e]
   |false=>
   have I:h.toNat<o.length:=by simp at p2;omega
   have⟨x,aA,bs⟩:=bn o[h.toNat] (aG I);have X:x<g.fixed.length:=S.hc.fx▸bs;have:o.getD h.toNat (-1)=x:=by rw[da,aF I];simpa using aA
   rw[this,show xM g.fixed x=g.fixed[x]by simp[xM,so,X]]at e;have⟨b,b6,c6,b7,c7,c1,aN,aX,al⟩:=u.CD (te:=EW) rfl (i:=h.toNat) (iC I);simp[aA]at al;have p3:decide (g.fixed.length<=x)=false:=dY;cases p4:g.fixed[x];rw[p4,dy]at e;simp[N,p,A,U,p1,p2,p3,p4,R,fZ Z,aN,aX,al,y,X,k.hp,<-e];rw[p4,aZ]at e;simp[N,p,A,O,B,C,U,p1,p2,p3,p4,R,fZ Z,aN,aX,al,y,X,D,e]
  rintro d z ⟨rfl,N,p,A,O,B,C,e⟩;rw[cr]at e;simp at e;simp[B,C,k.hp];simpa using e
def Qh{e:iq}(ht:e.p 54=G wy)(a:fh)(b:fi)(d:Int)(c:List Int)(f:sH a b)(g:a.eZ≠ [])(hl:c.length<=1000000):rl prog cx e 54 [a.t,b.t,M d,sl (c.map (T.int .i64))]=G (.bool (mD a b d c)):=iL ht T6 (a,b,d,c) ⟨f,g,hl⟩
def qU:iF:=⟨fh×fi×Int,λa=>[a.1.t,a.2.1.t,M a.2.2],λa=>sH a.1 a.2.1/\jB a.2.2 a.1.gY.eY.length=true,λa=> .bool (iO a.1 a.2.1 a.2.2),λa c b=>by simp at b;rw[show a=c from aD (fh.inj b.1) (aD (fi.inj b.2.1) b.2.2)]⟩
def NF:qU.Ok prog cx 48:=by
 refine iD [(49,vx),(107,qj),(54,wy)] (jz 16863 [] func48) (λu=>5) (by simp[qU]) ?_;rintro⟨w,a,t⟩ ⟨c,f⟩ C m
 dsimp at c f
 simp[qU]at m|-;have hE:=iO.eq_1 w a t;generalize iO w a t=r at*
 have B:=λ{d:iq} (ht:d.p 49=G vx)=>Ki ht w a t c;by_cases g:jn w a t<0;rw[au g]at hE;simp[*,f48];rw[aq g]at hE;have e:=qV g;have⟨b,h,v,x,y,i⟩:=c.hw.at e;rw[pF (gG.1 e).1 h]at hE;have q:=c.hw.ev b (aB h);have n:w.gY.jl.length<=1000000:=iV (kA c.hw.wb);have j:=c.hc.ft (py e);have z:=λ{d:iq} (ht:d.p 107=G qj)=>I9 ht (w:=w.gY) (s:=a.ig) (t:=t) (k:=b.kind) (o:=b.obj) ⟨j,f,i,n,c.hc.rd⟩;have A:=λ{d:iq} (ht:d.p 54=G wy)=>Qh ht w a t b.m9 c (py e) q.1;have l:jK w.gY a.ig t b.kind b.obj=BW w.gY a.ig t b.kind b.obj:=by unfold jK;rw[j,f,i];rfl
 rw[l]at hE;simp[*,f48]
def D0{d:iq}(ht:d.p 48=G qU)(a:fh)(b:fi)(c:Int)(e:sH a b)(f:jB c a.gY.eY.length):rl prog cx d 48 [a.t,b.t,M c]=G (.bool (iO a b c)):=iL ht NF (a,b,c) ⟨e,f⟩
end
def air(b:T):Prop:=∃(a:lQ) (c:jG),b= .tuple [a.t,c.t]/\Wm a.eZ/\a.eZ.length<=80/\trR a
def Pp:p8 prog cx 32 (λg:lj×List fG=>[g.1.t,sl (g.2.map fG.t)]) (λg=>(∀o∈g.1.eY,o.j3.length<=10000001)/\g.2.length<=80/\cR g.1) (λ_=>air):=by
 refine yQ (tb:=⟨pt [(81,Aq.kx),(83,IA.kx)],ht [(82,kW IFr Zx Tq)]⟩) ml kl (jz 1271 [(3,[(0,2),(2,8),(4,8)]),(4,[(4,5)])] func32) (λ_=>105) (λg r k=>by simp at k;exact aD (lj.inj k.1) (jD (λ_ _ k=>fG.inj k) k.2)) Y nl9 ?_;rintro⟨j,x⟩ ⟨n,v,m⟩ ao D
 dsimp at n v m
 simp at D;obtain⟨_,⟨r,rfl,X⟩,V⟩:=Aq.use j n;obtain⟨_,⟨K,rfl,L,A⟩,U⟩:=IA.use j ⟨n,m⟩;cases r;simp[*,f32];exact⟨⟨⟨[],[],[],[],[],[]⟩,[]⟩,⟨⟨[],0,[],[]⟩,[],[],[]⟩,rfl,λ_ b=>by simp at b,Y,by simp[trR,evR]⟩;simp[*,f32];generalize i:((hE.cons _).cons _).cons _=h;have I:jk 0 h:=i▸⟨Y,Y,Y⟩;have S:h.size=3:=by rw[<-i];rfl
 have O:h.get 0=G (eg 7 0 [j.t]):=by rw[<-i];simp
 have P:h.get 1=G (eg 7 0 [.agg [ed,ed,ed,ed,ed,ed,ed]]):=by rw[<-i];simp
 have Q:h.get 2=G (eg 7 0 [.agg [ed,M 0,ed,ed,ed,ed,ed]]):=by rw[<-i];simp
 clear i;refine mZ T5 Y ⟨j,K,x⟩ ⟨rfl,I,n,L,A,v,m⟩ ?_;rintro _ b ⟨w,d,N,rfl,l,s,e,z,y,hl⟩;have R:=e.ok.sz;rw[S]at s R;have a0:=(e.get 0 J).trans O;have a1:=(e.get 1 J).trans P;have a2:=(e.get 2 J).trans Q;have sv:=λa (F:a<h.size)=>iw (e.get a F);have al:=sv 0 J;have ap:(0=b.size)=False:=dY;have ar:(1=b.size)=False:=dY;have ax:(2=b.size)=False:=dY;have Z:=e.ok.low;have ae:il h b b.size:=kf (oR _ e.ok.sz);have okB:jk 0 (b.cons (eg 7 1 [d.t])):=jk.cons ⟨e.ok.hp,e.ok.low,az _⟩ _;have q:∀a,(b.cons (eg 7 1 [d.t])).get a=if a=b.size then some (eg 7 1 [d.t])else b.get a:=λa=>fH ..;have u:=(q 1).trans ((aq J).trans a1);have p:∀c a,(fQ (b.cons (eg 7 1 [d.t])) 1 c).get a=if a=1 then some c else if a=b.size then some (eg 7 1 [d.t])else b.get a:=λc a=>(fj u c a).trans (by rw[q]);have C:=λc=>(p c 2).trans ((aq J).trans ((aq J).trans a2));have G2:∀c f a,(fQ (fQ (b.cons (eg 7 1 [d.t])) 1 c) 2 f).get a=if a=2 then some f else if a=1 then some c else if a=b.size then some (eg 7 1 [d.t])else b.get a:=λc f a=>(fj (C c) f a).trans (by rw[p]);have an:∀c,il (b.cons (eg 7 1 [d.t])) (fQ (b.cons (eg 7 1 [d.t])) 1 c) b.size:=λc=>pR u J c;have av:(b.size=1)=False:=dY;have W:∀c f,TI.fz (fQ (fQ (b.cons (eg 7 1 [d.t])) 1 c) 2 f) N=G (sl (w.map gd.t)):=λc f=>(l.mono (h':=fQ (fQ (b.cons (eg 7 1 [d.t])) 1 c) 2 f) λa o=>by
  have⟨_,_,_,_,B,_⟩:=l.box o;have:=H.fV B;have:=s a o;rw[G2,aq J,aq J,aq J]).fz Y
 simp[*,l.je,l.cells,fN,e.ok.hp];exact⟨⟨j.gY,w⟩,d,rfl,z,hl,y,m.2⟩
def Lx:p8 prog cx 33 (λc:List Int=>[sl (c.map (T.int .u8))]) okB (λ_ j=>∃a:lj,j=a.t/\(∀k∈a.eY,k.j3.length<=10000001)/\cR a):=by refine jX [(84,TW.kx),(36,Es.kx)] (jz 13 [] func33) (λ_=>105) (λl m b=>by simp at b;exact jD (λ_ _ b=>iC b) b) ?_;rintro c d r e;simp at e;obtain⟨_,⟨i,rfl,g,h⟩,o⟩:=TW.use c d;obtain⟨_,⟨a,n,q,rfl,f⟩,p⟩:=Es.use i ⟨g,h⟩;simp[*,f33];exact⟨a,rfl,f⟩
def aij(b:T):Prop:=∃a:lQ,b=a.t/\Wm a.eZ/\a.eZ.length<=80/\trR a
def Iy:p8 prog cx 11 (λa:List Int×List Int=>[sl (a.1.map (T.int .u8)),sl (a.2.map (T.int .u8))]) (λa=>okB a.1/\okB a.2/\a.2.length<=80) (λ_=>aij):=by
 refine jX [(33,Lx.kx),(34,IG.kx),(32,Pp.kx)] (jz 51 [] func11) (λ_=>105) (λa o b=>by simp at b;exact aD (jD (λ_ _ b=>iC b) b.1) (jD (λ_ _ b=>iC b) b.2)) ?_;rintro⟨h,g⟩ ⟨d,c,l⟩ t m
 dsimp at d c l
 simp at m;obtain⟨_,⟨i,rfl,e⟩,p⟩:=Lx.use h d;obtain⟨_,⟨f,rfl,r⟩,q⟩:=IG.use g ⟨c,J⟩;obtain⟨_,⟨n,s,rfl,k,hl⟩,j⟩:=Pp.use (i,f) ⟨e.1,dZ,e.2⟩
 dsimp at j
 simp[*,f11];exact⟨n,rfl,k,hl⟩
end
noncomputable section
open Go Go.TI Tryz
section
attribute [-simp] List.map_take List.map_drop List.map_append
def pA(c:Nat)(b:List Int):Bool:=b.all λa=>jB a c
def tL:iF:=⟨iT×List Int,λa=>[a.1.t,sl (a.2.map (T.int .i64))],λa=>a.2.length<=1099511627776,λa=> .bool (pA a.1.w.eZ.length a.2),λa c b=>by simp at b;rw[iT.inj b.1,jD Y b.2]⟩
def Tz:tL.Ok prog cx 102:=by
 refine iD [] (jz 4196311 [] func102) (λn=>n.2.length+1) (by simp[tL]) ?_;rintro⟨e,b⟩ hl d l;simp[tL]at hl l|-;simp[f102,l];refine io b.length J (λc d f=>f=H.cons hE (eg 16 0 [e.t])/\jg d 2 0/\ka d 7 (sl (b.map (T.int .i64)))/\iS d 8 b.length/\iS d 9 c/\pA e.w.eZ.length (b.drop c)=pA e.w.eZ.length b) ?_ ?_ J Y;rintro c d f j p ⟨rfl,k,g,h,i,a⟩;rw[aJ j]at a;simp only[pA,cA]at a;by_cases m:b[c]<0;have:jB b[c] e.w.eZ.length=false:=by simp[jB];omega
 rw[this,dy]at a;simp[g,h,i,j,m,pA,a.symm];by_cases o:(e.w.eZ.length:Int)<=b[c];have:jB b[c] e.w.eZ.length=false:=by simp[jB];omega
 rw[this,dy]at a;simp[k,g,h,i,j,m,o,pA,a.symm];have:jB b[c] e.w.eZ.length:=by simp[jB];omega
 rw[this,aZ]at a;simp[*,pA];rintro d f ⟨rfl,k,g,h,i,a⟩;simp[pA]at a;simp[*,pA];exact a
def Kg{c:iq}(ht:c.p 102=G tL)(b:iT)(a:List Int)(hl:a.length<=1099511627776):rl prog cx c 102 [b.t,sl (a.map (T.int .i64))]=G (.bool (pA b.w.eZ.length a)):=iL ht Tz (b,a) hl
def vY{d:iq}(ht:d.p 102=G tL)(a:iT)(b c:Int):rl prog cx d 102 [a.t,sl [M b,M c]]=G (.bool (jB b a.w.eZ.length&&jB c a.w.eZ.length)):=by have:=Kg ht a [b,c] Y;simpa[pA]using this
def Ek(a:fh)(b c:Int):Bool:=jB b a.eZ.length&&jB c a.eZ.length&&decide (b<c)&&mE (mL a.eZ b) (mL a.eZ c)&& !decide ((mL a.eZ b).fa=(mL a.eZ c).fa)&& !((so a.gY.cells (mL a.eZ b).obj).getD default).BY
def KA(b:fh):Prop:=∀a∈b.eZ,pz a->jB a.obj b.gY.cells.length=true
def Dp:iF:=⟨iT×Int×Int,λa=>[a.1.t,M a.2.1,M a.2.2],λa=>KA a.1.w,λa=> .bool (Ek a.1.w a.2.1 a.2.2),λa c b=>by simp at b;rw[iT.inj b.1,b.2.1,b.2.2]⟩
def W8:Dp.Ok prog cx 99:=by
 refine iD [(102,tL),(162,wA)] (jz 67109327 [(3,[(8,14),(10,14),(11,14)])] func99) (λb=>1) (by simp[Dp]) ?_;rintro⟨f,c,d⟩ j E e;simp[Dp]at j e|-;obtain⟨s,t,u⟩:=e;cases n:(jB c f.w.eZ.length&&jB d f.w.eZ.length)with
 |false=>simp[*,f99,vY,Ek,iW]
 |true=>
  have a:=n;rw[aC]at a;have⟨b,e,k⟩:=jt a.1;have⟨g,v,m⟩:=jt a.2;have A:=fZ (gG.1 a.1).1;have B:=fZ (gG.1 a.2).1;have q:mL f.w.eZ c=b:=by simp[mL,k]
  have r:mL f.w.eZ d=g:=by simp[mL,m]
  by_cases C:d<=c;have:¬c<d:=J;simp[*,f99,vY,Ek,iW];have z:c<d:=J;cases h:mE b g;simp[*,f99,vY,Ek,iW,Fe,a.1,a.2];have l:pz b:=by unfold mE at h;simp at h;exact h.1.1.1
  have i:=j b (aB e) l;have⟨o,x,y⟩:=jt i;have p:=fZ (gG.1 i).1;cases D:decide (b.fa=g.fa)<;>
   simp[*,f99,vY,Ek,iW,Fe,a.1,a.2,mU]
def acb{d:iq}(ht:d.p 99=G Dp)(a:iT)(b c:Int)(e:KA a.w):rl prog cx d 99 [a.t,M b,M c]=G (.bool (Ek a.w b c)):=iL ht W8 (a,b,c) e
end
end
noncomputable section
open Go Go.TI Tryz
attribute [-simp] List.map_take List.map_drop List.map_append ik gu fI Bool.not_or Bool.not_and
section
attribute [-simp] size_cons
def gT(e:iv):T:= .agg [M e.kind,M e.a,M e.b,M e.c,M e.d,ed]
structure IPt where
 (w:fh) (g:iv) (v:T) (es:List T)
def Zr(a:IPt)(c:List T)(b:H):Prop:=c=[a.w.t,a.v,gT a.g]/\Gr b a.v 6 a.es/\jk 0 b/\kO a.w/\a.es.length<=1000000/\a.g.jA=[]
def Jr(a:IPt)(e:List T)(b:H)(d:T)(c:H):Prop:=Xt b a.v 6 (a.es++if a.w.gx.vR a.g=true then [gT a.g]else []) d c
def Jx:(kW IPt Zr Jr).Ok prog cx 39:=by
 refine jP [(24,pT)] [] (jz 623 [] func39) 10 ?_;rintro⟨g,e,n,y⟩ _ f ⟨rfl,o,v,u,hl,k⟩ K s
 dsimp at o u hl k
 simp[gT]at s;obtain⟨z,q,A⟩:=s;have B:T.agg [M e.kind,M e.a,M e.b,M e.c,M e.d,.jf]=e.t:=by unfold iv.t iv.cs;rw[k];rfl
 have j:=λ{C:iq} (ht:C.p 24=G pT)=>CZ ht g e u (by rw[k];simp);rw[<-B]at j;generalize r:g.gx.vR e=E at j;have h:Xt (TI.hr f) n 6 y n (((TI.hr f).cons (eg 15 0 [g.t])).cons (eg 6 0 [gT e])):=((Xt.refl (o.mono λw _=>iZ f w) v.hr).cons _).cons _;have m:jk 0 (((TI.hr f).cons (eg 15 0 [g.t])).cons (eg 6 0 [gT e])):=(v.hr.cons _).cons _;have⟨I,F,i,x⟩:=h.1.yv (cx:=cx) m U3 rfl U4 rfl Y (x:=gT e) rfl dY;have D:=h.trans x;unfold gT at i h m;have H:=m.low
 change jE cx _ _ _ n (.arr (f.size+1+1) 0 0 1 false)=_ at i
 simp[f39,z,A,j];refine fO (λl=>?_) (λl=>?_);subst l;simp[q,i];unfold Jr;simp[r];exact D.out;subst l;simp[q];unfold Jr;simp[r];simpa using h.out
abbrev DI(a:List Int):List T:=a.map (T.int .i64)
def MM(d c:H)(f b:T)(e:List Int):Prop:=Gr c b 1 (DI e)/\∀a,fD b=G a->d.size<=a/\a<c.size/\fD f≠some a
def Xt.nb{e f g:H}{j h:T}{i:Nat}{d:List T}(b:Xt e j i d h f)(a:Nb f g):Xt e j i d h g:=by have p:=b.2.2.2.sz;refine⟨b.1.mono λk l=>?_,λc m n=>(a.get c J).trans (b.2.1 c m n),b.2.2.1,a.ok.hp,a.ok.low,aV p a.ok.sz⟩;have⟨_,_,_,_,o,_⟩:=b.1.box l;exact a.get k (H.fV o)
def MM.nb{g f h:H}{k e:T}{i:List Int}(a:MM g f k e i)(j:Nb f h):MM g h k e i:=
 ⟨a.1.mono λd l=>j.get d (a.2 d l).2.1,λb c=>⟨(a.2 b c).1,bS (a.2 b c).2.1 j.ok.sz,(a.2 b c).2.2⟩⟩
def MM.xt{h g i:H}{l r2 f:T}{k:List Int}{o:Nat}{m:List T}(a:MM h g l f k)(d:Xt g l o m r2 i):MM h i r2 f k:=
 ⟨a.1.mono λe j=>d.2.1 e (a.2 e j).2.1 (a.2 e j).2.2,λb c=>⟨(a.2 b c).1,bS (a.2 b c).2.1 d.2.2.2.sz,λn=>(d.2.2.1 b n).elim (a.2 b c).2.2 (λp=>iV (a.2 b c).2.1)⟩⟩
def MM.fin{a g f:H}{i e:T}{h:List Int}(b:MM g f i e h)(j:a.size<=g.size):MM a (mV a f) i e h:=⟨b.1.out a,λc d=>⟨aV j (b.2 c d).1,(b.2 c d).2.1,(b.2 c d).2.2⟩⟩
structure ICy where
 (w:fh) (p:List Int) (pv v:T) (es:List T)
def cyR(a:ICy):List (List Int):=Ol a.w.gx.ev.length (λb=>a.w.gx.vR (gC b)) (λb c=> !decide (c∈b)&&a.w.gx.r8 c (yC b)) (4-a.p.length) a.p
def Td(a:ICy)(d:List T)(b:H):Prop:=d=[a.w.t,a.pv,a.v]/\Gr b a.pv 1 (DI a.p)/\Gr b a.v 1 a.es/\(∀c,fD a.pv=G c->fD a.v≠some c)/\jk 0 b/\kO a.w/\1<=a.p.length/\a.p.length<=4/\(∀e∈a.p,jB e a.w.eZ.length=true)/\a.es.length+(cyR a).length<=1000000
def Nq(a:ICy)(f:List T)(b:H)(e:T)(c:H):Prop:=∃d,Xt b a.v 1 (a.es++d) e c/\jw (MM b c e) d (cyR a)
def ae1(k:Nat):(kW ICy (λi a h=>Td i a h/\5-i.p.length<k) Nq).Ok prog cx 40:=by
 refine AH (λi:ICy=>5-i.p.length) (λm eI=>?_) k;refine jP [(24,pT),(97,Ci),(98,wC)] [(40,kW ICy (λi a h=>Td i a h/\5-i.p.length<m) Nq)] (jz 140738563147983 [(9,[(0,3),(3,5),(0,6)])] func40) 100 ?_;rintro⟨d,c,y,z,es⟩ _ h ⟨⟨rfl,Q,ao,c6,bA,ae,eE,eF,ap,bn⟩,eB⟩ A b9
 dsimp at Q ao c6 ae eE eF ap bn eB
 simp at b9;obtain⟨ej,u,E⟩:=b9;have b6:∀{aE:iq},aE.p 24=G pT->rl prog cx aE 24 [d.t,iv.t ⟨2,0,0,0,0,c⟩]=G (.bool (d.gx.vR (gC c))):=λht=>CZ ht d (gC c) ae (by simp[gC];omega);generalize R:(TI.hr h).cons (eg 15 0 [d.t])=n;have de:jk h.size n:=R▸(⟨bA.hr.hp,bA.hr.low,ay _⟩:jk h.size (TI.hr h)).cons _;have aN:n.size=h.size+1:=by rw[<-R];rfl
 have bZ:n.get h.size=G (eg 15 0 [d.t]):=by rw[<-R];simp
 have b8:∀r,r<h.size->n.get r=h.get r:=λr I=>by rw[<-R,fH,aq dY];exact iZ h r
 have c7:∀b,fD y=G b->b<h.size:=λb v=>by have⟨_,_,_,_,B,_⟩:=Q.box v;exact H.fV B
 have av:∀b,fD z=G b->b<h.size:=λb v=>by have⟨_,_,_,_,B,_⟩:=ao.box v;exact H.fV B
 have an:Gr n y 1 (DI c):=Q.mono λb v=>b8 b (c7 b v);have bi:Gr n z 1 es:=ao.mono λb v=>b8 b (av b v);have ax:jk 0 n:=⟨de.hp,de.low,az _⟩;have ef:TI.fz n y=G (sl (DI c)):=an.fz Y;have eU:TI.qZ n y=G (sl (DI c)):=an.qZ Y;have eX:∀l:List T,l.length=c.length->c.length<=4->l.length*8<=70368744177664:=by intros;omega
 generalize et:d.gx.vR (gC c)=V at b6;simp[f40,ej,u,R,Q.je,Q.cells,ef,bZ,b6];refine nS (λA j=>∃s o,Xt n z 1 (es++o) s j/\jw (MM n j s) o (if V=true then [c]else [])/\ka A 1 y/\ka A 2 s/\jg A 3 h.size) (λL=>?_) (λL=>?_) ?_;have⟨a7,C,P,⟨eR,eS,gA⟩,W,N,F⟩:=kR (cx:=cx) (sz:=1) ax (x:=y) (xs:=DI c) kS rfl nL kS rfl rfl Y an.kd d1 dY;have eh:Gr C z 1 es:=bi.mono λb v=>N b (iV (av b v));have⟨eP,j,e,x⟩:=eh.yv (cx:=cx) F P0 rfl kS rfl Y (x:= .arr n.size a7 0 c.length false) rfl dY;have eK:=F.low;have e7:=ax.low;simp at P gA;rw[aN]at P W;rw[W,aN]at e;have c9:Nb n C:=⟨⟨F.hp,F.low,J⟩,N⟩;have r1:MM n C z (.arr n.size a7 0 c.length false) c:=by
  have g:=Gr.new (h:=C) (b:=n.size) (es:=DI c) gA;rw[aL]at g;exact⟨g,λr I=>by simp at I;subst I;exact⟨ay _,J,λq=>iV (av _ q)⟩⟩
 have dn:=(Xt.nb (Xt.refl bi ax) c9).trans x;have r2:=r1.xt x;rw[aN]at dn r2;simp[u,E,aN,W,P,e];exact⟨eP,_,dn,by rw[L];exact .cons r2 .nil,rfl⟩;simp[u,E];exact⟨z,[],iC (Xt.refl bi ax),L▸ .nil,rfl⟩;rintro A j ⟨s,o,x,D,u,E,K⟩;have dk:Xt (TI.hr h) z 1 es z n:=R▸(Xt.refl (ao.mono λb _=>iZ h b) bA.hr).cons _;have bu:=λu:H=>Q.len (cx:=cx) u uu _ rfl;rw[aL]at bu;simp[u,bu];have S:cyR ⟨d,c,y,z,es⟩=Ol d.eZ.length (λc=>d.gx.vR (gC c)) (λc w=> !decide (w∈c)&&d.gx.r8 w (yC c)) (4-c.length) c:=rfl;rw[<-et]at D;refine fO (λL=>?_) (λL=>?_);simp[E];simp at L;refine⟨o,(dk.trans x).out,?_⟩;rw[S,show 4-c.length=0 by omega,Ol];exact D.imp λ_ _ q=>q.fin J;simp at L;have⟨X,eo⟩:∃X,4-c.length=X+1:=⟨3-c.length,J⟩;rw[eo,Ol]at S;have⟨p0,c4⟩:∃p0:Nat,c[0]? =G (p0:Int)/\p0<d.eZ.length:=by
  have:=gG.1 (ap c[0] (aG J));exact⟨c[0].toNat,by rw[aF J];congr 1;omega,J⟩
 have e5:=ae.ok.len;have eA:(c.getD 0 0).toNat=p0:=by simp[List.getD,c4.1]
 rw[eA]at S;have bs:c.length-1<c.length:=J;have cL:yC c=c[c.length-1]:=by simp[yC,List.getD,bs]
 have eC:jB (yC c) d.eZ.length:=cL▸ap _ (aG bs);have aA:∀{s:T} {o:List T} {j:H},Xt n z 1 (es++o) s j->rx j 1 y (DI c):=λx=> .inr (an.mono λb v=>x.2.1 b (iV (c7 b v)) (c6 b v));have⟨e8,ds,ea⟩:=(aA x).idx (te:=EW) rfl rfl (i:=0) (x:= M p0) (by simp[c4.1]) rfl;have eu:binop .add (M (p0:Int)) (M 1)=G (M ((p0:Int)+1)):=jr J J;have eG:binop .sub (M (c.length:Int)) (M 1)=G (M ((c.length-1:Nat):Int)):=by rw[my J J];congr 2;omega
 generalize cp:(λ(w:Nat)=>if(!decide ((w:Int)∈c)&&d.gx.r8 w (yC c))=true then Ol d.eZ.length (λc=>d.gx.vR (gC c)) (λc w=> !decide (w∈c)&&d.gx.r8 w (yC c)) X (c++[(w:Int)])else [])=f at S;simp[u,ds,ea,eu];refine u5 d.eZ.length (λk A j=>p0+1<=k/\∃s o,Xt n z 1 (es++o) s j/\jw (MM n j s) o ((if d.gx.vR (gC c)=true then [c]else [])++(List.range' (p0+1) (k-(p0+1))).flatMap f)/\ka A 1 y/\ka A 2 s/\jg A 3 h.size/\iS A 7 k) ?_ J (k:=p0+1) J ?_;rintro k A j e0 ⟨eW,s,o,x,D,u,E,K,Z⟩;have bN:=(x.2.1 h.size J λq=>iV (av _ q)).trans bZ;have dd:jk 0 j:=⟨x.2.2.2.hp,x.2.2.2.low,az _⟩;by_cases c1:k<d.eZ.length;have ca:binop .add (M (k:Int)) (M 1)=G (M ((k:Int)+1)):=jr J J;have⟨e9,eb,ec⟩:=(aA x).idx (te:=EW) rfl rfl (i:=c.length-1) (x:= M (yC c)) (by rw[cL];simp[bs]) rfl;have a8:TI.qZ j y=G (sl (DI c)):=(aA x).qZ Y Y;have ee:=λ{aE:iq} (ht:aE.p 98=G wC)=>Qj ht d k (yC c) ae (gG.2 ⟨J,J⟩) eC;simp[u,K,Z,bN,c1,bu,eG,eb,ec,a8,ee,Mz,show c.length<=1099511627776 by omega];refine fO (λq=>?_) (λq=>?_);have⟨a7,C,P,⟨eR,eS,gA⟩,W,N,F⟩:=kR (cx:=cx) (sz:=1) dd (x:=y) (xs:=DI c) kS rfl nL kS rfl rfl Y (aA x).kd d1 dY;have c9:Nb j C:=⟨⟨F.hp,F.low,J⟩,N⟩;have a8:=Gr.new (h:=C) (b:=j.size) (es:=DI c) gA;have⟨di,bW,aX,U⟩:=a8.oy (cx:=cx) (f:=T.int .i64) F kS rfl nL rfl Y (λx=>rfl) (k:Int) dY;have eK:=F.low;have e6:=dd.low;simp at P aX;rw[W]at aX;have ar:h.size<j.size:=iV x.2.2.2.sz;have b7:∀r,r<j.size->bW.get r=j.get r:=λr I=>(U.2.1 r J dY).trans (N r I);have eM:il (j.cons (eg 1 0 [])) C h.size:=iw ((N _ ar).trans d2);have eN:il (j.cons (eg 1 0 [])) C (j.size+1):=kf (oR _ Y);have eO:il (C.cons (eg 1 0 [M k])) bW h.size:=iw ((b7 _ ar).trans (by rw[fH,aq J];exact(N _ ar).symm));have al:Nb j bW:=⟨⟨U.2.2.2.hp,U.2.2.2.low,iV U.2.2.2.sz⟩,b7⟩;simp[u,E,K,Z,bN,P,aX,W,eM,eN,eO];have dm:=Xt.nb x al;have br:f k=Ol d.eZ.length (λc=>d.gx.vR (gC c)) (λc w=> !decide (w∈c)&&d.gx.r8 w (yC c)) X (c++[(k:Int)]):=by rw[<-cp];simp only;rw[au q]
 have cb:cyR ⟨d,c++[(k:Int)],di,s,es++o⟩=f k:=by rw[br];unfold cyR;simp only[aT,List.length_singleton];rw[show 4-(c.length+1)=X by omega];rfl
 have eH:kM (p0+1) d.eZ.length=List.range' (p0+1) (k-(p0+1))++k::List.range' (k+1) (d.eZ.length-(k+1)):=by
  unfold kM;rw[show d.eZ.length-(p0+1)=(k-(p0+1))+(d.eZ.length-k)by omega,<-List.range'_append_1,show p0+1+(k-(p0+1))=k by omega,show d.eZ.length-k=(d.eZ.length-(k+1))+1 by omega,List.range'_succ]
 have eD:=D.length;have ey:(es++o).length+(f k).length<=1000000:=by
  rw[S,eH]at bn;simp[aT,cH,bh]at bn eD|-;omega
 refine mZ eI Y ⟨d,c++[(k:Int)],di,s,es++o⟩ ⟨⟨rfl,U.1,dm.1,λb v hr=>?_,⟨al.ok.hp,al.ok.low,az _⟩,ae,Y,dY,λO B=>?_,cb▸ey⟩,dY⟩ ?_;have⟨_,_,_,_,B,_⟩:=x.1.box hr;have:=H.fV B;rcases U.2.2.1 b v with q|q;simp at q;omega;omega;simp at B;rcases B with B|rfl
 exact ap O B;show jB (k:Int) d.eZ.length=true;exact gG.2 ⟨J,J⟩;rintro r3 eV ⟨eL,bT,bX⟩;rw[cb]at bX;have fe:=bT.2.2.2.sz;have e4:h.size+1<=j.size:=ar;have fb:=al.ok.sz;simp[u,K,Z,ca];refine⟨k+1,J,J,J,r3,o++eL,?_,?_,rfl,Y⟩;have:=dm.trans bT;rw[aO]at this;exact this;rw[show k+1-(p0+1)=(k-(p0+1))+1 by omega,List.range'_concat,show p0+1+1*(k-(p0+1))=k by omega,cH,<-aO];refine jw.append (D.imp λ_ _ O=>(O.nb al).xt bT) ?_;simp[bh,df,cq];exact bX.imp λ_ _ O=>⟨O.1,λr I=>⟨iV (O.2 r I).1,(O.2 r I).2⟩⟩;simp[u,E,K,Z,ca];have br:f k=[]:=by rw[<-cp];simp only;rw[aq (by rw[q];simp)]
 refine⟨k+1,J,J,J,s,o,x,?_,rfl,Y⟩;rw[show k+1-(p0+1)=(k-(p0+1))+1 by omega,List.range'_concat,show p0+1+1*(k-(p0+1))=k by omega,cH];simpa[br]using D;simp[E,K,Z,bN,c1];refine⟨o,(dk.trans x).out,?_⟩;rw[S];unfold kM;rw[show k=d.eZ.length by omega]at D;exact D.imp λ_ _ q=>q.fin J;exact⟨J,s,o,x,iC D,by simp[u,E,K]⟩
def p9{a b:Nat}(c:a<b):kM a b=a::kM (a+1) b:=by unfold kM;rw[show b-a=(b-(a+1))+1 by omega,List.range'_succ]
def rE{a b:Nat}(c:b<=a):kM a b=[]:=by unfold kM;rw[show b-a=0 by omega];rfl
def M0(a:Nat):List.range a=kM 0 a:=by unfold kM;rw[List.range_eq_range'];rfl
def oJ{d i:Type}(b:Nat){f:d->List i}:∀{l:List d},(∀a∈l,(f a).length<=b)->(l.flatMap f).length<=l.length*b:=by
 intro l;induction l with
 |nil=>intro _;simp
 |cons a l g=>
  intro c;rw[bh,aT,aU,cD];have j:=c a Y;have k:=g λh e=>c h (by simp[e]);omega
def Fs(b a:Nat):(kM b a).length<=a:=by unfold kM;simp
def J6{n:Nat}(e:n<=16){ok:List Int->Bool}{go:List Int->Int->Bool}:∀(a:Nat) (b:List Int),(Ol n ok go a b).length<=17^a:=by
 intro a;induction a with
 |zero=>intro b;unfold Ol;split<;>simp
 |succ a g=>
  intro b;unfold Ol;rw[aT];have h:(if ok b=true then [b]else []).length<=1:=by split<;>simp
  have i:=oJ (17^a) (l:=kM ((b.getD 0 0).toNat+1) n) (f:=λ(c:Nat)=>if go b c=true then Ol n ok go a (b++[(c:Int)])else []) λm _=>by
   split;exact g _;simp
  have d:=Fs ((b.getD 0 0).toNat+1) n;have j:=bG (17^a) (aV d e);have k:0<17^a:=Nat.pow_pos J;rw[Nat.pow_succ];omega
def IT(b:iv->Bool)(a:iv):(mr b a).length<=1:=by unfold mr;split<;>simp
def RD(a:GX)(m:a.n<=16):a.pW.length<=100000+80000:=by
 unfold GX.pW;simp only[aT];have two:∀h:Nat->Nat->iv,((List.range a.n).flatMap λ(b:Nat)=>(List.range a.n).flatMap λ(c:Nat)=>mr a.vR (h b c)).length<=256:=λh=>by
  have j:=oJ 16 (l:=List.range a.n) (f:=λ(b:Nat)=>(List.range a.n).flatMap λ(c:Nat)=>mr a.vR (h b c)) λb _=>by
   have k:=oJ 1 (l:=List.range a.n) (f:=λ(c:Nat)=>mr a.vR (h b c)) λc _=>IT _ _;rw[dS]at k;omega
  rw[dS]at j;omega
 have j:=two gR;have k:=two gL;have p:((List.range a.n).flatMap λ(b:Nat)=>(a.Hf b).map gC).length<=16*4913:=by
  have i:=oJ 4913 (l:=List.range a.n) (f:=λ(b:Nat)=>(a.Hf b).map gC) λb _=>by
   rw[aL];exact J6 (show a.ev.length<=16 from m) 3 _
  rw[dS]at i;omega
 have q:((List.range a.n).flatMap λ(b:Nat)=>(kM (b+1) a.n).flatMap λ(c:Nat)=>if(a.e b).fa=(a.e c).fa/\pz (a.e b)/\pz (a.e c)=true then(List.range a.n).flatMap λ(d:Nat)=>(kM d a.n).flatMap λ(g:Nat)=>mr a.vR (gA b c d g)else []).length<=16*(16*256):=by
  have i:=oJ (16*256) (l:=List.range a.n) (f:=λ(b:Nat)=>(kM (b+1) a.n).flatMap λ(c:Nat)=>if(a.e b).fa=(a.e c).fa/\pz (a.e b)/\pz (a.e c)=true then(List.range a.n).flatMap λ(d:Nat)=>(kM d a.n).flatMap λ(g:Nat)=>mr a.vR (gA b c d g)else []) λb _=>by
   have r:=oJ 256 (l:=kM (b+1) a.n) (f:=λ(c:Nat)=>if(a.e b).fa=(a.e c).fa/\pz (a.e b)/\pz (a.e c)=true then(List.range a.n).flatMap λ(d:Nat)=>(kM d a.n).flatMap λ(g:Nat)=>mr a.vR (gA b c d g)else []) λc _=>by
    split;have o:=oJ 16 (l:=List.range a.n) (f:=λ(d:Nat)=>(kM d a.n).flatMap λ(g:Nat)=>mr a.vR (gA b c d g)) λd _=>by
     have s:=oJ 1 (l:=kM d a.n) (f:=λ(g:Nat)=>mr a.vR (gA b c d g)) λg _=>IT _ _;have:=Fs d a.n;omega
    rw[dS]at o;omega;simp
   have:=Fs (b+1) a.n;omega
  rw[dS]at i;omega
 omega
structure Fh(w:fh)(h:H)(v:T)(es:List T)(gs:List iv):Prop where
 g:Gr h v 6 es
 a:jw (FT h (λc=>1<=c/\c<h.size/\fD v≠some c) 4) es (gs.map iv.t)
 ok:jk 1 h
 b0:h.get 0=G (eg 15 0 [w.t])
 v0:fD v≠some 0
def Fh.step{p:fh}{n d:H}{o j:T}{g h:List T}{l m:List iv}(c:Fh p n o g l)(b:Xt n o 6 (g++h) j d)(q:jw (FT d (λf=>1<=f/\f<d.size/\fD j≠some f) 4) h (m.map iv.t)):Fh p d j (g++h) (l++m):=by have s:=c.ok.sz;have u:=b.2.2.2.sz;refine⟨b.1,?_,⟨b.2.2.2.hp,b.2.2.2.low,J⟩,(b.2.1 0 J c.v0).trans c.b0,λi=>(b.2.2.1 0 i).elim c.v0 J⟩;rw[List.map_append];exact(c.a.imp λ_ _ r=>r.mono λk e=>⟨⟨e.1,J,λi=>(b.2.2.1 k i).elim e.2.2 J⟩,b.2.1 k e.2.1 e.2.2⟩).append q
def afW{d:H}{b:Nat->Prop}{a:iv}(e:a.jA=[])(c:Nat):FT d b (c+2) (gT a) a.t:=by refine .inr (.inr ⟨_,_,rfl,.cons (jh ..) (.cons (jh ..) (.cons (jh ..) (.cons (jh ..) (.cons (jh ..) (.cons (kj _ _ _ _) .nil))))),?_⟩);unfold iv.t iv.cs;rw[e];rfl
theorem Fh.put{b:fh}{e f:H}{g h:T}{c:List T}{d:List iv}{a:iv}(j:Fh b e g c d)(i:a.jA=[])(x:Xt e g 6 (c++if b.gx.vR a=true then [gT a]else []) h f):∃G8,Fh b f h G8 (d++mr b.gx.vR a):=by refine⟨_,j.step x ?_⟩;unfold mr;split;exact .cons (afW i 2) .nil;exact .nil
def Fh.len{b:fh}{g:H}{l:T}{c:List T}{d f:List iv}(k:Fh b g l c d)(j:b.eZ.length<=16)(i:d++f=b.gx.pW):c.length<=1000000:=by have h:=k.a.length;have e:=RD b.gx j;rw[<-i]at e;simp at h e;omega
def An:iF:=⟨fh,λa=>[a.t],λa=>kO a,λa=>sl (a.gx.pW.map iv.t),λc d b=>by simp at b;rw[fh.inj b]⟩
structure Eb(x:iT):Prop where
 w:kO x.w
 s:x.M9=x.w.gx.st
def Eb.st{a:iT}(c:Eb a){e:Int}(d:jB e a.w.eZ.length):∃b,a.M9[e.toNat]? =G b/\a.w.gx.s e=b/\ou a.w.gY b/\(∀h∈b.fT,h.gh.length<=2000):=by have⟨f,i⟩:=c.w.ok.s d;have g:=c.w.ok.st (gG.1 d).2;refine⟨_,c.s▸g,f,f▸i,f▸(c.w.rd d).1⟩
def xl:iF:=⟨iT×Int×Int,λa=>[a.1.t,M a.2.1,M a.2.2],λa=>Eb a.1/\jB a.2.1 a.1.w.eZ.length/\jB a.2.2 a.1.w.eZ.length=true,λa=> .bool (a.1.w.gx.zU a.2.1 a.2.2),λa c b=>by simp at b;rw[iT.inj b.1,b.2.1,b.2.2]⟩
def Rs:xl.Ok prog cx 161:=by
 refine iD [(210,B8),(58,oc)] (jz 36051629065113551 [(1,[(8,14),(10,14),(11,14)])] func161) (λ_=>10) (by simp[xl]) ?_;rintro⟨f,j,i⟩ ⟨p,u,z⟩ ae g
 dsimp at p u z
 simp[xl]at g|-;have⟨v,N,k,y,X,Z⟩:=p.w.at u;have⟨c,I,K,L,W,n⟩:=p.w.at z;have⟨C,r,S,s,T⟩:=p.st u;have a:=GX.r8.eq_1 f.w.gx j i;rw[L,y,S,show f.w.gx.w=f.w.gY from rfl]at a;have t:f.w.gx.zU j i=(ut v.kind&&f.w.gx.r8 j i):=by rw[<-y];rfl
 generalize f.w.gx.zU j i=B at*
 generalize f.w.gx.r8 j i=U at*
 simp[f161,g,I,K,N,k,Yk,mU];refine fO (λl=>?_) (λl=>?_);have:B=false:=by
  rw[t];cases P:ut v.kind;rfl;rw[P]at l;have ht:c.fa=v.fa:=iC l;rw[au ht]at a;rw[a];rfl
 simp[this];simp[ci,bg]at l;obtain⟨O,Q⟩:=l;rw[Q,aZ]at t;subst t;rw[aq O]at a;simp;have o:∀b:fF,b∈C.fT->b.gh.length<=1000000:=λb hl=>iV (T b hl);cases A:decide (c.kind=6)with
 |true=>
  have d:c.kind=6:=iC A;have⟨b,l1,l2,l3⟩:=wI s (mW n J);have hl:=o b (aB l2);rw[au (.inl d),l3]at a;simp[g,l1,l2,r,k,ph,hl,a]
 |false=>
  cases e:decide (c.kind=10)with
  |true=>
   have d:c.kind=10:=iC e;have⟨b,l1,l2,l3⟩:=wI s (mW n J);have hl:=o b (aB l2);rw[au (.inr d),l3]at a;simp[g,e,l1,l2,r,k,ph,hl,a]
  |false=>
   have R:¬(c.kind=6\/c.kind=10):=by simp at A e;omega
   rw[aq R]at a;cases h:decide (c.kind=8)with
   |true=>
    have d:c.kind=8:=iC h;have⟨b,l1,l2,l3⟩:=wI s (mW n J);rw[au d,l3]at a;have hl:=o b (aB l2);simp[g,e,h,l1,l2,r,k,a]
   |false=>
    rw[aq (iC h)]at a;cases m:decide (c.kind=17)with
    |true=>
     have d:c.kind=17:=iC m;have⟨V,b,D,E,F,x,H⟩:=Fa s (qO n J);rw[au d,H]at a;have hl:=o b (aB x);simp[g,e,h,m,D,E,F,x,r,k,a]
    |false=>
     rw[aq (iC m)]at a;cases q:decide (c.kind=21)with
     |true=>
      rw[au (iC q)]at a;simp[e,h,m,q,a]
     |false=>
      rw[aq (iC q)]at a;simp[e,h,m,q,a]
def FL:iF:=⟨iT×Int×Int,λa=>[a.1.t,M a.2.1,M a.2.2],λa=>Eb a.1,λa=> .bool ((jB a.2.1 a.1.w.eZ.length&&jB a.2.2 a.1.w.eZ.length)&&a.1.w.gx.Wl a.2.1 a.2.2),λa c b=>by simp at b;rw[iT.inj b.1,b.2.1,b.2.2]⟩
def Xc:FL.Ok prog cx 101:=by
 refine iD [(102,tL)] (jz 1238093369775042453301102031 [(3,[(8,14),(10,14),(11,14)])] func101) (λ_=>100) (by simp[FL]) ?_;rintro⟨f,a,b⟩ o h n;replace o:Eb f:=o;simp[FL]at n|-;cases u:(jB a f.w.eZ.length&&jB b f.w.eZ.length)with
 |false=>simp[f101,n,vY,u,iW]
 |true=>
  have F:=u;rw[aC]at F;obtain⟨z,C⟩:=F;have⟨A,a1,a2,a3,a4,a5⟩:=o.w.at z;have⟨v,B,aA,L,N,aE⟩:=o.w.at C;have⟨S,H,an,ao,bA⟩:=o.st z;have⟨I,ar,av,ax⟩:=xV ao N;have d:=GX.Wl.eq_1 f.w.gx a b;rw[a3,L,an,ax]at d;generalize f.w.gx.Wl a b=K at*
  obtain⟨e,rfl,bn⟩:=kO.nat z;obtain⟨c,rfl,bs⟩:=kO.nat C;have bu:=o.w.ok.len;rw[bO]at a1 B H;by_cases br:c<e;rotate_left;rw[bj (show¬(c:Int)<e by omega)]at d;simp[f101,n,vY,u,iW,d,show e<=c by omega];have U:=Km f.w.gx (lo:=(c:Int)+1) (hi:=e) (a:=c+1) (b:=e) (λm=> !decide (m.fa=v.fa)) J rfl;rw[U,show f.w.gx.ev=f.w.eZ from rfl,bK (show(c:Int)<e by omega)]at d;have T:binop .add (M (c:Int)) (M 1)=G (M ((c:Int)+1)):=jr J J;have ap:mQ ((c:Int)+1)=G (c+1):=by have:=fZ (show(0:Int)<=((c+1:Nat):Int)by omega);simpa using this
  simp[f101,n,vY,u,iW,show¬e<=c by omega,a1,B,mU];refine fO (λr=>?_) (λr=>?_);have:K=false:=by
   rw[cK];intro g;rw[d]at g;simp only[aC,cm,aP,cO,bg]at g r;obtain⟨⟨⟨⟨⟨⟨⟨_,a7⟩,O⟩,P⟩,Q⟩,a8⟩,aN⟩,aX⟩:=g;simp[O,P,Q]at r;omega
  simp[this];simp only[ci,dN,cZ,bg,aP]at r;obtain⟨⟨⟨X,Z⟩,ae⟩,al⟩:=r;rw[bK Z,bK ae,bj al,show(decide (A.kind=18)||decide (A.kind=19))=true by simpa using X]at d;simp[-List.length_take,-List.length_drop,n,T,ap,show c+1<=e by omega,show e<=f.w.eZ.length by omega];have bi:((f.w.eZ.drop (c+1)).take (e-(c+1))).length<=16:=dY;generalize(f.w.eZ.drop (c+1)).take (e-(c+1))=l at*
  refine io l.length J (λs h g=>jk 4 g/\g.get 0=G (eg 16 0 [f.t])/\g.get 2=G (eg 7 1 [A.t])/\g.get 3=G (eg 7 1 [v.t])/\((l.drop s).all λm=> !decide (m.fa=v.fa))=(l.all λm=> !decide (m.fa=v.fa))/\iS h 1 e/\jg h 3 0/\jg h 7 2/\jg h 8 3/\ka h 67 (sl (l.map gd.t))/\iS h 68 l.length/\iS h 69 s) ?_ ?_ J ?_;rintro s h g D R ⟨i,x,y,p,j,q⟩;have V:=i.ne (b:=0) J;have W:=i.ne (b:=2) J;have E:=i.ne (b:=3) J;rw[aJ D,cA]at j;simp[p,q,E,i.low,D];generalize l[s]=m at*
  refine fO (λk=>?_) (λk=>?_);rw[k]at j;rw[<-j]at d;simp at d;simp[d,i.hp];rw[k]at j;simp[q,R];exact⟨i.cons _,by simp[x,V],by simp[y,W],by simp[p,E],iC j⟩;rintro h g ⟨i,x,y,p,j,q⟩;rw[cr]at j;rw[<-j]at d;simp at d;simp[x,p,q,H,ar,av];refine fO (λk=>?_) (λk=>?_);rw[show decide (I.jq=3)=false by simpa using k]at d;simp at d;simp[d,i.hp];rw[show decide (I.jq=3)=true by simpa using k]at d;simp at d;simp[y,p,q,i.hp,d];simp[n]
def Co:iF:=⟨iT×Int×Int,λa=>[a.1.t,M a.2.1,M a.2.2],λa=>Eb a.1/\jB a.2.1 a.1.w.eZ.length/\jB a.2.2 a.1.w.eZ.length=true,λa=> .bool (a.1.w.gx.blo a.2.1 a.2.2),λa c b=>by simp at b;rw[iT.inj b.1,b.2.1,b.2.2]⟩
def Up:Co.Ok prog cx 96:=by
 refine iD [] (jz 18463641368405213903 [] func96) (λ_=>100) (by simp[Co]) ?_;rintro⟨g,a,b⟩ ⟨l,p,u⟩ h o
 dsimp at l p u
 simp[Co]at o|-;have⟨i,a1,a2,a3,a4,a5⟩:=l.w.at p;have⟨S,x,U,C,V,W⟩:=l.w.at u;have⟨T,A,K,L,ao⟩:=l.st p;have⟨O,P,Q,R⟩:=xV L a4;have d:=GX.blo.eq_1 g.w.gx a b;rw[a3,C,K,R]at d;generalize g.w.gx.blo a b=B at*
 obtain⟨c,rfl,Z⟩:=kO.nat p;obtain⟨e,rfl,al⟩:=kO.nat u;have an:=l.w.ok.len;rw[bO]at a1 x A;have F:=Km g.w.gx (lo:=(c:Int)+1) (hi:=e) (a:=c+1) (b:=e) (GX.CO i.fa) J rfl;rw[F,show g.w.gx.ev=g.w.eZ from rfl]at d;have E:binop .add (M (c:Int)) (M 1)=G (M ((c:Int)+1)):=jr J J;have N:mQ ((c:Int)+1)=G (c+1):=by have:=fZ (show(0:Int)<=((c+1:Nat):Int)by omega);simpa using this
 by_cases ae:c<e;rotate_left;rw[bj (show¬(c:Int)<e by omega)]at d;simp[f96,o,d,show e<=c by omega,a1];rw[bK (show(c:Int)<e by omega),aZ]at d;simp[f96,o,show¬e<=c by omega,a1,x,A,P,Q];refine fO (λk=>?_) (λk=>?_);have:B=false:=by
  rw[d];cases H:decide (S.fa=i.fa)<;>cases I:O.atomic<;>simp[H,I]at k|-
 simp[this];simp[ci]at k;rw[k.1,k.2]at d;simp[-List.length_take,-List.length_drop,o,E,N,show c+1<=e by omega,show e<=g.w.eZ.length by omega];have X:((g.w.eZ.drop (c+1)).take (e-(c+1))).length<=16:=dY;generalize(g.w.eZ.drop (c+1)).take (e-(c+1))=j at*
 refine io j.length J (λq h s=>jk 1 s/\(j.drop q).all (GX.CO i.fa)=j.all (GX.CO i.fa)/\iS h 7 i.fa/\ka h 50 (sl (j.map gd.t))/\iS h 51 j.length/\iS h 52 q) ?_ ?_ J ?_;rintro q h s z D ⟨m,f,n⟩;rw[aJ z,cA]at f;simp[n,m.low,z];generalize j[q]=r at*
 have y:GX.CO i.fa r= !(decide (r.fa=i.fa)&&decide (r.kind=15)):=rfl;refine fO (λv=>?_) (λv=>?_);rw[y,v]at f;rw[<-f]at d;simp at d;simp[d,m.hp];rw[y,v]at f;simp[n,D];exact⟨m.cons _,iC f⟩;rintro h s ⟨m,f,n⟩;rw[cr]at f;rw[<-f]at d;simp at d;simp[n,m.hp,d];simp
def zf:iF:=⟨iT×iv,λe=>[e.1.t,e.2.t],λe=>Eb e.1/\jB e.2.a e.1.w.eZ.length/\jB e.2.b e.1.w.eZ.length/\jB e.2.c e.1.w.eZ.length/\jB e.2.d e.1.w.eZ.length=true,λe=> .bool (e.1.w.gx.brk e.2.a e.2.b e.2.c e.2.d),λe g f=>by simp at f;rw[iT.inj f.1,iv.inj f.2]⟩
def Rr:zf.Ok prog cx 103:=by
 refine iD [(162,wA)] (jz 63 [] func103) (λ_=>100) (by simp[zf]) ?_;rintro⟨a,⟨D,b,c,d,f,E⟩⟩ ⟨g,h,l,i,j⟩ I s
 dsimp at g h l i j
 simp[zf]at s|-;have⟨K,a1,a2,a3,a4,a5⟩:=g.w.at h;have⟨F,u,v,m,x,y⟩:=g.w.at i;have⟨H,z,A,n,B,C⟩:=g.w.at j;have r:=GX.brk.eq_1 a.w.gx b c d f;have o:=λ{k:iq} (ht:k.p 162=G wA)=>Fe ht a b d h i;have q:=λ{k:iq} (ht:k.p 162=G wA)=>Fe ht a f c j l;rw[show mL a.w.eZ b=a.w.gx.e b from rfl,show mL a.w.eZ d=a.w.gx.e d from rfl]at o;rw[show mL a.w.eZ f=a.w.gx.e f from rfl,show mL a.w.eZ c=a.w.gx.e c from rfl]at q;generalize a.w.gx.brk b c d f=t at*
 generalize mE (a.w.gx.e b) (a.w.gx.e d)=p1 at*
 generalize mE (a.w.gx.e f) (a.w.gx.e c)=p2 at*
 rw[a3,m,n]at r;simp[*,f103]
def Cn:iF:=⟨iT×List Int,λa=>[a.1.t,sl (a.2.map (T.int .i64))],λa=>Eb a.1/\a.2.length<=1000000,λa=> .bool (a.1.w.gx.MU a.1.w.gx.zU a.2),λa c b=>by simp at b;rw[iT.inj b.1,jD Y b.2]⟩
def VC{d:iq}(ht:d.p 161=G xl)(a:iT)(c b:Int)(g:Eb a)(e:jB c a.w.eZ.length)(f:jB b a.w.eZ.length):rl prog cx d 161 [a.t,M c,M b]=G (.bool (a.w.gx.zU c b)):=iL ht Rs (a,c,b) ⟨g,e,f⟩
def Uf:Cn.Ok prog cx 100:=by
 refine iD [(161,xl),(102,tL)] (jz 2361217299907134620023 [] func100) (λ_=>100) (by simp[Cn]) ?_;rintro⟨f,a⟩ ⟨s,Z⟩ g z;simp only at s Z;simp[Cn]at z|-;have aX:=s.w.ok.len;have⟨u,m⟩:∃u,f.w.gx.MU f.w.gx.zU a=u:=⟨_,rfl⟩;rw[m];simp[f100,z,Kg,show a.length<=1099511627776 by omega];refine fO (λr=>?_) (λr=>?_);have:u=false:=by
  rw[<-m];simp only[cm,aP,cO]at r;rcases r with(h|h)|h
  exact rf J;exact rf J;unfold pA at h;rw[List.all_eq_false]at h;obtain⟨d,o,al⟩:=h;obtain⟨b,P,rfl⟩:=List.mem_iff_getElem.1 o;exact rf (.inr (.inr (.inl ⟨b,P,by simp[List.getD,P];exact(by simpa using al:jB a[b] f.w.eZ.length=false)⟩)))
 simp[this];simp only[ci,cZ,bg]at r;obtain⟨⟨a7,a8⟩,R⟩:=r;have W:2<=a.length:=J;have X:a.length<=4:=J;have q:∀c (i:c<a.length),jB a[c] f.w.eZ.length=true:=λc i=>by
  unfold pA at R;exact List.all_eq_true.1 R _ (aG i)
 have ae:∀c<a.length,jB (a.getD c 0) f.w.gx.ev.length=true:=λc i=>by simp[List.getD,i];exact q c i
 simp[z];generalize C:H.cons _ _=v;have av:v.get 0=G (eg 16 0 [f.t]):=by rw[<-C];simp
 have L:Hp v:=by rw[<-C];simp
 clear C;refine io a.length J (λb g h=>v=h/\(∀c<b,CQ f.w.gx f.w.gx.zU a c=true)/\ka g 1 (sl (a.map (T.int .i64)))/\jg g 2 0/\ka g 23 (sl (a.map (T.int .i64)))/\iS g 24 a.length/\iS g 25 b) ?_ ?_ J ?_;rintro b g _ A aE ⟨rfl,D,l⟩;have F:∀c (i:c<a.length),a.getD c 0=a[c]:=λc i=>by simp[List.getD,i]
 have N:0<a.length:=J;have an:=Ph (b+1) a.length J J;have K:(b+1)% a.length<a.length:=Nat.mod_lt _ N;have n:CQ f.w.gx f.w.gx.zU a b=(!decide (a[b]<a[0])&&f.w.gx.zU (a[(b+1)% a.length]'K) a[b]&&(List.range b).all λd=> !decide ((f.w.gx.e a[b]).fa=(f.w.gx.e (a.getD d 0)).fa)):=by unfold CQ;rw[F _ A,F _ N,F _ K]
 generalize(b+1)% a.length=Q at*
 have ax:=λ{ap:iq} (ht:ap.p 161=G xl)=>VC ht f a[Q] a[b] s (q Q K) (q b A);have⟨x,a1,a2,a3,a4,a5⟩:=s.w.at (q b A);rw[a3]at n;simp at an;have O:CQ f.w.gx f.w.gx.zU a b=false->u=false:=λh=>m▸rf (.inr (.inr (.inr ⟨b,A,h⟩)));simp[*];refine fO (λj=>?_) (λj=>?_);have:CQ f.w.gx f.w.gx.zU a b=false:=by
  rw[n,cK];intro h;simp only[aC,cO,bg]at h;simp[h.1.2]at j;omega
 simp[O this,L];simp only[ci,cZ,bg]at j;rw[j.2,bj j.1]at n;simp[-List.length_take,l,show b<=a.length by omega];have⟨k,B⟩:∃k,k=a.take b:=⟨_,rfl⟩;rw[<-B];have V:k.length=b:=by rw[B];simp;omega
 have ao:∀d (o:d<k.length) (hl:d<a.length),k[d]=a[d]:=λd o hl=>by subst B;exact List.getElem_take
 refine io b J (λd g h=>v=h/\(∀c<d,decide (x.fa=(f.w.gx.e (a.getD c 0)).fa)=false)/\ka g 1 (sl (a.map (T.int .i64)))/\jg g 2 0/\ka g 6 (M a[b])/\ka g 23 (sl (a.map (T.int .i64)))/\iS g 24 a.length/\iS g 25 b/\ka g 51 (sl (k.map (T.int .i64)))/\iS g 52 b/\iS g 53 d) ?_ ?_ J ?_;rintro d g _ U aN ⟨rfl,E,l⟩;have I:d<a.length:=J;have⟨y,bi,bn,ar,br,bs⟩:=s.w.at (q d I);have S:d<k.length:=J;have aA:=ao d S I;simp[*];refine fO (λj=>?_) (λj=>?_);have:CQ f.w.gx f.w.gx.zU a b=false:=by
  rw[n];simp;exact⟨d,U,by simpa[I,ar]using j⟩
 simp[O this,L];simp[*];intro c i;rcases aR c d with h|h
 simpa using E c h;rw[show c=d by omega];simp[*];simpa using j;rintro g _ ⟨rfl,E,l⟩;simp[*];intro c i;rcases aR c b with h|h;exact D c h;rw[show c=b by omega,n];simp;intro d o;simpa using E d o;simp[l,V];rintro g _ ⟨rfl,D,l⟩;rw[Mh W X ae D]at m;simp[l,m.symm,L];simp[z]
theorem kO.cells{a:fh}(g:kO a):KA a:=λd h e=>by
 have⟨i,f⟩:=cY h;have hl:i<a.eZ.length:=(List.getElem?_eq_some_iff.1 f).1;have⟨k,b,l,m,n,c⟩:=g.at (i:=i) (gG.2 ⟨J,iC hl⟩);rw[bO,f]at b;cases b;have j:d.kind=3\/d.kind=4:=by unfold pz at e;simpa using e
 unfold ko at c;rw[aq J,au j]at c;exact c
def Mt{f:iq}(ht:f.p 102=G tL)(a:iT)(b c d e:Int):rl prog cx f 102 [a.t,sl [M b,M c,M d,M e]]=G (.bool (jB b a.w.eZ.length&&jB c a.w.eZ.length&&jB d a.w.eZ.length&&jB e a.w.eZ.length)):=by have:=Kg ht a [b,c,d,e] Y;simpa[pA,Bool.and_assoc]using this
def S3{a:iT}(d:Eb a)(b c:Int):Ek a.w b c=((jB b a.w.eZ.length&&jB c a.w.eZ.length)&&a.w.gx.WN b c):=by
 unfold Ek GX.WN GX.e fh.gx;cases jB b a.w.eZ.length<;>cases jB c a.w.eZ.length<;>simp
 ac_rfl
def B9:iF:=⟨iT×iv,λa=>[a.1.t,a.2.t],λa=>Eb a.1/\a.2.jA.length<=1000000,λa=> .bool (a.1.w.gx.vG a.2),λa c b=>by simp at b;rw[iT.inj b.1,iv.inj b.2]⟩
def TD:B9.Ok prog cx 43:=by
 refine iD [(99,Dp),(100,Cn),(101,FL),(102,tL),(96,Co),(103,zf)] (jz 2417851783344448572752095 [] func43) (λ_=>100) (by simp[B9]) ?_;rintro⟨f,e⟩ ⟨i,l⟩ E x;simp only at i l;simp[B9]at x|-;have h:=GX.vG.eq_1 f.w.gx e;simp only[show∀m,f.w.gx.BV m=jB m f.w.eZ.length from λ_=>rfl]at h;generalize f.w.gx.vG e=B at*
 cases q:decide (e.kind=1)with
 |true=>
  rw[au (iC q)]at h;have k:∀{g:iq},g.p 99=G Dp->rl prog cx g 99 [f.t,M e.a,M e.b]=G (.bool ((jB e.a f.w.eZ.length&&jB e.b f.w.eZ.length)&&f.w.gx.WN e.a e.b)):=λht=>by rw[<-S3 i];exact acb ht f e.a e.b i.w.cells
  simp[*,f43]
  try ac_rfl
 |false=>
  rw[aq (iC q)]at h;cases r:decide (e.kind=2)with
  |true=>
   rw[au (iC r)]at h;have k:∀{g:iq},g.p 100=G Cn->rl prog cx g 100 [f.t,sl (e.jA.map (T.int .i64))]=G (.bool (f.w.gx.MU f.w.gx.zU e.jA)):=λht=>iL ht Uf (f,e.jA) ⟨i,l⟩;simp[*,f43,GX.dead]
  |false=>
   rw[aq (iC r)]at h;cases s:decide (e.kind=3)with
   |true=>
    rw[au (iC s)]at h;have k:∀{g:iq},g.p 101=G FL->rl prog cx g 101 [f.t,M e.a,M e.b]=G (.bool ((jB e.a f.w.eZ.length&&jB e.b f.w.eZ.length)&&f.w.gx.Wl e.a e.b)):=λht=>iL ht Xc (f,e.a,e.b) i;simp[*,f43]
    try ac_rfl
   |false=>
    rw[aq (iC s)]at h;cases u:decide (e.kind=4)with
    |false=>
     rw[aq (iC u)]at h;simp[*,f43]
    |true=>
     rw[au (iC u)]at h;cases j:(jB e.a f.w.eZ.length&&jB e.b f.w.eZ.length&&jB e.c f.w.eZ.length&&jB e.d f.w.eZ.length)with
     |false=>
      rw[j]at h;cases A:decide (e.jA=[])<;>simp[*,f43,Mt,iW]
     |true=>
      rw[j]at h;have v:=j;simp only[aC]at v;obtain⟨⟨⟨n,o⟩,y⟩,z⟩:=v;have C:∀{g:iq},g.p 96=G Co->rl prog cx g 96 [f.t,M e.a,M e.b]=G (.bool (f.w.gx.blo e.a e.b)):=λht=>iL ht Up (f,e.a,e.b) ⟨i,n,o⟩;have D:∀{g:iq},g.p 103=G zf->rl prog cx g 103 [f.t,e.t]=G (.bool (f.w.gx.brk e.a e.b e.c e.d)):=λht=>iL ht Rr (f,e) ⟨i,n,o,y,z⟩;cases A:decide (e.jA=[])<;>simp[*,f43,Mt,iW]
def Yl{c:iq}(ht:c.p 43=G B9)(b:iT)(a:iv)(d:Eb b)(hl:a.jA.length<=1000000):rl prog cx c 43 [b.t,a.t]=G (.bool (b.w.gx.vG a)):=iL ht TD (b,a) ⟨d,hl⟩
def cv8(b:H)(a:Int)(c:0<=a)(d:a<256):U7 cx b 280 5 ty5 (.int .u64 a)=be (.int .u8 a) b:=by refine E9 A2 rfl ?_;rw[kZ];unfold IntKind.wrap;simp[IntKind.bits,IntKind.signed];omega
def Ps:p8 prog cx 222 (λa:Nat=>[.int .u64 a]) (λa=>a<=11) (λ_=>IU):=by refine jX [] (jz 16661 [] func222) (λ_=>10) (λe f c=>by simp at c;omega) ?_;rintro(a:Nat) g h b;simp at b;have d:a=0\/a=1\/a=2\/a=3\/a=4\/a=5\/a=6\/a=7\/a=8\/a=9\/a=10\/a=11:=J;rcases d with rfl|rfl|rfl|rfl|rfl|rfl|rfl|rfl|rfl|rfl|rfl|rfl<;>simp at b<;>simp[f222,b,cv8,tz]
def VX{c:jS}{g h:Nat}{d:DL}(i b:Code)(e:Env)(f:H)(a:jH):W (kN cx c h g d (.cond (.const (Value.bool false)) i b) e f) a=W (kN cx c h g d b e f) a:=rfl
def ZF:p8 prog cx 168 (λa:Nat=>[.int .u64 a]) (λa=>a<=11) (λ_=>IU):=by refine jX [(222,Ps.kx)] (jz 5 [] func168) (λ_=>10) (λf g d=>by simp at d;omega) ?_;rintro(a:Nat) e i b;simp at b;obtain⟨_,⟨h,rfl⟩,c⟩:=Ps.use a e;simp[f168,b,c,VX]
def Zq(a:V5)(c:List T)(b:H):Prop:=c=[a.v]/\Gr b a.v 1 (iE (a.A++[a.t]))/\jk 0 b/\MP a.A/\a.t∉a.A/\a.A.length<=10
def cvu(b:H)(a:Int)(c:0<=a)(d:a<256):U7 cx b 3 278 Sy (M a)=be (.int .u64 a) b:=by refine E9 X0 rfl ?_;rw[kZ];unfold IntKind.wrap;simp[IntKind.bits,IntKind.signed];omega
def aaS:(kW V5 Zq Jt).Ok prog cx 109:=by
 refine wP (tb:=⟨pt [(168,ZF.kx)],ht [(167,kW (V5×Int) Zs Tj)]⟩) ml kl (jz 5 [] func109) (λ_ _=>100) (λs q c k=>by obtain⟨rfl,_⟩:=k;simp[f109]) ?_;rintro⟨a,e,f⟩ _ c ⟨rfl,b,p,d,ht,hl⟩ u j
 dsimp at b d ht hl
 simp at j;have o:=λi:H=>b.len (cx:=cx) i uu _ rfl;simp at o;have l:Gr (TI.hr c) f 1 (iE (a++[e])):=b.mono λg _=>iZ c g;obtain⟨_,⟨n,rfl⟩,h⟩:=ZF.use (a.length+1) J;simp at h;simp[*,f109,cvu,show(a.length:Int)+1<256 by omega,show(0:Int)<=(a.length:Int)+1 by omega];refine jy aeV Y (⟨a,e,f⟩,n) ⟨Y,l,p.hr,d,ht,hl⟩ ?_;rintro t r m;simp;exact InP.out m
structure ICo where
 (l:List Int) (v:T)
def Zz(a:ICo)(c:List T)(b:H):Prop:=c=[a.v]/\Gr b a.v 1 (iE a.l)/\jk 0 b/\MP a.l/\a.l.length<=1000
def Ts(c:ICo)(e:List T)(a:H)(d:T)(b:H):Prop:=d=c.v/\Nb a b
def Rq:(kW ICo Zz Ts).Ok prog cx 110:=by
 refine wP (tb:=⟨pt [],ht []⟩) ml kl (jz 17596514574653 [] func110) (λ_ _=>1005) (λi t a q=>by obtain⟨rfl,_⟩:=q;simp[f110]) ?_;rintro⟨b,c⟩ _ a ⟨rfl,e,s,g,hl⟩ d f
 dsimp at e g hl
 simp at f;have r:=λp:H=>e.len (cx:=cx) p uu _ rfl;rw[aL]at r;have j:Gr (TI.hr a) c 1 (iE b):=e.mono λn _=>iZ a n;have l:Nb a (mV a (TI.hr a)):=(Nb.refl s.hr).out;simp[*,f110];refine fO (λm=>?_) (λm=>?_);simp[f];exact⟨rfl,l⟩;have D:2<=b.length:=by simp at m;omega
 simp;refine u5 b.length (λk d o=>TI.hr a=o/\1<=k/\ka d 0 c/\iS d 3 k) ?_ J (k:=1) J (by simp[f]);rintro k d _ C ⟨rfl,B,z⟩;by_cases h:k<b.length;have A:binop .add (M (k:Int)) (M 1)=G (M ((k:Int)+1)):=jr J J;have F:binop .sub (M (k:Int)) (M 1)=G (M ((k-1:Nat):Int)):=by rw[my J J];congr 2;omega
 have⟨p1,u,v⟩:=(show rx (TI.hr a) 1 c _ from .inr j).idx (te:=EW) rfl rfl (i:=k) (x:= M b[k]) (by simp[h]) rfl;have⟨p2,w,y⟩:=(show rx (TI.hr a) 1 c _ from .inr j).idx (te:=EW) rfl rfl (i:=k-1) (x:= M b[k-1]) (by simp[show k-1<b.length by omega]) rfl;have E:¬b[k]=b[k-1]:=by
  have:=List.pairwise_iff_getElem.1 g (k-1) k J h J;omega
 simp[*];exact⟨k+1,J,J,J,Y⟩;simp[*];exact⟨rfl,l⟩
structure OS where
 (P Q:List Int) (t:Int) (v:T) (b:Nat) (bx:jO)
def fnT(a:OS):T:= .func 112 [ez a.b]
def acl(c:H)(a:OS):Prop:=c.get a.b=G (eg 1 0 [M a.t])
def Tc(a:OS×Int)(d:List T)(c:H):Prop:=d=[M a.2,ez a.1.b]/\acl c a.1/\jk 0 c
def Np(a:OS×Int)(e:List T)(b:H)(d:T)(c:H):Prop:=d= .bool (decide (a.2=a.1.t))/\Nb b c
def Ub:(kW (OS×Int) Tc Np).Ok prog cx 112:=by refine jP [] [] (jz 11 [] func112) 10 ?_;rintro⟨⟨g,h,f,k,a,i⟩,m⟩ _ b ⟨rfl,d,e⟩ l c;simp at c;have j:(TI.hr b).get a=G (eg 1 0 [M f]):=(iZ b a).trans d;simp[*,f112];exact⟨rfl,(Nb.refl e.hr).out⟩
def Zw(a:OS)(c:List T)(b:H):Prop:=c=[a.v,fnT a]/\acl b a/\jk 0 b/\Gr b a.v 1 (iE (a.P++a.t::a.Q))/\a.t∉a.P/\a.P.length+a.Q.length<=1000
def To(c:OS)(e:List T)(a:H)(d:T)(b:H):Prop:=d= M c.P.length/\Nb a b
def Lo:(kW OS Zw To).Ok prog cx 115:=by
 refine wP (tb:=⟨pt [],ht [(112,kW (OS×Int) Tc Np)]⟩) ml kl (jz 66483 [] func115) (λ_ _=>2000) (λi I n B=>by obtain⟨rfl,_⟩:=B;simp[f115]) ?_;rintro⟨a,d,g,h,m,v⟩ _ n ⟨rfl,r,E,j,ht,hl⟩ c q
 dsimp at j ht hl
 simp[fnT]at q;obtain⟨y,p⟩:=q;have D:=λp:H=>j.len (cx:=cx) p uu _ rfl;simp at D;have u:∀b,fD h=G b->b<n.size:=λb o=>by have⟨_,_,_,_,C,_⟩:=j.box o;exact H.fV C
 simp[*,f115];refine u5 a.length (λk c e=>Nb (TI.hr n) e/\ka c 0 h/\ka c 1 (.func 112 [ez m])/\iS c 7 ((a.length:Int)+((d.length:Int)+1))/\iS c 8 k) ?_ J (k:=0) J ⟨Nb.refl E.hr,by simp[*]⟩;rintro k c e P ⟨f,y⟩;have F:jk 0 e:=⟨f.ok.hp,f.ok.low,az _⟩;have t:=f.hr;have w:Gr e h 1 (iE (a++g::d)):=j.mono λb o=>t.get b (u b o);have O:binop .add (M (k:Int)) (M 1)=G (M ((k:Int)+1)):=jr J J;have⟨x,l⟩:∃x,(a++g::d)[k]? =G x:=⟨_,aF dY⟩;have⟨p1,K,L⟩:=(show rx e 1 h _ from .inr w).idx (te:=EW) rfl rfl (i:=k) (x:= M x) (by rw[bw,l];rfl) rfl;simp[*,show(k:Int)<(a.length:Int)+((d.length:Int)+1)by omega];refine jy Ub Y (⟨a,d,g,h,m,v⟩,x) ⟨rfl,(t.get m (H.fV r)).trans r,F⟩ ?_;rintro _ N ⟨rfl,s⟩;simp;by_cases A:k<a.length;have Q:¬x=g:=by
  rw[cN A]at l;rintro rfl;exact ht (aB l)
 simp[*];exact⟨k+1,J,J,f.trans s,Y⟩;have z:k=a.length:=J;subst z;have R:x=g:=iC l.symm;simp[*];exact⟨rfl,(f.trans s).out⟩
def aaw(f:H)(g j:Ty)(h:ab)(b d e a c:Nat)(k:jO)(i:g.u= .slice h)(ht:cx.ty h=G j)(m:f.get b=G k)(o:k.sz=j.size)(n:c<=a):Im cx f g (.arr b d e a false) (some c) none none=be (.arr b d (e+c) (a-c) false) f:=by
 unfold Im;have l:jL cx f g.u (.arr b d e a false):=by
  rw[i];unfold jL;simp[ht,m,o]
 rw[l,iP,show AI none none=true from rfl,iP,show asSlice g.u (.arr b d e a false)= .arr b d e a false by rw[i];rfl];show val f (iX (Nat.ble c a) (iX (Nat.ble a a) (Z (jd (Nat.add e c)) λq=>Z (jd (Nat.sub a c)) λp=>some (T.arr b d q p false))))=_;simp[n]
def Uq{d:Nat}{b:Env}{c:H}(a:List ah)(e:af ab):j9 (.call ⟨.builtin .clear,a.toArray,e⟩) cx d b c=Z (iN (iG cx d b) a) λf=>nG .clear cx c e.toList f:=by show(Z (TI.ud cx d b a) λa=>nG .clear cx c e.toList a)=_;rw[K9]
def ab6{b:H}{c a g d:Nat}{f:Bool}{e:List T}(l:Hp b)(h:b.get c=G ⟨1,a,g,f,false,e⟩)(k:d<e.length):nG .clear cx b [37] [.arr c a d 1 false]=be .undef (fQ b c ⟨1,a,g+1,f,false,e.set d (M 0)⟩):=by show Hw cx b 37 (.arr c a d 1 false)=_;unfold Hw tu;rw[kS,fw];simp only[show uu.u= .slice 3 from rfl,nL,fw];rw[h,fw];simp only[K2 l (H.fV h)];show iX (Nat.beq a a) (iX (Nat.beq 1 1) (Z (mR e d [M 0]) λi=>Z (jd g.succ) λm=>Z (some (fQ b c ⟨1,a,m,f,false,i⟩)) λj=>some (nO.val T.undef j)))=_;rw[wZ,au dY,Nat.beq_refl,iP,show Nat.beq 1 1=true from rfl,iP,fw,jx,fw,fw,List.set_eq_take_append_cons_drop,au k];simp
def Zy(a:OS)(d:List T)(c:H):Prop:=d=[a.v,fnT a]/\acl c a/\jk 0 c/\Gr c a.v 1 (iE (a.P++a.t::a.Q))/\a.t∉a.P/\a.t∉a.Q/\a.P.length+a.Q.length<=1000/\fD a.v≠some a.b
def Tr(b:OS)(f:List T)(c:H)(e:T)(d:H):Prop:=Gr d e 1 (iE (b.P++b.Q))/\fD e=fD b.v/\jk c.size d/\∀a,a<c.size->fD b.v≠some a->d.get a=c.get a
def U1{P b:List Int}{t:Int}{a:Nat}(d:a<b.length):(iE (P++b.take a++(t::b).drop a)).set (P.length+a) (M b[a])=iE (P++b.take (a+1)++(t::b).drop (a+1)):=by rw[<-aY,List.set_append_right _ _ dY];have c:(t::b).drop a=(t::b)[a]' dY::(t::b).drop (a+1):=aJ dY;rw[c,show P.length+a-(P++b.take a).length=0 by simp;omega,cS,aM d];show iE _=iE _;congr 1;simp only[aO,aW,bJ]
def Jy:(kW OS Zy Tr).Ok prog cx 111:=by
 refine wP (tb:=⟨pt [],ht [(112,kW (OS×Int) Tc Np),(115,kW OS Zw To)]⟩) ml kl (jz 537399539 [] func111) (λ_ _=>2000) (λi a h bZ=>by obtain⟨rfl,_⟩:=bZ;simp[f111]) ?_;rintro⟨P,c,t,F,A,ap⟩ _ h ⟨rfl,W,cL,C,aX,a7,hl,an⟩ z aA
 dsimp at C aX a7 hl an
 simp[fnT]at aA;obtain⟨s,p⟩:=aA;have N:=λp:H=>C.len (cx:=cx) p uu _ rfl;simp at N;have bn:∀b,fD F=G b->b<h.size:=λb g=>by have⟨_,_,_,_,cb,_⟩:=C.box g;exact H.fV cb
 simp[f111,s,p];refine jy Lo Y ⟨P,c,t,F,A,ap⟩ ⟨rfl,(iZ h A).trans W,cL.hr,C.mono λb _=>iZ h b,aX,hl⟩ ?_;rintro _ dk ⟨rfl,cp⟩;have bu:binop .add (M (P.length:Int)) (M 1)=G (M ((P.length:Int)+1)):=jr J J;simp[show¬((P.length:Int)=-1)by omega,bu];have ao:=cp.hr;refine u5 c.length (λd z h'=>jk h.size h'/\Gr h' F 1 (iE (P++c.take d++(t::c).drop d))/\(∀b,b<h.size->fD F≠some b->h'.get b=h.get b)/\ka z 0 F/\ka z 1 (.func 112 [ez A])/\iS z 5 ((P.length+d:Nat):Int)/\iS z 6 ((P.length+d+1:Nat):Int)) ?_ J (k:=0) J ⟨ao.ok,iC (C.mono λb g=>ao.get b (bn b g)),λb g _=>ao.get b g,by simp[s,p]⟩;rintro d z h' dm ⟨w,D,T,s,p,U,I⟩;have a8:jk 0 h':=⟨w.hp,w.low,az _⟩;have⟨i,aE⟩:∃i,i=P.length+d:=⟨_,rfl⟩;have⟨j,u⟩:∃j,j=P.length+(c.length+1):=⟨_,rfl⟩;have bW:(P.length:Int)+((c.length:Int)+1)=j:=J;rw[<-aE]at U I;rw[bW]at N;have V:(iE (P++c.take d++(t::c).drop d)).length=j:=dY;have bA:binop .add (M (i:Int)) (M 1)=G (M ((i:Int)+1)):=jr J J;have bN:binop .add (M ((i:Int)+1)) (M 1)=G (M ((i:Int)+1+1)):=jr J J;by_cases al:d<c.length;have B:(P++c.take d++(t::c).drop d)[i+1]? =G c[d]:=by
  rw[cX dY,cu];rw[show d+(i+1-(P++c.take d).length)=d+1 by simp;omega];simp[al]
 have⟨f,br⟩:∃f,(P++c.take d++(t::c).drop d)[i]? =G f:=⟨_,aF dY⟩;have⟨e,m,y,q,o,n,l,L,K⟩:=D.at (x:= M c[d]) (i:=i+1) (by rw[bw,B];rfl);have⟨c6,c9,dn,de,ea,X,Z,b9,aN⟩:=D.at (x:= M f) (i:=i) (by rw[bw,br];rfl);rw[n]at X;simp at X;obtain⟨rfl,rfl⟩:=X;rw[l]at Z;simp at Z;obtain⟨rfl,rfl,rfl⟩:=Z;rw[V]at n K aN;have ar:=U1 (P:=P) (t:=t) al;rw[<-aE]at ar;generalize b7:c[d]=Q at*
 have b8:¬Q=t:=λk=>a7 (by rw[<-k,<-b7];exact aG al);subst n;simp at an;have c4:mQ ((i:Int)+1)=G (i+1):=by have:=fZ (show(0:Int)<=((i+1:Nat):Int)by omega);simpa using this
 simp[s,p,I,N,show(i:Int)+1<j by omega,c4,l,L,K];refine jy Ub Y (⟨P,c,t,.arr e m 0 j false,A,ap⟩,Q) ⟨rfl,(T A (H.fV W) (iC an)).trans W,a8⟩ ?_;rintro _ E ⟨rfl,v⟩;have ae:=(v.get e (H.fV l)).trans l;have r:∀f b,(fQ E e f).get b=if b=e then some f else E.get b:=λf b=>fj ae f b;simp[s,p,U,I,b8,ae,b9,aN,bA,bN];have O:jk h.size E:=⟨v.ok.hp,v.ok.low,aV w.sz v.ok.sz⟩;have ax:=(D.mono (h':=E) λb g=>v.get b (by simp at g;have:=H.fV l;omega)).setAt rfl ae i (M Q) (h':=fQ E e ⟨1,m,y+1,q,false,o.set i (M Q)⟩) (ver2:=y+1) (ex2:=q) (by rw[r,au rfl]);rw[ar,aO]at ax;have ec:=w.sz;exact⟨d+1,J,J,O.put _ _,ax,λb g u=>by rw[r,aq (λR=>u R.symm),v.get b J];exact T b g (iC u),J⟩;have bT:d=c.length:=J;subst bT;have⟨e,m,y,q,o,n,l,L,K⟩:=D.at (x:= M ((P++c.take c.length++(t::c).drop c.length)[i]' dY)) (i:=i) (by rw[bw,aF dY];rfl);rw[V]at n K;have ca:i<o.length:=by
  rcases aR i o.length with k|k;exact k;rw[cj k]at L;simp at L
 have bs:o.take j=iE (P++c.take c.length++(t::c).drop c.length):=by
  rcases D with⟨rfl,_⟩|⟨c7,dd,ds,di,eb,B,S,av⟩;simp at n;rw[n]at B;simp at B;obtain⟨rfl,rfl,_⟩:=B;rw[l]at S;simp at S;obtain⟨_,_,rfl⟩:=S;rw[V]at av;exact av
 subst n;have r:∀f b,(fQ h' e f).get b=if b=e then some f else h'.get b:=λf b=>fj l f b;have bX:j-i=1:=J;have bi:=aaw h' uu EW _ e m 0 j i _ rfl nL l rfl J;rw[bX,cV]at bi;have c1:=Pe (cx:=cx) (h:=fQ h' e ⟨1,m,y+1,q,false,o.set i (M 0)⟩) uu EW _ e m 0 j i false _ rfl nL (by rw[r,au rfl]) rfl J;simp[s,U,I,N,show¬(i:Int)+1<j by omega,bi,Uq,ab6 a8.hp l ca,c1];have O:=(w.put e ⟨1,m,y+1,q,false,o.set i (M 0)⟩).out h;refine⟨.inr ⟨e,m,y+1,q,o.set i (M 0),?_,by rw[iJ,r,au rfl],?_⟩,rfl,⟨O.hp,O.low,iC w.sz⟩,λb g u=>by
  rw[iJ,r,aq (λR=>u (by rw[R];rfl))];exact T b g u⟩
 simp;omega;have b6:(iE (P++c)).length=i:=dY;rw[b6,List.take_set_of_le (ay _)];have:=bE (List.take i) bs;rw[List.take_take,cP J]at this;rw[this,aI];show List.take i (iE (P++c++(t::c).drop c.length))=iE (P++c);rw[iE,List.map_append,dp dY,cd dY]
section
def VQ{g i:Type}{f:g->i->Prop}:∀{b:List g} {a:List i},b.length=a.length->(∀(d:Nat) e c,b[d]? =G e->a[d]? =G c->f e c)->jw f b a:=by
 intro b;induction b with
 |nil=>
  intro a hl _;rcases a with _|⟨c,a⟩
  exact .nil;simp at hl
 |cons e b l=>
  intro a hl h;rcases a with _|⟨c,a⟩
  simp at hl;exact .cons (h 0 e c rfl rfl) (l (iC hl) λd m n j k=>h (d+1) m n (iC j) (iC k))
def Ku{b c:Type}{d:b->c->Prop}{f:List b}{g:List c}(k:jw d f g){e:Nat}{i:b}{j:c}(l:f[e]? =G i)(m:g[e]? =G j):d i j:=by have⟨o,a,n⟩:=k.get m;rw[l]at a;simp[aw]at a;rw[a];exact n
structure HG(w:fU)(t:Int)(c0 c2 c3:T)(h:H)(es:List T)(S:iu)(ver:Nat):Prop where
 sy:ES 4 h.size h c0 c2 c3 es S
 ok:jk 0 h
 g0:h.get 0=G (eg 6 0 [w.t])
 g1:h.get 1=G (eg 4 ver [.agg [c0,M S.tx,c2,c3]])
 g2:h.get 2=G (eg 1 0 [M t])
 g3:h.get 3=G (eg 4 0 [.agg [ed,M 0,ed,ed]])
section
variable {w:fU}{t:Int}{c0 c2 c3:T}{h h':H}{es:List T}{S:iu}{ver:Nat}
theorem HG.put(a:HG w t c0 c2 c3 h es S ver){b:Nat}{x:jO}(c:h.get b=G x)(g:4<=b){y:jO}{e:List T}{d:iu}(f:ES 4 h.size (fQ h b y) c0 c2 c3 e d)(ht:d.tx=S.tx):HG w t c0 c2 c3 (fQ h b y) e d ver:=
 ⟨by rw[iB];exact f,a.ok.put _ _,by rw[fj c,aq J];exact a.g0,by rw[fj c,aq J,ht];exact a.g1,by rw[fj c,aq J];exact a.g2,by rw[fj c,aq J];exact a.g3⟩
def HG.qA(c:HG w t c0 c2 c3 h es S ver){a e k:Nat}{f:Bool}{l:List T}(g:fD c3=G a)(j:h.get a=G ⟨3,e,k,f,false,l⟩){i:Nat}{me:fc}(m:S.eY[i]? =G me)(d:fc->fc):
 HG w t c0 c2 c3 (fQ h a ⟨3,e,k+1,f,false,l.set i (d me).t⟩) es {S with eY:=S.eY.modify i d} ver:=by
 have:=c.put j (c.sy.b a (.inr (.inr g))).1 (c.sy.qA g j i (d me)) rfl;rw[qP m];exact this
def HG.sj(g:HG w t c0 c2 c3 h es S ver){d i m:Nat}{j:Bool}{n:List T}(k:fD c0=G d)(l:h.get d=G ⟨2,i,m,j,false,n⟩){c:Nat}{f:fF}(hl:S.fT[c]? =G f)(e:fF->fF){rv:T}(hr:rx h 1 rv (iE (e f).gh))(o:∀a,fD rv=G a->4<=a/\a<h.size/\fD c0≠some a/\fD c2≠some a/\fD c3≠some a):
 HG w t c0 c2 c3 (fQ h d ⟨2,i,m+1,j,false,n.set c (.agg [M (e f).jF,rv])⟩) (es.set c (.agg [M (e f).jF,rv])) {S with fT:=S.fT.modify c e} ver:=by
 have:=g.put l (g.sy.b d (.inl k)).1 (g.sy.sj k l c hr o) rfl;rw[qP hl];exact this
def HG.don(c:HG w t c0 c2 c3 h es S ver){a f k:Nat}{g:Bool}{l:List T}(i:fD c2=G a)(j:h.get a=G ⟨1,f,k,g,false,l⟩)(d:Nat)(e:Bool):HG w t c0 c2 c3 (fQ h a ⟨1,f,k+1,g,false,l.set d (.bool e)⟩) es {S with done:=S.done.set d e} ver:=
 c.put j (c.sy.b a (.inr (.inl i))).1 (c.sy.don i j d e) rfl
def HG.tx(a:HG w t c0 c2 c3 h es S ver)(b:Int):HG w t c0 c2 c3 (fQ h 1 (eg 4 (ver+1) [.agg [c0,M b,c2,c3]])) es {S with tx:=b} (ver+1):=
 ⟨by rw[iB];exact(a.sy.tx b).mono (ay _) λc d _=>by rw[fj a.g1,aq J],a.ok.put _ _,by rw[fj a.g1,aq J];exact a.g0,by rw[fj a.g1,au rfl],by rw[fj a.g1,aq J];exact a.g2,by rw[fj a.g1,aq J];exact a.g3⟩
def HG.aer(c:HG w t c0 c2 c3 h es S ver){l:List fc}(j:act h h' c3 l):HG w t c0 c2 c3 h' es {S with eY:=l} ver:=by have k:∀a,a<4->fD c3≠some a:=λa d f=>iV (c.sy.b a (.inr (.inr f))).1;have r:=j.ok.sz;have e:∀a,fD c3≠some a->a<h.size->h'.get a=h.get a:=λa f d=>j.fr a d f;refine⟨⟨c.sy.g0.mono λa d=>e a (λf=>?_) (c.sy.b a (.inl d)).2,c.sy.g2.mono λa d=>e a (λf=>?_) (c.sy.b a (.inr (.inl d))).2,j.g,c.sy.el.imp λp q ⟨o,m,n,i⟩=>⟨o,m,n.mono λa d=>e a (i a d).2.2.2.2 (i a d).2.1,λa d=>⟨(i a d).1,iV (i a d).2.1,(i a d).2.2⟩⟩,λa d=>⟨(c.sy.b a d).1,iV (c.sy.b a d).2⟩⟩,⟨j.ok.hp,j.ok.low,az _⟩,(e 0 (k 0 J) (H.fV c.g0)).trans c.g0,(e 1 (k 1 J) (H.fV c.g1)).trans c.g1,(e 2 (k 2 J) (H.fV c.g2)).trans c.g2,(e 3 (k 3 J) (H.fV c.g3)).trans c.g3⟩;exact c.sy.g0.ne c.sy.g3 d6 a d f;exact c.sy.g2.ne c.sy.g3 d6 a d f
def HG.afv(d:HG w t c0 c2 c3 h es S ver)(an:LkD es){f F Q:Nat}{I:Bool}{R:List T}(q:fD c0=G f)(L:h.get f=G ⟨2,F,Q,I,false,R⟩){l:Nat}{A:fF}(hl:S.fT[l]? =G A){o m:T}(ae:es[l]? =G (.agg [o,m]))(i:∀a,fD m=G a->4<=a/\fD c0≠some a/\fD c2≠some a/\fD c3≠some a)
 {hT:H} (W6:jk h.size hT) (C:∀a,a<h.size->fD m≠some a->hT.get a=h.get a) {u:T} (v:fF->fF) (K:Gr hT u 1 (iE (v A).gh)) (s:∀a,fD u=G a->fD m=G a\/h.size<=a):
 HG w t c0 c2 c3 (fQ hT f ⟨2,F,Q+1,I,false,R.set l (.agg [M (v A).jF,u])⟩) (es.set l (.agg [M (v A).jF,u])) {S with fT:=S.fT.modify l v} ver:=by
 have z:=W6.sz;have Z:=H.fV L;have ao:=(d.sy.b f (.inl q)).1;have O:fD m≠some f:=λc=>(i f c).2.1 q;have N:hT.get f=_:=(C f Z O).trans L;have D:∀n a,(fQ hT f n).get a=if a=f then some n else hT.get a:=λn a=>fj N n a;have B:∀a,a<4->fD m≠some a:=λa q c=>iV (i a c).1;have p:∀n a,a<h.size->a≠f->fD m≠some a->(fQ hT f n).get a=h.get a:=λn a V W X=>by rw[D,aq W];exact C a V X
 refine⟨⟨?_,d.sy.g2.mono λa c=>p _ a (d.sy.b a (.inr (.inl c))).2 (λe=>?_) (λe=>(i a e).2.2.1 c),d.sy.g3.mono λa c=>p _ a (d.sy.b a (.inr (.inr c))).2 (λe=>?_) (λe=>(i a e).2.2.2 c),VQ ?_ λk x n g j=>?_,λa c=>⟨(d.sy.b a c).1,uC (d.sy.b a c).2⟩⟩,(⟨W6.hp,W6.low,az _⟩:jk 0 hT).put _ _,?_,?_,?_,?_⟩;exact(d.sy.g0.mono (h':=hT) λa c=>C a (d.sy.b a (.inl c)).2 (λe=>(i a e).2.1 c)).setAt q N l _ (by rw[D,au rfl]);subst e;exact d.sy.g2.ne d.sy.g0 d6 a c q;subst e;exact d.sy.g3.ne d.sy.g0 d6 a c q;rw[dG,List.length_modify];exact d.sy.el.length;rw[cE]at g;rw[List.getElem?_modify]at j;by_cases y:l=k;subst y;rw[hl]at j;simp at j;rw[au rfl]at g;split at g;cases g;subst j;refine⟨u,rfl,.inr (K.mono λa c=>?_),λa c=>?_⟩;rw[D,aq];rintro rfl;rcases s a c with k|k
 exact O k;omega;have⟨_,_,_,_,j,_⟩:=K.box c;have al:=H.fV j;refine⟨?_,iC al,?_,?_,?_⟩;rcases s a c with k|k;exact(i a k).1;omega;rcases s a c with k|k;exact(i a k).2.1;exact λe=>iV (d.sy.b a (.inl e)).2;rcases s a c with k|k;exact(i a k).2.2.1;exact λe=>iV (d.sy.b a (.inr (.inl e))).2;rcases s a c with k|k;exact(i a k).2.2.2;exact λe=>iV (d.sy.b a (.inr (.inr e))).2;simp at g;rw[aq y]at g;simp[y]at j;have⟨P,E,U,r⟩:=Ku d.sy.el g j;refine⟨P,E,U.mono λa c=>p _ a (r a c).2.1 (λe=>(r a c).2.2.1 (e▸q)) (λe=>y ?_),λa c=>⟨(r a c).1,uC (r a c).2.1,(r a c).2.2⟩⟩;rw[E]at g;exact an l k m P _ _ a ae g e c;exact(p _ 0 (H.fV d.g0) J (B 0 J)).trans d.g0;exact(p _ 1 (H.fV d.g1) J (B 1 J)).trans d.g1;exact(p _ 2 (H.fV d.g2) J (B 2 J)).trans d.g2;exact(p _ 3 (H.fV d.g3) J (B 3 J)).trans d.g3
end
end
structure ApO(w:fU)(s:iu)(t k o wk:Int)(c0 c2 c3:T)(h:H)(n:Int):Prop where
 ex:∃S es ver,gW w s t k o wk=(S,n)/\HG w t c0 c2 c3 h es S ver
structure ApF(w:fU)(s:iu)(t k o:Int):Prop where
 en:jK w s t k o
 cl:w.jl.length<=1000000
 sm:QQ s
 r:∀l∈s.fT,l.gh.length<=10
def wD:iF:=⟨fU×iu×Int×Int×Int×Int,λa=>[a.1.t,a.2.1.t,M a.2.2.1,M a.2.2.2.1,M a.2.2.2.2.1,M a.2.2.2.2.2],λa=>ApF a.1 a.2.1 a.2.2.1 a.2.2.2.1 a.2.2.2.2.1,λa=> .tuple [(gW a.1 a.2.1 a.2.2.1 a.2.2.2.1 a.2.2.2.2.1 a.2.2.2.2.2).1.t,M (gW a.1 a.2.1 a.2.2.1 a.2.2.2.1 a.2.2.2.2.1 a.2.2.2.2.2).2,.bool true],λa c b=>by
 obtain⟨a1,a2,a3,a4,a5,a6⟩:=a;obtain⟨d,e,f,g,h,i⟩:=c;simp at b;rw[fU.inj b.1,iu.inj b.2.1,b.2.2.1,b.2.2.2.1,b.2.2.2.2.1,b.2.2.2.2.2]⟩
def LA:wD.Ok prog cx 50:=by
 refine AO (tb:=⟨pt [(107,qj)],ht [(108,kW iu It ZA),(109,kW V5 Zq Jt),(110,kW ICo Zz Ts),(111,kW OS Zy Tr),(113,kW MO Zt Tk),(114,kW MO Zu Tl)]⟩) ml kl (jz 772424076352653274097095092108232752774234854811365887 [(19,[(1,4)]),(21,[(1,10)]),(32,[(4,9),(5,9)]),(35,[(4,8),(5,8)])] func50) (λ_=>1000005) (by simp[wD]) nl9 ?_;rintro⟨w,s,t,k,o,r⟩ ⟨L,eN,⟨hl,eP,ht,hr,ec⟩,ds⟩ ca eK
 dsimp at L eN hl eP ht hr ec ds
 simp[wD]at eK|-;obtain⟨gi,c1,ea,D⟩:=eK;unfold jK at L;simp[aC]at L;obtain⟨⟨⟨ef,eh⟩,bu⟩,L⟩:=L;have⟨bA,bN,e4⟩:=o8 ef;have fE:=λ{tb:iq} (ht:tb.p 107=G qj)=>RX ht (w:=w) (s:=s) (t:=t) (k:=k) (o:=o) ⟨ef,eh,bu,L,eN,hr⟩
 .simp[f50,gi,c1,ea,D,fE];generalize an:(((hE.cons _).cons _).cons _).cons _=bn;have gM:jk 0 bn:=an▸⟨Y,Y,Y⟩;have gV:bn.size=4:=by rw[<-an];rfl
  have fb:bn.get 0=G (eg 6 0 [w.t]):=by rw[<-an];simp
  have fe:bn.get 1=G (eg 4 0 [s.t]):=by rw[<-an];simp
  have ff:bn.get 2=G (eg 1 0 [M t]):=by rw[<-an];simp
  have K:bn.get 3=G (eg 4 0 [.agg [ed,M 0,ed,ed]]):=by rw[<-an];simp
  clear an;refine jy Uk Y s ⟨rfl,gM,hl,eP,ht,hr⟩ ?_;rintro _ al ⟨aX,a7,a8,eG,rfl,e8,av,eB,eW⟩;rw[gV]at e8 eB;have hy:=av.ok.sz;have gF:jk 0 al:=⟨av.ok.hp,av.ok.low,az _⟩;have eE:=(av.get 1 J).trans fe;have fv:=(av.get 0 J).trans fb;have fy:=(av.get 2 J).trans ff;have fA:=(av.get 3 J).trans K;have bi:∀v d,(fQ al 1 v).get d=if d=1 then some v else al.get d:=λv d=>fj eE v d;have c:HG w t aX a7 a8 (fQ al 1 (eg 4 1 [.agg [aX,M s.tx,a7,a8]])) eG s 1:=⟨by rw[iB];exact e8.mono (ay _) λd q _=>by rw[bi,aq J],gF.put _ _,by rw[bi,aq J];exact fv,by rw[bi,au rfl],by rw[bi,aq J];exact fy,by rw[bi,aq J];exact fA⟩;have eC:jw (LkG (fQ al 1 (eg 4 1 [.agg [aX,M s.tx,a7,a8]])) λd=>4<=d/\d<al.size/\fD aX≠some d/\fD a7≠some d/\fD a8≠some d) eG s.fT:=eB.imp λO m ⟨rv,X,fB,eF⟩=>⟨rv,X,fB.mono λd q=>by rw[bi,aq (iV (eF d q).1)],eF⟩;simp[QJ,eE,D];generalize fQ al 1 _=R at*
  have eR:=eh;rw[<-e4]at eR;have⟨me,I,hd⟩:=jt eR;have bW:=fZ (gG.1 eh).1;refine nS (λca b7=>∃n,ApO w s t k o r aX a7 a8 b7 n/\jg ca 7 1/\jg ca 12 3/\iS ca 15 n) (λap=>?_) (λap=>?_) ?_;have ap:k=1:=iC ap;subst ap;have⟨y,Z,aA,ae,aN,A,e,l,j⟩:=c.sy.g3.at (x:=me.t) (i:=t.toNat) (by simp[I]);rw[aL]at A j;subst A;simp[c.g1,c.g2,bW,e,l,j];exact⟨_,_,_,show gW w s t 1 o r=(s.qA t (mh 2),0)by simp[gW],c.qA rfl e I (mh 2)⟩
  .have ap:¬k=1:=iC ap;rcases xv bu with g|rfl|rfl|rfl|rfl|rfl|rfl|rfl|rfl|g|g|g|g
   exact absurd g ap;have⟨y,Z,aA,ae,aN,A,e,l,j⟩:=c.sy.g3.at (x:=me.t) (i:=t.toNat) (by simp[I]);rw[aL]at A j;subst A;simp[c.g1,c.g2,bW,e,l,j];exact⟨_,_,_,show gW w s t 2 o r=(s.qA t (mh 5),0)by simp[gW],c.qA rfl e I (mh 5)⟩;simp;exact⟨_,_,_,show gW w s t 3 o r=(s,0)by simp[gW],c⟩;simp;exact⟨_,_,_,show gW w s t 4 o r=(s,0)by simp[gW],c⟩;simp;exact⟨_,_,_,show gW w s t 5 o r=(s,0)by simp[gW],c⟩;simp[c.g1,c.g2,fN];exact⟨_,_,_,show gW w s t 12 o r=({s with tx:=t},0)by simp[gW],c.tx t⟩;simp[c.g1,fN];exact⟨_,_,_,show gW w s t 13 o r=({s with tx:=-1},0)by simp[gW],c.tx (-1)⟩;have⟨y,Z,aA,ae,aN,A,e,l,j⟩:=c.sy.g3.at (x:=me.t) (i:=t.toNat) (by simp[I]);rw[aL]at A j;subst A;simp[c.g1,c.g2,bW,e,l,j];exact⟨_,_,_,show gW w s t 14 o r=(s.qA t (λx=>{x with atomic:=true}),0)by simp[gW],c.qA rfl e I (λx=>{x with atomic:=true})⟩;have⟨y,Z,aA,ae,aN,A,e,l,j⟩:=c.sy.g3.at (x:=me.t) (i:=t.toNat) (by simp[I]);rw[aL]at A j;subst A;simp[c.g1,c.g2,bW,e,l,j];exact⟨_,_,_,show gW w s t 15 o r=(s.qA t (λx=>{x with atomic:=false}),0)by simp[gW],c.qA rfl e I (λx=>{x with atomic:=false})⟩;have F:=mW bu g;rw[<-bA]at F;have⟨B,C,eb⟩:=jt F;have E:=fZ (gG.1 F).1;obtain⟨O,ao,rv,rfl,bT,ax⟩:=c.sy.el.get C;obtain⟨y,Z,aA,ae,aN,rfl,e,l,j⟩:=c.sy.g0.at ao;have b8:=H.fV e;have gZ:=(c.sy.b y (.inl rfl)).1;have et:(1=R.size)=False:=uC (H.fV c.g1);have hj:(y=R.size)=False:=dY;have hf:=hr B (aB C);have hg:∀d,fD rv=G d->d<R.size:=λd q=>(ax d q).2.1;rcases g with rfl|rfl|rfl|rfl|rfl|rfl
   simp[D,c.g1,c.g2,E,e,l,j];exact⟨_,_,_,show gW w s t 6 o r=(s.sj o (λh=>{h with jF:=t}),0)by simp[gW],c.sj rfl e C (λh=>{h with jF:=t}) bT ax⟩;simp[D,c.g1,E,e,l,j];exact⟨_,_,_,show gW w s t 7 o r=(s.sj o (λh=>{h with jF:=-1}),0)by simp[gW],c.sj rfl e C (λh=>{h with jF:=-1}) bT ax⟩;have bZ:=ec B (aB C);have c4:=ds B (aB C);have gv:t∉B.gh:=by
    simp[BW,eb,po]at L;exact L.2.2
   have⟨gP,X,gL,N⟩:=Ku eC ao C;simp at X;subst X;have cp:Gr R rv 1 (iE B.gh):=gL;have⟨eA,b6,fC,aE⟩:=cp.oy (cx:=cx) (f:=T.int .i64) c.ok kS rfl nL rfl Y (λx=>rfl) t dY;have hb:=c.ok.low;have hh:(2=R.size)=False:=uC (H.fV c.g2);simp[D,c.g1,c.g2,E,e,l,j,fC];refine jy aaS Y ⟨B.gh,t,eA⟩ ⟨rfl,aE.1,⟨aE.2.2.2.hp,aE.2.2.2.low,az _⟩,bZ,gv,c4⟩ ?_;rintro _ eI ar;have gS:=aE.2.2.2.sz;have hA:=ar.ok.sz;have dn:∀d,d<R.size->fD rv≠some d->eI.get d=R.get d:=λd bA bN=>(ar.fr d J (λq=>(aE.2.2.1 d q).elim bN J)).trans (aE.2.1 d bA bN);have gz:∀d,d<4->fD rv≠some d:=λd q k=>iV (N d k).1;have de:=(dn 1 (H.fV c.g1) (gz 1 J)).trans c.g1;have e5:=(dn y b8 (λk=>(N y k).2.2.1 rfl)).trans e;have gI:jk 0 eI:=⟨ar.ok.hp,ar.ok.low,az _⟩;have ha:=LV B.gh t;simp[D,de];refine mZ Rq Y ⟨oF B.gh t,eA⟩ ⟨rfl,ar.g,gI,GL bZ t,dZ⟩ ?_;rintro V hT ⟨O,U⟩
   dsimp at O
   rw[O];have ey:=iw (U.get 1 (H.fV de));have t1:=(U.get 1 (H.fV de)).trans de;have tb:=(U.get y (H.fV e5)).trans e5;have gT:Gr hT eA 1 (iE (oF B.gh t)):=ar.g.mono λd q=>by
    have⟨_,_,_,_,gy,_⟩:=ar.g.box q;exact U.get d (H.fV gy)
   have hB:=U.ok.sz;simp[E,tb,l,j,ey,fN,gT.je,gT.cells];exact⟨_,_,_,show gW w s t 8 o r=(s.sj o (λh=>{h with gh:=oF h.gh t}),0)by simp[gW],c.afv eW rfl e C ao (λd q=>⟨(N d q).1,(N d q).2.2⟩) (hT:=hT) ⟨U.ok.hp,U.ok.low,J⟩ (λd bA bN=>(U.get d J).trans (dn d bA bN)) (λh=>{h with gh:=oF h.gh t}) gT aE.2.2.1⟩;have⟨gP,X,gL,N⟩:=Ku eC ao C;simp at X;subst X;have cp:Gr R rv 1 (iE B.gh):=gL;have bZ:=ec B (aB C);have c4:=ds B (aB C);have gn:t∈B.gh:=by
    simp[BW,eb,po]at L;exact L.2
   have⟨P,Q,c6⟩:=List.append_of_mem gn;have c7:t∉P/\t∉Q:=by
    rw[c6]at bZ;have c1:=List.pairwise_append.1 bZ;have ea:=List.pairwise_cons.1 c1.2.1;exact⟨λk=>iV (c1.2.2 t k t Y),λk=>iV (ea.1 t k)⟩
   simp[D,c.g1,E,e,l,j];have gD:fD rv≠some 2:=λk=>iV (N 2 k).1;refine mZ Jy Y ⟨P,Q,t,rv,2,⟨0,0,0,false,false,[]⟩⟩ ⟨rfl,c.g2,c.ok,by rw[c6]at cp;exact cp,c7.1,c7.2,by rw[c6]at c4;simp at c4|-;omega,gD⟩ ?_;rintro V b6 ⟨cL,eM,e0,cb⟩
   dsimp at cL eM cb
   have eH:=cb 1 (H.fV c.g1) (λk=>iV (N 1 k).1);have fY:=cb y b8 (λk=>(N y k).2.2.1 rfl);have ey:=iw eH;have gX:=eH.trans c.g1;have fs:=fY.trans e;have gm:B.gh.filter (λV=> !decide (V=t))=P++Q:=by
    rw[c6,List.filter_append,List.filter_cons];simp;rw[List.filter_eq_self.2 λx l=>?_,List.filter_eq_self.2 λx l=>?_];simp;exact λO=>c7.2 (O▸l);simp;exact λO=>c7.1 (O▸l)
   have gS:=e0.sz;simp[E,fs,l,j,ey,fN,cL.je,cL.cells];exact⟨_,_,_,show gW w s t 9 o r=(s.sj o (λh=>{h with gh:=h.gh.filter λV=> !decide (V=t)}),0)by simp[gW],c.afv eW rfl e C ao (λd q=>⟨(N d q).1,(N d q).2.2⟩) (hT:=b6) e0 cb (λh=>{h with gh:=h.gh.filter λV=> !decide (V=t)}) (by show Gr b6 V 1 (iE (B.gh.filter _));rw[gm];exact cL) (λd q=> .inl (eM▸q))⟩;simp[D,c.g1,c.g2,E,e,l,j];exact⟨_,_,_,show gW w s t 10 o r=(s.sj o (λh=>{h with jF:=t}),0)by simp[gW],c.sj rfl e C (λh=>{h with jF:=t}) bT ax⟩;simp[D,c.g1,E,e,l,j];exact⟨_,_,_,show gW w s t 11 o r=(s.sj o (λh=>{h with jF:=-1}),0)by simp[gW],c.sj rfl e C (λh=>{h with jF:=-1}) bT ax⟩;have F:=qO bu g;have⟨d,ee,eO⟩:=jt F;have eo:=vS ef ee;rw[<-bA]at eo;have⟨B,C,eb⟩:=jt eo;have E:=fZ (gG.1 F).1;have e9:=fZ (gG.1 eo).1;obtain⟨O,ao,rv,rfl,bT,ax⟩:=c.sy.el.get C;obtain⟨y,Z,aA,ae,aN,rfl,e,l,j⟩:=c.sy.g0.at ao;have⟨K,fL,gQ,fP,di,A,br,dd,ej⟩:=c.sy.g3.at (x:=me.t) (i:=t.toNat) (by simp[I]);rw[aL]at A ej;subst A;have b8:=H.fV e;have eL:=H.fV br;have et:(1=y)=False:=uC (c.sy.b y (.inl rfl)).1;have gB:(1=K)=False:=uC (c.sy.b K (.inr (.inr rfl))).1;have eX:(2=y)=False:=uC (c.sy.b y (.inl rfl)).1;have gE:(2=K)=False:=uC (c.sy.b K (.inr (.inr rfl))).1;have eu:(K=y)=False:=by simp;rintro rfl;rw[e]at br;simp at br
   have eV:∀x,(di.set t.toNat x)[t.toNat]? =G x:=λx=>by
    have:t.toNat<di.length:=by
     rcases aR t.toNat di.length with k|k;exact k;rw[cj k]at dd;simp at dd
    rw[cE];simp[this]
   have bs:∀v,(fQ R y v).get K=G ⟨3,fL,gQ,fP,false,di⟩:=λv=>by rw[fj e,aq (iC eu)];exact br
   have e6:=λv z=>pR (bs v) (show 1≠K from iC gB) z;have e7:=λv z=>pR (bs v) (show 2≠K from iC gE) z;have eD:=λ(f:fF->fF) (q:(f B).gh=B.gh)=>c.sj rfl e C f (rv:=rv) (q▸bT) ax;rcases g with rfl|rfl|rfl|rfl
   have dm:=(eD (λh=>{h with jF:=-1}) rfl).qA rfl (bs _) I (λx=>{x with jq:=3});have bX:=dm.qA (me:=(λx=>{x with jq:=3}) me) rfl ((fj (bs _) _ _).trans (au rfl)) (i:=t.toNat) (by simp[I]) (λx=>{x with cond:=o});simp[E2,List.set_set]at bX;simp[D,c.g0,c.g1,c.g2,E,e9,bW,ee,e,br,l,dd,j,ej,rV,c.ok.hp,b8,eL,et,eu,eX,eV,e6,e7];exact⟨_,_,_,show gW w s t 16 o r=((s.sj d.oG λh=>{h with jF:=-1}).qA t (λx=>{x with jq:=3,cond:=o}),0)by simp[gW,eO],bX⟩;have dm:=(eD (λh=>{h with jF:=t}) rfl).qA rfl (bs _) I (λx=>{x with jq:=2});have bX:=dm.qA (me:=(λx=>{x with jq:=2}) me) rfl ((fj (bs _) _ _).trans (au rfl)) (i:=t.toNat) (by simp[I]) (λx=>{x with cond:=0});simp[E2,List.set_set]at bX;simp[D,c.g0,c.g1,c.g2,E,e9,bW,ee,e,br,l,dd,j,ej,rV,c.ok.hp,b8,eL,et,eu,eX,eV,e6,e7];exact⟨_,_,_,show gW w s t 17 o r=((s.sj d.oG λh=>{h with jF:=t}).qA t (λx=>{x with jq:=2,cond:=0}),0)by simp[gW,eO],bX⟩;simp[D,c.g1];refine jy TQ Y ⟨s,_,_,_,o,r⟩ ⟨rfl,c.sy.g3,c.ok,ht⟩ ?_;rintro _ b6 ⟨n,rfl,eS,b9⟩
   dsimp at eS b9
   simp;exact⟨_,_,_,show gW w s t 18 o r=({s with eY:=if jb o s.eY 0=[]then s.eY else s.eY.modify n.toNat (mh 4)},n)by
    have eU:wh o r s.eY=n:=by rw[eS];rfl
    unfold gW;simp;by_cases q:jb o s.eY 0=[];rw[au q,au q,<-eU];unfold wh;rw[q];rfl;rw[aq q,aq q,eU];rfl,c.aer b9⟩
   simp[D,c.g1];refine jy Lj Y ⟨s,_,_,_,o,0⟩ ⟨rfl,c.sy.g3,c.ok,ht⟩ ?_;rintro _ b6 ⟨rfl,b9⟩
   dsimp at b9
   simp;exact⟨_,_,_,show gW w s t 19 o r=({s with eY:=s.eY.map (Gu o)},((jb o s.eY 0).length:Int))by
    unfold gW;simp;intro a _;rfl,c.aer b9⟩
   have F:=Au bu g;rw[<-e4]at F;have⟨u,c9,gw⟩:=jt F;have E:=fZ (gG.1 F).1;rcases g with rfl|rfl
   have⟨y,Z,aA,ae,aN,A,e,l,j⟩:=c.sy.g3.at (x:=u.t) (i:=o.toNat) (by simp[c9]);rw[aL]at A j;subst A;simp[D,c.g1,E,e,l,j];exact⟨_,_,_,show gW w s t 20 o r=(s.qA o (mh 1),0)by simp[gW],c.qA rfl e c9 (mh 1)⟩;simp;exact⟨_,_,_,show gW w s t 21 o r=(s,0)by simp[gW],c⟩
   .have F:=vh bu g;rw[<-bN]at F;have⟨u,c9,gw⟩:=jt F;have E:=fZ (gG.1 F).1;rcases g with rfl|rfl
    .have⟨y,Z,aA,ae,aN,A,e,l,j⟩:=c.sy.g2.at (x:= .bool u) (i:=o.toNat) (by simp[c9]);rw[aL]at A j;subst A;simp[D,c.g1,E,e,l,j];exact⟨_,_,_,show gW w s t 22 o r=({s with done:=s.done.set o.toNat true},0)by simp[gW],c.don rfl e o.toNat true⟩
    simp;exact⟨_,_,_,show gW w s t 23 o r=(s,0)by simp[gW],c⟩
  rintro ca b7 ⟨n,⟨S,fM,ho,gk,W⟩,gj⟩;have⟨hq,hs,hv⟩:=W.sy.fz;have gg:∀v,(fQ b7 3 v).get 3=G v:=λv=>(fj W.g3 v _).trans (au rfl);have dk:∀v,ES 4 b7.size (fQ b7 3 v) aX a7 a8 fM S:=λv=>W.sy.mono (ay _) λd q _=>by rw[fj W.g3,aq J]
  have fS:=λv=>(dk v).fz.1;have fW:=λv=>(dk v).fz.2.1;have fX:=λv=>(dk v).fz.2.2;simp[gj,W.g1,W.g3,gg,fN,fS,fW,fX,gk,W.ok.hp]
def kO.apf{w:fh}(e:kO w){c:Nat}{b:gd}(h:w.eZ[c]? =G b){d:ir}(f:d=yw w.gY w.mP (w.eZ.take c)):ApF w.gY d.ig b.fa b.kind b.obj/\(yw w.gY w.mP (w.eZ.take (c+1))).ig=(gW w.gY d.ig b.fa b.kind b.obj (nT b)).1:=by
 have p:c<w.eZ.length:=(List.getElem?_eq_some_iff.1 h).1;have i:=e.ok.ok h;rw[<-f]at i;have⟨q,r,o⟩:=sS i;have g:yM (1000+(w.eZ.take c).length) d:=f▸e.sm.yw (w:=w.gY) _;have hl:=e.ok.len;have hr:=Ag e.ok.run c;have m:ET 4 d.ig:=f▸Qq e.ok.qA _ _ hr e.rdt;have⟨l1,l2,l3,l4,l5,l6⟩:=g.l;have⟨s,t,u,v,x,y⟩:=kA e.wb;refine⟨⟨o,J,⟨J,J,J,λj k=>?_,g.a⟩,λj k=>?_⟩,?_⟩;have:=m.len g.a j k;omega;have:=m.len g.a j k;omega;have n:w.eZ.take (c+1)=w.eZ.take c++[b]:=by rw[dx,h];rfl
 rw[n];have:yw w.gY w.mP (w.eZ.take c++[b])=(lP w.gY d b).1:=by
  rw[f];unfold yw;rw[VS];rfl
 rw[this,u9 d b i];rfl
def zg:iF:=⟨fh,λa=>[a.t],λa=>kO a,λa=> .tuple [iT.t ⟨a,a.gx.st⟩,.bool true],λc d b=>by simp at b;rw[fh.inj b]⟩
def Yx(a:fh)(b:T):List T:=[sl (a.gY.cells.map jm.t),sl (a.gY.fT.map jI.t),sl (a.gY.jl.map ke.t),sl (a.gY.fR.map T.str),sl (a.gY.eY.map T.str),sl (a.gY.jM.map jJ.t),M a.start,sl (a.mP.ig.fT.map fF.t),M a.mP.ig.tx,sl (a.mP.ig.done.map T.bool),sl (a.mP.ig.eY.map fc.t),sl (a.mP.cells.map (T.int .i64)),sl (a.mP.fR.map (T.int .i64)),sl (a.mP.count.map (T.int .i64)),sl (a.eZ.map gd.t),b]
def anZ:List T:=[ed,ed,ed,ed,ed,ed,M 0,ed,M 0,ed,ed,ed,ed,ed,ed,ed]
structure AnJ(w:fh)(h:H)(k:Nat)(v:T)(ver ver5:Nat):Prop where
 ok:jk 4 h
 b0:h.get 0=G (eg 15 0 [w.t])
 b1:h.get 1=G (eg 16 0 [.agg anZ])
 b2:h.get 2=G (eg 16 ver [.agg (Yx w v)])
 b3:h.get 3=G (eg 4 ver5 [(yw w.gY w.mP (w.eZ.take k)).ig.t])
 g:Gr h v 4 ((w.gx.st.take k).map iu.t)
 l:∀b,fD v=G b->4<=b
def Ru:zg.Ok prog cx 42:=by
 refine iD [(50,wD)] (jz 9223389645163727807 [] func42) (λ_=>100) (by simp[zg]) ?_;rintro(c:fh) u m S;replace u:kO c:=u;simp[zg]at S|-;have bu:=u.ok.len;have bA:=u.ok.qA;simp[f42,S,show¬(16:Int)<c.eZ.length by omega,show¬(4:Int)<c.gY.eY.length by omega];refine io c.eZ.length J (λk m h=>∃v o w,AnJ c h k v o w/\jg m 1 0/\jg m 2 1/\jg m 4 2/\jg m 5 3/\ka m 30 (sl (c.eZ.map gd.t))/\iS m 31 c.eZ.length/\iS m 32 k) ?_ ?_ J ?_;rintro k m h U bi ⟨v,o,w,⟨l,N,y,A,O,s,C⟩,Q,R,a8⟩;have⟨Z,K⟩:=u.apf (aF U) rfl;have ap:=u.ok.st U;have ar:(c.gx.st.take (k+1))=c.gx.st.take k++[(yw c.gY c.mP (c.eZ.take k)).ig]:=by rw[dx,ap];rfl
 generalize(yw c.gY c.mP (c.eZ.take k)).ig=q at*
 have bW:=l.ne (b:=0) J;have bZ:=l.ne (b:=1) J;have b6:=l.ne (b:=2) J;have b8:=l.ne (b:=3) J;have ax:jk 0 h:=⟨l.hp,l.low,az _⟩;generalize bn:c.eZ[k]=d at*
 have al:Gr (h.cons (eg 7 1 [d.t])) v 4 ((c.gx.st.take k).map iu.t):=s.mono λb I=>by
  have⟨_,_,_,_,z,_⟩:=s.box I;rw[fH,aq (iV (H.fV z))]
 have bs:(c.gx.st.take k).length<=16:=dY;have⟨r,g,ae,i⟩:=al.oy (cx:=cx) (f:=iu.t) (ax.cons _) X7 rfl abX rfl Y (λ_=>rfl) q dY;rw[show(h.cons (eg 7 1 [d.t])).size=h.size+1 from rfl]at ae;have P:∀{X:iq},X.p 50=G wD->rl prog cx X 50 [c.gY.t,q.t,M d.fa,M d.kind,M d.obj,M (nT d)]=G (.tuple [(gW c.gY q d.fa d.kind d.obj (nT d)).1.t,M (gW c.gY q d.fa d.kind d.obj (nT d)).2,.bool true]):=λht=>iL ht LA (c.gY,q,d.fa,d.kind,d.obj,nT d) Z;have aN:=l.sz;have aE:=i.2.2.2.sz;simp at aE;have bN:=l.low;have av:∀a,a<4->fD v≠some a:=λa T j=>iV (C a j);have B:∀a,a<4->g.get a=h.get a:=λa T=>(i.2.1 a dY (av a T)).trans d2;have a0:=(B 0 J).trans N;have a1:=(B 1 J).trans y;have a2:=(B 2 J).trans A;have a3:=(B 3 J).trans O;have aX:g.get h.size=G (eg 7 1 [d.t]):=(i.2.1 h.size Y (λj=>by have⟨_,_,_,_,z,_⟩:=s.box j;have:=H.fV z;omega)).trans Y;have D:∀e a,(fQ g 2 e).get a=if a=2 then some e else g.get a:=λe a=>fj a2 e a;have cp:(h.size=2)=False:=dY;have L:jk 0 g:=⟨i.2.2.2.hp,i.2.2.2.low,az _⟩;have cb:∀e n b,fQ ((fQ g 2 e).cons n) g.size b=(fQ g 2 e).cons b:=λe n b=>zq _ _ _ _ Y (by have:=(L.put 2 e).low;simpa using this);have b9:(3=g.size)=False:=dY;have b7:(2=g.size)=False:=dY;have bX:(0=g.size)=False:=dY;have ca:(h.size=g.size)=False:=dY;have bT:∀e,(fQ g 2 e).low<=g.size:=λe=>by have:=(L.put 2 e).low;simpa using this
 have fin:∀(n:jO),AnJ c (fQ ((fQ g 2 (eg 16 (o+1) [.agg (Yx c r)])).cons n) 3 (eg 4 (w+1) [(gW c.gY q d.fa d.kind d.obj (nT d)).1.t])) (k+1) r (o+1) (w+1):=λn=>by
  have E:∀b a,(fQ ((fQ g 2 (eg 16 (o+1) [.agg (Yx c r)])).cons n) 3 b).get a=if a=3 then some b else((fQ g 2 (eg 16 (o+1) [.agg (Yx c r)])).cons n).get a:=λb a=>rV (by simp[L.hp]) dY b a;have F:∀b a,a<g.size->a≠3->a≠2->(fQ ((fQ g 2 (eg 16 (o+1) [.agg (Yx c r)])).cons n) 3 b).get a=g.get a:=λb a Q R ao=>by rw[E,aq R,fH,aq dY,D,aq ao]
  have aA:=(((⟨i.2.2.2.hp,i.2.2.2.low,J⟩:jk 4 g).put 2 (eg 16 (o+1) [.agg (Yx c r)])).cons n).put 3 (eg 4 (w+1) [(gW c.gY q d.fa d.kind d.obj (nT d)).1.t]);have V:∀a,fD r=G a->4<=a:=λa j=>(i.2.2.1 a j).elim (λj=>C a j) (λj=>by simp at j;omega);refine⟨aA,(F _ 0 J J J).trans a0,(F _ 1 J J J).trans a1,?_,?_,?_,V⟩;rw[E,aq J,fH,aq dY,D,au rfl];rw[E,au rfl,K];rw[ar];exact i.1.mono λa j=>by
   have⟨_,_,_,_,z,_⟩:=i.1.box j;have:=V a j;exact F _ a (H.fV z) J J
 have x:nT d=if d.kind=18 then d.value else-1:=rfl;simp[Yx]at A a2;cases W:decide (d.kind=18)with
 |true=>
  rw[au (iC W)]at x;rw[x]at P K;simp[*,fN,i.1.je,i.1.cells];rw[x]at fin;exact⟨_,_,_,fin _⟩
 |false=>
  rw[aq (iC W)]at x;rw[x]at P K;simp[*,fN,i.1.je,i.1.cells];rw[x]at fin;exact⟨_,_,_,fin _⟩
 .rintro m h ⟨v,o,w,⟨l,N,y,A,O,s,C⟩,Q⟩;simp[Yx]at A;simp[anZ]at y;have br:c.gx.st.length=c.eZ.length:=by unfold fh.gx;simp[QO]
  rw[cd J]at s;have aN:=l.sz;have D:∀e,(fQ h 1 e).get 1=G e:=λe=>(fj y e 1).trans (au rfl);have an:∀e,Gr (fQ h 1 e) v 4 (c.gx.st.map iu.t):=λe=>s.mono λb I=>by rw[fj y,aq (iV (C b I))]
  have a7:=λe=>(an e).fz Y;simp[*,fN,l.hp]
  try rfl
 exact⟨ed,1,1,⟨by exact⟨Y,Y,Y⟩,Y,by simp[anZ],by simp[Yx],by simp;rfl,iC (Gr.nil _ _),Y⟩,Y⟩
end
end
noncomputable section
open Go Go.TI
def l0:T:= .agg [(.fg [(.agg [(M 1),(M 1),(.str [120]),(M 0),(M 0),(.str [])])] false),(.fg [(.agg [(.str [116]),(M 1),ed,(.fg [(.agg [(M 12),(M 1),(.str [117]),(.str []),ed,(M 0),(M 0),(.str []),ed,ed,ed]),(.agg [(M 1),(M 1),(.str [120]),(.str []),ed,(M 1),(M 1),(.str []),ed,ed,ed])] false)]),(.agg [(.str [117]),(M 1),ed,(.fg [(.agg [(M 1),(M 1),(.str [120]),(.str []),ed,(M 1),(M 2),(.str []),ed,ed,ed])] false)])] false)]
def l1:T:= .fg [(.agg [(.str [120]),(M 0),(M 0),(.bool false),(M 0)])] false
def l2:T:= .fg [(.agg [(M 0),(M 0),(M 1)]),(.agg [(M 0),(M 1),(M 1)]),(.agg [(M 1),(M 0),(M 1)])] false
def l3:T:= .agg [(M 28),(M 0),(M 0),(M 0),(M 0),(M (.negSucc 0))]
def l4:T:= .agg [l1,ed,ed,ed,(.fg [(.str [116]),(.str [117])] false),l2,(.fg [(.agg [(M 1),(.fg [(.agg [(M 24),(M 1),(M 0),(M 0),(M 0),(M 0)]),(.agg [(M 1),(M 0),(M 0),(M 0),(M 1),(M 1)]),(.agg [(M 8),(M 0),(M 0),(M 0),(M 0),(M 1)]),l3] false)]),(.agg [(M 1),(.fg [(.agg [(M 1),(M 0),(M 0),(M 0),(M 2),(M 2)]),(.agg [(M 8),(M 0),(M 0),(M 0),(M 0),(M 2)]),l3] false)])] false)]
def l5:T:= .fg [(.agg [(M 0),(M 1),(M (.negSucc 0)),(M 0),(M (.negSucc 0)),ed,ed]),(.agg [(M 0),(M 20),(M 1),(M 0),(M 0),ed,ed]),(.agg [(M 0),(M 4),(M 0),(M 1),(M 1),ed,ed]),(.agg [(M 0),(M 2),(M (.negSucc 0)),(M 0),(M (.negSucc 0)),ed,ed]),(.agg [(M 1),(M 1),(M (.negSucc 0)),(M 0),(M (.negSucc 0)),ed,ed]),(.agg [(M 1),(M 4),(M 0),(M 2),(M 2),ed,ed]),(.agg [(M 1),(M 2),(M (.negSucc 0)),(M 0),(M (.negSucc 0)),ed,ed])] false
def l6:T:= .agg [(M 5),(M 0),(.bool false)]
def l7:T:= .agg [l1,ed,ed,ed,(.fg [(.str [116]),(.str [117])] false),l2,(M 0),ed,(M (.negSucc 0)),ed,(.fg [(.agg [(M 1),(M 0),(.bool false)]),(.agg [(M 0),(M 0),(.bool false)])] false),(.fg [(M 0)] false),ed,(.fg [(M 0),(M 0)] false),l5]
def l8:T:= .agg [(M 1),(M 2),(M 5),(M 0),(M 0),ed]
def l9:T:= .agg [(M 0),(M (.negSucc 0))]
def ft:aj->aa sg:=λa=>qs.find a
abbrev t0:yy:=[]
def p0:AG Tryz.prog cx t0:= .nil
def a0:List T:=[(.str [118,97,114,32,120,59,32,116,104,114,101,97,100,32,116,40,41,32,123,32,115,112,97,119,110,32,117,59,32,120,32,61,32,49,59,32,125,32,116,104,114,101,97,100,32,117,40,41,32,123,32,120,32,61,32,50,59,32,125])]
def r0:T:=(.tuple [l0,(M 0),(M 0)])
def aiy:zR ((35,[])::t0) ft 100000 35 a0 ⟨0,0,[]⟩=some (r0,⟨0,0,[]⟩):=em
abbrev es1:List (List T×T):=(a0,r0)::[]
abbrev t1:yy:=(35,es1)::t0
def p1:AG Tryz.prog cx t1:=AG.next K1 (AG.new (f:=35) p0) em aiy
def a1:List T:=[l0]
def r1:T:=(.tuple [l4,(M 0),(M 0)])
def aix:zR ((36,[])::t1) ft 100000 36 a1 ⟨0,0,[]⟩=some (r1,⟨0,0,[]⟩):=em
abbrev G8:List (List T×T):=(a1,r1)::[]
abbrev t2:yy:=(36,G8)::t1
def p2:AG Tryz.prog cx t2:=AG.next K1 (AG.new (f:=36) p1) em aix
def a2:List T:=[(.agg [l1,ed,ed,ed,(.fg [(.str [116]),(.str [117])] false),l2])]
def r2:T:=(.bool true)
def aiw:zR ((77,[])::t2) ft 100000 77 a2 ⟨0,0,[]⟩=some (r2,⟨0,0,[]⟩):=em
abbrev es3:List (List T×T):=(a2,r2)::[]
abbrev t3:yy:=(77,es3)::t2
def p3:AG Tryz.prog cx t3:=AG.next K1 (AG.new (f:=77) p2) em aiw
def a3:List T:=[l4]
def r3:T:=(.bool true)
def aiv:zR ((81,[])::t3) ft 100000 81 a3 ⟨0,0,[]⟩=some (r3,⟨0,0,[]⟩):=em
abbrev es4:List (List T×T):=(a3,r3)::[]
abbrev t4:yy:=(81,es4)::t3
def p4:AG Tryz.prog cx t4:=AG.next K1 (AG.new (f:=81) p3) em aiv
def a4:List T:=[l4,ed]
def r4:T:=(.tuple [(.agg [l1,ed,ed,ed,(.fg [(.str [116]),(.str [117])] false),l2,l5]),(.agg [ed,(M (.negSucc 0)),ed,(.fg [l6,l6] false),(.fg [(M 2)] false),ed,(.fg [(.agg [(M 3),(.fg [(M 1)] false),(.fg [ed] false),(M 4)]),(.agg [(M 2),(.fg [(M 2)] false),(.fg [ed] false),(M 3)])] false)])])
def aiu:zR ((37,[])::t4) ft 100000 37 a4 ⟨0,0,[]⟩=some (r4,⟨0,0,[]⟩):=em
abbrev es5:List (List T×T):=(a4,r4)::[]
abbrev t5:yy:=(37,es5)::t4
def p5:AG Tryz.prog cx t5:=AG.next K1 (AG.new (f:=37) p4) em aiu
def a5:List T:=[l7]
def r5:T:=(.fg [l8] false)
def ait:zR ((38,[])::t5) ft 100000 38 a5 ⟨0,0,[]⟩=some (r5,⟨0,0,[]⟩):=em
abbrev es6:List (List T×T):=(a5,r5)::[]
abbrev t6:yy:=(38,es6)::t5
def p6:AG Tryz.prog cx t6:=AG.next K1 (AG.new (f:=38) p5) em ait
def a6:List T:=[l7,l8]
def r6:T:=(.tuple [(.fg [l9,l9,(.agg [(M 1),(M (.negSucc 0))])] false),(.bool true)])
def ais:zR ((7,[])::t6) ft 100000 7 a6 ⟨0,0,[]⟩=some (r6,⟨0,0,[]⟩):=em
abbrev es7:List (List T×T):=(a6,r6)::[]
abbrev t7:yy:=(7,es7)::t6
def p7:AG Tryz.prog cx t7:=AG.next K1 (AG.new (f:=7) p6) em ais
def aiq:zR t7 ft 100000 5 [] ⟨0,0,[]⟩=some (.bool true,⟨0,0,[]⟩):=em
def Yj:qx Tryz.prog cx (zR t7 ft 100000):=Mo p7 K1 100000
def WP:ni Tryz.prog cx 5 [] (T.bool true):=E0 (nl _ em) (Yj _ _ _ _ _ aiq)
