/- W01f -/
import Derived.Test.YtalknpnbaceflaaGreatDoorA24
import Derived.Test.YtalknpnbaceflaaGreatDoorA18
set_option linter.all false
set_option maxRecDepth 100000
set_option maxHeartbeats 0
namespace Go.Proofs.YtalknpnbaceflaaGreatDoor
noncomputable section
open Go Go.TI Tryz
attribute [-simp] List.map_take List.map_drop List.map_append ij gG fK Bool.not_or Bool.not_and
attribute [simp] ig gJ
section
attribute [-simp] size_cons
def thT(a:List Nat×T×T):T:= .eZ [.str a.1,C 0,a.2.1,a.2.2]
def Wv(a:iJ):Prop:=a.locals.length<=10/\eQ.ws a.body<=100000/\∀b∈a.body,MS b
def PgV(c:Nat)(b:H)(a:Nat):Prop:=4<a/\a<c/\¬Fp b 2 a/\¬Fp b 3 a
def Pg(e:Nat)(b:H)(f:Nat):Prop:=∃h a,∃d:List (List Nat×T×T),∃c:List iJ,oJ b 3 2 h [(sl (yf.map jo.t),none),(a,some (4,d.map thT))]/\
 jw (FT b (PgV e b) 10) (d.map thT) (c.map iJ.t)/\c.length=f/\(∀g∈c,Wv g)/\(∀a,Fp b 3 a->a=3\/4<a)/\∀a,Fp b 3 a->¬Fp b 2 a
def Pg.step{f j:Nat}{b e:H}(r:Pg f b j)(c:Step 2 b e)(x:f<=b.size):Pg f e j:=by
 obtain⟨w,d,m,n,l,o,s,t,u,k⟩:=r;have⟨v,p⟩:=l.other k c;have h:e.get 3=b.get 3:=c.get 3 l.lt (k 3 (.inl rfl));refine⟨w,d,m,n,v,o.ft λg a=>⟨⟨a.1,a.2.1,λq=>?_,by rw[jJ h];exact a.2.2.2⟩,c.get g (by have:=a.2.1;omega) a.2.2.1⟩,s,t,λd i=>by rw[jJ h]at i;exact u d i,p⟩;rcases c.fp g q with q|q
 ·exact a.2.2.1 q
 ·have:=a.2.1;omega
def Pg.wide{c d e:Nat}{b:H}(j:Pg c b e)(o:c<=d):Pg d b e:=by
 obtain⟨m,i,f,g,l,h,k⟩:=j;exact⟨m,i,f,g,l,h.ft λn a=>⟨⟨a.1,by have:=a.2.1;omega,a.2.2⟩,rfl⟩,k⟩
def nms:List (List Nat):=[[109,97,105,110],[116,49],[116,50],[116,51]]
def FM:jK:=⟨1,0,0,true,false,nms.map T.str⟩
def HL:jK:=(X 2 0 [.eZ [dV,dV]])
structure RdM(L:List Int)(h:H)(i:Nat):Prop where
 k:Mk L 0 h 2 1
 pg:Pg h.size h i
 re:Lb 2 h 0 HL
 nm:Lb 2 h 4 FM
def Wa(i:List Int){c:H}(d:c=((((hE.cons HL).cons (X 2 0 [.eZ [sl (i.map (T.int .u8)),C 0]])).cons (X 8 0 [.eZ (u9 1 0 20 false false false false dV)])).cons (X 2 1 [.eZ [sl (yf.map jo.t),dV]]))):
 Mk i 0 c 2 1/\Pg 4 c 0/\Lb 2 c 0 HL/\c.size=4:=by
 have m:iQ 0 c:=by subst d;exact⟨G,G,G⟩
 have k:c.get 2=some (X 8 0 [.eZ (u9 1 0 20 false false false false dV)]):=by subst d;simp
 have f:∀a,Fp c 2 a->a=2\/a=1:=by
  rintro a (rfl|⟨p,g,o,l,b⟩)
  ·exact .inl rfl
  ·rw[k]at g;simp only[aw]at g;subst g;simp[iq,T.cells,u9]at l;rcases l with rfl|rfl|rfl|rfl|rfl|rfl|rfl|rfl<;>first|(have b:(none:aa Nat)=some a:=b;simp at b;done)|(have b:some 1=some a:=b;simp at b;exact .inr b.symm)
 have⟨n,j⟩:=oJ.start (h:=c) (w:=3) (szw:=2) (ver:=1) (F:=[(sl (yf.map jo.t),none),(dV,some (4,[]))]) m (by subst d;simp) G;refine⟨⟨m,λa e=>?_,⟨0,0,by subst d;simp,Int.le_refl _⟩,0,0,20,false,false,false,false,dV,[],k,Gr.nil _ _,rfl⟩,⟨1,dV,[],[],n,.nil,rfl,G,λa e=> .inl (j a e),λa e b=>?_⟩,⟨by subst d;simp[HL],λb=>?_⟩,by subst d;simp⟩
 ·have:=f a e;subst d;simp;omega
 ·have:=f a b;have:=j a e;omega
 ·have:=f 0 b;omega
def Qp(a:Int)(b:List Nat):eQ:=⟨a,0,b,[],[],⟨0,0,[],[]⟩,[],[]⟩
def Z3(a:Int)(b:List Nat):T:= .eZ [C a,C 0,.str b,.str [],dV,C 0,C 0,.str [],dV,dV,dV]
def YV{e:H}{c:Nat->Prop}(a:Int)(b:List Nat)(d:Nat):FT e c (d+2) (Z3 a b) (Qp a b).t:=
 .inr (.inr ⟨_,(Qp a b).cs,rfl,.cons (iO ..) (.cons (iO ..) (.cons (lz ..) (.cons (lz ..) (.cons (j9 ..) (.cons (iO ..) (.cons (iO ..) (.cons (lz ..) (.cons (j9 ..) (.cons (j9 ..) (.cons (j9 ..) .nil)))))))))),eQ.pJ _⟩)
def YU{k:Int}{nm:List Nat}(d:k=12\/k=13):MS (Qp k nm)/\(Qp k nm).w<=wd 2:=by
 refine⟨.mk (λa=>by unfold Qp at a;simp at a;omega) (λa=>by unfold Qp at a;simp at a;omega) (λc b=>by unfold Qp at b;simp at b) (λa=>by unfold Qp at a;simp at a;omega) (λc b=>by unfold Qp at b;simp at b) (λc b=>by unfold Qp at b;simp at b),?_⟩;rw[eQ.nd,fF.nd];unfold Qp wd;simp only[eQ.uR,eQ.NQ,eQ.xO,eQ.A1,eQ.jS,fF.jS,fF.I8];omega
def FT.stmt{i:H}{g:Nat->Prop}{d:Nat}{c:T}{f:eQ}(b:FT i g d c f.t):c.cells.length=11:=by
 cases d with
 |zero=>exact b.elim
 |succ d=>
  rw[f.pJ]at b;rcases b with⟨j,k,a⟩|⟨_,_,_,_,_,_,h,_,_,_,_,a⟩|⟨e,n,rfl,l,a⟩
  ·cases c<;>first|exact absurd rfl (k _)|(rw[pB]at a;rename_i m b;cases m<;>simp[sl]at a;done)|(simp at a;done)|(simp[kT]at j;done)
  ·cases h<;>simp[sl]at a
  ·simp only[T.eZ.injEq]at a;subst a;rw[show(T.eZ e).cells=e from rfl,l.length];rfl
structure Th(L:List Int)(hC:H)(nm:List Nat)(bl cnt:Nat)(h:H)(v:T)(ver:Nat)(l:List eQ):Prop where
 sv:SV (hC.size+1) h.size h 2 6 v l
 k:Mk L 0 h 2 1
 st:Step 2 hC h
 l8:Lb 2 h hC.size (X 4 ver [.eZ [.str nm,C 0,.arr bl 0 0 2 false,v]])
 ms:∀s∈l,MS s/\s.w<=wd 2
 len:l.length<=cnt
 z:2<hC.size
theorem Th.cons{d:List Int}{h g:H}{j:List Nat}{e f m:Nat}{l:T}{i:List eQ}(a:Th d h j e f g l m i)(c:jK):Th d h j e f (g.cons c) l m i:=by
 have b:=Step.cons a.k.ok a.k.lt c;exact⟨(a.sv.step b (ax _)).wide (ax _) G,a.k.cons c,a.st.trans b,a.l8.step b,a.ms,a.len,a.z⟩
def Th.step{c:List Int}{h g d:H}{j:List Nat}{e f l:Nat}{k:T}{i:List eQ}(a:Th c h j e f g k l i)(b:Step 2 g d)(m:Mk c 0 d 2 1):Th c h j e f d k l i:=
 ⟨(a.sv.step b (ax _)).wide (ax _) b.ok.sz,m,a.st.trans b,a.l8.step b,a.ms,a.len,a.z⟩
def Th.more{e:List Int}{i h:H}{j:List Nat}{f g m d:Nat}{c:T}{b:List eQ}(a:Th e i j f g h c d b)(l:g<=m):∃c d b,Th e i j f m h c d b:=⟨c,d,b,a.sv,a.k,a.st,a.l8,a.ms,aU a.len l,a.z⟩
def T1{Xq:List iJ}(hl:Xq.length<=4)(b:∀a∈Xq,Wv a):Q4 ⟨yf,Xq⟩:=by
 refine⟨⟨⟨by simp[yf],dS,λa ht=>⟨by have:=(b a ht).1;omega,by have:=(b a ht).2.1;omega⟩⟩,?_,λa ht=>(b a ht).2.2,7,by simp[yf],by simp[yf,uZ]⟩,by simp[yf],by simp[yf],⟨1,0,[113],2,0,[]⟩,by simp[yf],rfl,rfl⟩;have d:∀Xq:List iJ,(∀a∈Xq,Wv a)->sM Xq<=Xq.length*100000:=by
  intro Xq;induction Xq with
  |nil=>intro _;simp[sM]
  |cons e Xq c=>
   intro b;have f:=c λa ht=>b a (by simp[ht]);have g:=(b e G).2.1;unfold sM at*
   simp only[aO,List.sum_cons,aQ];omega
 have:=d Xq b;unfold sM at this;simp only;omega
def ZA{b:H}{a c:T}(i:SL a []\/∃d e h,a= .arr d e 0 h false)(f:qQ a=true)(g:b.j1 c=some []):jx cx b 190 190 a c=some (.val a b):=by
 unfold jx ql nD;rw[Cf,fw,fw];simp only[show Kh.u= .slice 227 from rfl,Ce,g,fw];show(iS (fits _ []) (kr (iS (qQ a) (some (a,b)))))=_;rw[f];rfl
def Th.app{o:List Int}{c f:H}{i:List Nat}{h p n m:Nat}{l x:T}{xs:List T}{r l2:List eQ}(b:Th o c i h p f l m r)(v:f.j1 x=some xs)(s:jw (FT f (Nw (c.size+1) f.size f 2 l) 8) xs (l2.map eQ.t))(O:∀j∈l2,MS j/\j.w<=wd 2)(ae:l2.length<=n)(ab:p+n<=1000):
 ∃e a,jx cx f 190 190 l x=some (.val e a)/\a.get c.size=f.get c.size/\e.jc=true/\e.cells=[e]/\Th o c i h (p+n) (fJ a c.size (X 4 (m+1) [.eZ [.str i,C 0,.arr h 0 0 2 false,e]])) e (m+1) (r++l2):=by
 have fin:∀e a,SV (c.size+1) a.size a 2 6 e (r++l2)->Mk o 0 a 2 1->Step 2 c a->Lb 2 a c.size (X 4 m [.eZ [.str i,C 0,.arr h 0 0 2 false,l]])->Th o c i h (p+n) (fJ a c.size (X 4 (m+1) [.eZ [.str i,C 0,.arr h 0 0 2 false,e]])) e (m+1) (r++l2):=λe a Q I R g=>
  ⟨by rw[iy];exact Q.qJ g (.inl (dx _)) _,I.qJ g _,Step.qJ I.ok g _ _ R (ax _),⟨(eG g.get _ _).trans (au rfl),by rw[jJ (show(fJ a c.size _).get 2=a.get 2 by rw[eG g.get,Z (bE g.ne)])];exact g.nf⟩,λj M=>(List.mem_append.1 M).elim (b.ms j) (O j),by rw[aV];have:=b.len;omega,b.z⟩
 by_cases E:xs=[]
 ·subst E;have:l2=[]:=by cases l2 with|nil=>rfl|cons=>cases s
  subst this;have⟨W,u,_⟩:=b.sv;refine⟨l,f,?_,rfl,u.jc,u.cells,fin l f (by rw[bG];exact b.sv) b.k b.st b.l8⟩;rcases u with⟨rfl,rfl⟩|⟨U,V,_,_,_,rfl,_⟩
  ·exact ZA (.inl (Yg _ _)) rfl v
  ·exact ZA (.inr ⟨_,_,_,rfl⟩) rfl v
 have J:∀q∈xs,q.cells.length=11:=λq K=>by
  have⟨y,L,N⟩:=s.Lf K;obtain⟨j,_,rfl⟩:=List.mem_map.1 L;exact FT.stmt (d:=8) N
 have⟨e,a,q,A,P,S,F⟩:=b.sv.app b.k (by have:=b.l8.lt;omega) (ax _) v s J E (by have:=b.len;omega);have D:=F c.size (dx _);refine⟨e,a,q,D,A.gc.1,A.gc.2,fin e a A P (S c b.st B) ⟨D.trans b.l8.get,?_⟩⟩;rw[jJ (F 2 (by have:=b.z;omega))];exact b.l8.nf
def afx{A:List Int}{K b d:H}{m:List Nat}{e ap P L i:Nat}{y O:T}{w:List eQ}{n:List (List Nat×T×T)}{l:List iJ}(g:Th A K m e 7 b y ap w)(ae:Lb 2 b 0 HL)(Z:Lb 2 b 4 FM)
 (o:Lb 2 b e (X 1 0 [.str [97],.str [98]])) (al:oJ d 3 2 P [(sl (yf.map jo.t),none),(O,some (4,(n++[(m,T.arr e 0 0 2 false,y)]).map thT))]) (f:Step 3 b d) (Q:jw (FT b (PgV i b) 10) (n.map thT) (l.map iJ.t)) (U:∀x∈l,Wv x)
 (E:∀a,Fp b 3 a->a=3\/4<a) (D:∀a,Fp b 3 a->¬Fp b 2 a) (aA:l.length=L) (R:∀a,Fp b 3 a->a<i\/a=3) (av:4<i) (aE:i<=K.size) (S:4<e/\i<=e):RdM A d (L+1):=by
 have aN:=g.l8.lt;have an:b.size<=d.size:=f.ok.sz;have ab:iQ 0 d:=⟨f.ok.hp,f.ok.low,ay _⟩;have I:∀a,Fp b 2 a->d.get a=b.get a:=λa c=>f.get a (g.k.fp a c) λq=>D a q c;have p:=I 2 (.inl rfl);have W:∀a,a<=4->a≠3->¬Fp b 3 a:=λa j h q=>(E a q).elim h λq=>by omega
 have N:∀a z,Lb 2 b a z->a<=4->a≠3->Lb 2 d a z:=λa z v j h=>⟨(f.get a v.lt (W a j h)).trans v.get,by rw[jJ p];exact v.nf⟩;have u:∀a,4<a->a<b.size->¬Fp b 2 a->¬Fp b 3 a->PgV d.size d a/\d.get a=b.get a:=λa j h J r=>⟨⟨j,B,by rw[jJ p];exact J,λq=>(f.fp a q).elim r λq=>by omega⟩,f.get a h r⟩;have F:∀a,Fp b 3 a->a<i\/a=3:=λa c=>R a c;refine⟨g.k.same ab an I,⟨P,O,n++[(m,T.arr e 0 0 2 false,y)],l++[⟨m,0,[[97],[98]],w⟩],al,?_,dR,λx ht=>?_,λa c=>?_,λa c q=>?_⟩,N 0 _ ae B B,N 4 _ Z B B⟩
 ·rw[List.map_append,List.map_append];refine jw.append (Q.ft λa c=>u a c.1 (by have:=c.2.1;omega) c.2.2.1 c.2.2.2) (.cons ?_ .nil);have M:=u e S.1 o.lt o.nf λq=>(F e q).elim (λq=>by omega) λq=>by omega
  refine .inr (.inr ⟨_,_,rfl,.cons (lz ..) (.cons (iO ..) (.cons (.inr (.inl ⟨e,0,0,2,false,[.str [97],.str [98]],[.str [97],.str [98]],rfl,M.1,?_,.cons (lz ..) (.cons (lz ..) .nil),rfl⟩)) (.cons (g.sv.ft.mono λa c=>u a (by have:=c.1;omega) c.2.1 c.2.2.1 λq=>(F a q).elim (λq=>by have:=c.1;omega) λq=>by have:=c.1;omega) .nil))),rfl⟩);rw[iR,M.2,o.get];simp
 ·rcases List.mem_append.1 ht with q|q
  ·exact U x q
  ·rw[List.mem_singleton.1 q];refine⟨G,?_,λs V=>(g.ms s V).1⟩;have j:=Be g.ms;have h:=g.len;have J:w.length*wd 2<=7*wd 2:=aY _ h;have r:wd 2=10000:=rfl;simp only;omega
 ·rcases f.fp a c with q|q
  ·exact E a q
  ·exact .inr B
 ·rw[jJ p]at q;rcases f.fp a c with k|k
  ·exact D a k q
  ·have:=g.k.fp a q;omega
def TO:pM prog cx 93 (λO:List Int=>[sl (O.map (T.int .u8))]) okB (λO r=>∃c4:iA,r=c4.t/\Q4 c4/\c4.ee.length<=100):=by
 refine Bg (tb:=⟨pt [(131,Fd),(134,MN),(133,QB),(111,kW.kc)],ht [(79,km Cv xp uJ),(132,rMs 11)]⟩) jv jl (jF 2535301804919368649890680801277 [(15,[(1,7),(1,9)])] func93) (λ_=>1000) (λa b g=>by simp at g;exact jV (λ_ _ g=>by simpa using g) g) G nl9 ?_;rintro O bN e eo;simp at eo;simp[f93,eo,Vc];generalize D:(((H.cons (H.cons hE _) _).cons _).cons _:H)=hd;obtain⟨cX,gw,gE,ha⟩:=Wa O D.symm;clear D;refine uW G cX.tp cX.ok B B bN λbT u ho t2 eH=>?_;obtain⟨bi,eN⟩:=cX.tape eH t2;have gy:=gw.step eN B;have e0:u.size=4:=eH.size.trans ha;have e6:binop .add (C 2) (C bT)=some (C ((2+bT:Nat):Int)):=by rw[jp B B];simp
 simp[e6,e0];have hv:2+bT<=4:=B;generalize cp:2+bT=n at*
 refine ik n B (λo e g=>RdM O g o/\Y e 2 (.fc 0 0 0 0)/\Y e 3 (.fc 2 0 0 0)/\Y e 4 (.fc 3 0 0 0)/\Y e 5 (C n)/\Y e 6 (.arr 4 0 0 4 false)/\Y e 7 (C o)) ?_ ?_ B ?_
 ·rintro o e g fE fl ⟨⟨bg,bW,bs,nm⟩,u,I,A,J,K,i⟩;obtain⟨bX,h,left,set,dd,b6,cL,eA,bS,F,a7,hl⟩:=bg.ex;obtain⟨aE,U⟩:=bg.set (th':=o) (left':=left) (se':=set) (tx':=dd) (at2:=b6) (lp':=cL) F a7 hl;have c1:=nm.step aE;have eF:=bs.step aE;simp only[u9]at F aE U c1 eF;have fv:o<4:=B;obtain⟨aA,fX⟩:∃s,nms[o]? =some s:=⟨nms[o]'(by show o<4;omega),aB (by show o<4;omega)⟩;simp[I,J,K,i,fE,F,fG];generalize fJ g 2 _=j at*
  have ea:=c1.get;unfold FM at ea;have fC:j.low<=j.size+1:=Nat.le_succ_of_le U.ok.low;simp[i,ea,fX,fv,fC];have hy:=U.lt;have c6:=Step.cons U.ok U.lt (X 1 0 [.str [97],.str [98]]);have bn:=U.cons (X 1 0 [.str [97],.str [98]]);have gg:=Lb.new U.lt U.fp (X 1 0 [.str [97],.str [98]]);have bu:=aE.trans c6;have W:Th O (j.cons (X 1 0 [.str [97],.str [98]])) aA j.size 0 ((j.cons (X 1 0 [.str [97],.str [98]])).cons (X 4 1 [.eZ [.str aA,C 0,.arr j.size 0 0 2 false,dV]])) dV 1 []:=
   ⟨SV.nil _ _ _ _ _,bn.cons _,Step.cons bn.ok bn.lt _,by simpa using Lb.new bn.lt bn.fp (X 4 1 [.eZ [.str aA,C 0,.arr j.size 0 0 2 false,dV]]),G,G,dR⟩
  have fs:j.size+1=(j.cons (X 1 0 [.str [97],.str [98]])).size:=rfl;simp only[fs];generalize hj:j.cons (X 1 0 [.str [97],.str [98]])=L at*
  refine lV (λe ae=>∃v bX l,Th O L aA j.size 3 ae v bX l/\Y e 2 (.fc 0 0 0 0)/\Y e 3 (.fc 2 0 0 0)/\Y e 4 (.fc 3 0 0 0)/\Y e 5 (C n)/\Y e 6 (.arr 4 0 0 4 false)/\Y e 7 (C o)/\Y e 8 (.fc L.size 0 0 0)) (λD=>?_) (λD=>?_) ?_
  ·simp;refine vh n (λk e ae=>1<=k/\(∃v bX l,Th O L aA j.size (k-1) ae v bX l/\Y e 2 (.fc 0 0 0 0)/\Y e 3 (.fc 2 0 0 0)/\Y e 4 (.fc 3 0 0 0)/\Y e 5 (C n)/\Y e 6 (.arr 4 0 0 4 false)/\Y e 7 (C o)/\Y e 8 (.fc L.size 0 0 0))/\Y e 9 (C k)) ?_ B (k:=1) B ⟨ax _,⟨_,_,_,W,by simp[u,I,A,J,K,i]⟩,G⟩;rintro k e ae hn ⟨fA,⟨v,eW,l,h,u,I,A,J,K,i,P⟩,ef⟩;have av:=h.l8.get;have gk:=(nm.step bu).step h.st;have eb:=gk.get;unfold FM at eb;have hs:decide ((k:Int)<n)=decide (k<n):=by rw[decide_eq_decide];omega
   simp[J,ef];refine fN (λD=>?_) (λD=>?_)
   ·have cp:k<n:=by simpa using D
    have fB:k<4:=B;obtain⟨bp,fW⟩:∃s,nms[k]? =some s:=⟨nms[k]'(by show k<4;omega),aB (by show k<4;omega)⟩;have bH:=h.cons (X 11 0 [Z3 12 bp]);obtain⟨eV,ca,S,gA,aN,aX,ab⟩:=bH.app (x:= .arr ae.size 0 0 1 false) (xs:=[Z3 12 bp]) (l2:=[Qp 12 bp]) (n:=1) (by rw[iR];simp) (.cons (YV 12 bp 6) .nil) (by simp[YU (k:=12) (nm:=bp) (.inl rfl)]) G B;have b9:=gA.trans bH.l8.get;have ed:(L.size=ae.size)=False:=by have:=h.l8.lt;simp;omega
    simp only[Z3]at S;simp[K,P,ef,eb,fW,fB,av,S,b9,fG,aN,aX];have fb:binop .add (C (k:Int)) (C 1)=some (C ((k+1:Nat):Int)):=by rw[jp B B];simp
    simp[u,I,A,J,K,i,P,fb];exact⟨k+1,B,B,B,⟨eV,_,_,by rw[show k+1-1=k-1+1 by omega];exact ab⟩,G⟩
   ·have cp:k=n:=by simp at D;omega
    subst cp;simp[u,I,A,J,K,i,P];exact⟨v,eW,l,h.sv,h.k,h.st,h.l8,h.ms,by have:=h.len;omega,h.z⟩
  ·simp[u,I,A,J,K,i];exact⟨_,_,_,W.sv,W.k,W.st,W.l8,W.ms,by have:=W.len;omega,W.z⟩
  ·rintro e ae ⟨v,eW,l,h,u,I,A,J,K,i,P⟩;have av:=h.l8.get;obtain⟨gX,th',left,gM,dd,b6,cL,eA,bS,F,a7,hl⟩:=h.k.ex;simp only[u9]at F;simp[I,P,av,F];clear F a7 hl;refine N3 G h.k.tp h.k.ok B B bN λa8 cb fA eU eI=>?_;obtain⟨eC,eO⟩:=h.k.tape eI eU;have bB:=h.step eO eC;have b7:binop .add (C 1) (C a8)=some (C ((1+a8:Nat):Int)):=by rw[jp B B];simp
   have gQ:=il (bB.l8.get.trans av.symm);simp[b7,gQ];refine mf (ah1 11) G ⟨O,2,1,0,2,1+a8⟩ ⟨⟨G,eC,bN,G,G,dS⟩,G⟩ ?_;rintro hF hE ⟨l2,bA,et,fS,eD,c7⟩;simp only at bA et fS eD c7;have c9:=bB.step c7 eD;obtain⟨hb,ds,dk,gD⟩:=bA;have hG:=bB.l8.lt;obtain⟨eV,ca,S,gA,aN,aX,ab⟩:=c9.app (n:=3) ds.j1 (dk.ft λc Q=>⟨⟨by have:=Q.1;omega,Q.2.1,Q.2.2.1,bB.sv.box (by have:=Q.1;omega)⟩,rfl⟩) et B B;have bA:=il (c9.l8.get.trans bB.l8.get.symm);have dv:=gA.trans c9.l8.get;have eR:=il gA;clear gA eI eO c7 eU dk ds gD;cases er:decide (o=0)
   case' false=>
    simp[A,i,P,S,dv,eR,bA,fG,aN,aX,er];generalize fJ ca L.size _=al at*
    obtain⟨de,eX,eB,N⟩:=ab.more (m:=7) B
   case' true=>
    simp[I,i,P,S,dv,eR,bA,fG,aN,aX,er];generalize fJ ca L.size _=al at*
    obtain⟨gX,th',left,gM,dd,b6,cL,eA,bS,F,a7,hl⟩:=ab.k.ex;simp only[u9]at F;simp[F];clear F a7 hl;refine uW G ab.k.tp ab.k.ok B B bN λgd cd hq gS gI=>?_;obtain⟨gi,gP⟩:=ab.k.tape gI gS;have bC:=ab.step gP gi;have ff:=bC.l8.get;have ey:=((nm.step bu).step bC.st).get;unfold FM at ey;simp;refine fN (λD=> ?gn) (λD=> ?gv)
    case' gv=>
     simp;generalize cd=al at*
     obtain⟨de,eX,eB,N⟩:=bC.more (m:=7) B
    case' gn=>
     have bH:=bC.cons (X 11 0 [Z3 13 [116,49]]);obtain⟨hC,fi,S,gA,aN,aX,gV⟩:=bH.app (x:= .arr cd.size 0 0 1 false) (xs:=[Z3 13 [116,49]]) (l2:=[Qp 13 [116,49]]) (n:=1) (by rw[iR];simp) (.cons (YV 13 [116,49] 6) .nil) (by simp[YU (k:=13) (nm:=[116,49]) (.inr rfl)]) G B;have b9:=gA.trans bH.l8.get;have ed:(L.size=cd.size)=False:=by have:=bC.l8.lt;simp;omega
     have fP:nms[1]? =some [116,49]:=rfl;simp only[Z3]at S;simp[A,K,P,ey,fP,ff,S,b9,fG,aN,aX];generalize fJ fi L.size _=al at*
     obtain⟨de,eX,eB,N⟩:=gV.more (m:=7) B
   all_goals
    have gz:=bW.step (bu.trans N.st) (ax _);have gF:=(eF.step c6).step N.st;have gm:=(c1.step c6).step N.st;have av:=N.l8.get;have e4:=gg.step N.st;obtain⟨gZ,dm,E,Xq,R,a6,eh,cF,b8,dn⟩:=gz;have ap:=R.get;simp at ap;have ed:(L.size=al.size)=False:=by have:=N.l8.lt;simp;omega
    have fe:∀c,Fp al 3 c->c<g.size:=λc Q=>by
     obtain⟨_,_,_,_,eL,_,_,_,_,e5⟩:=bW;have e7:al.get 3=g.get 3:=(bu.trans N.st).get 3 eL.lt (e5 3 (.inl rfl));rw[jJ e7]at Q;exact eL.fp c Q
    have hf:(3=al.size)=False:=by have:=R.lt;simp;omega
    have hg:E.length=o:=by have:=a6.length;simp at this;omega
    obtain⟨hD,hh,eT,di⟩:=(R.gr 1 rfl).m9 (cx:=cx) (f:=thT) R.ok XH rfl XD rfl G (λx=>rfl) (aA,.arr j.size 0 0 2 false,de) dR;obtain⟨eE,hB,gB⟩:=R.app 1 rfl di;obtain⟨eP,eM⟩:=gB _ rfl;simp at eE eP eM;simp only[thT]at eT;simp[u,I,A,J,K,i,P,ap,av,eT,eE,fG,di.1.jc,di.1.cells,fl];exact afx N gF gm e4 eM eP a6 cF b8 dn eh (λc Q=> .inl (fe c Q)) (by have:=nm.lt;omega) (by have:=bu.ok.sz;omega) ⟨by have:=nm.lt;have:=aE.ok.sz;omega,aE.ok.sz⟩
 ·rintro e g ⟨⟨bg,bW,bs,nm⟩,u,I,A,J,K,i⟩;obtain⟨gZ,dm,E,Xq,R,a6,eh,cF,b8,dn⟩:=bW;have ap:=R.get;simp at ap;have an:=bs.get;unfold HL at an;have cb:=T1 (Xq:=Xq) B cF;have e8:=(R.gr 1 rfl).LD (d:=10) B a6;have b7:=λ{tb:io} (ht:tb.p 111=some kW.kc)=>c04 ht ⟨yf,Xq⟩ cb.1;simp[A,J,i,ap,e8,b7];have gj:(0=g.size)=False:=by have:=bs.lt;simp;omega
  have ec:∀y,(fJ g 0 y).get 0=some y:=λy=>(eG an y 0).trans (au rfl);refine fN (λD=>?_) (λD=>?_)
  ·have a8:(g.size=g.size+1+1)=False:=by simp<;>omega
   have gd:(g.size+1=g.size+1+1)=False:=G;have hA:(g.size=g.size+1)=False:=G;simp[u,an,Vc,XZ,w7,gj,ec,fG,bs.lt,iR,AW,fk,a8];have fL:∀eS∈ [(⟨[109,97,105,110],0,[[97],[98]],[G7 [120] [] ⟨1,1,[],[]⟩]⟩:iJ)],Wv eS:=λeS ht=>by
    rw[List.mem_singleton.1 ht];have fY:(G7 [120] [] ⟨1,1,[],[]⟩).w<=wd 0:=PU (by rw[fF.jS];omega) (by rw[fF.nd];simp[fF.jS]);refine⟨G,?_,λs bS=>?_⟩
    ·simp only[eQ.lq,eQ.jS];unfold wd at fY;omega
    ·rw[List.mem_singleton.1 bS];exact GN G (.num 1) (λq=>absurd rfl q)
   exact⟨⟨⟨yf,[⟨[109,97,105,110],0,[[97],[98]],[G7 [120] [] ⟨1,1,[],[]⟩]⟩]⟩,rfl,T1 G fL,G⟩,bg.ok.hp⟩
  ·have l3:Lb 3 g 0 (X 2 0 [.eZ [dV,dV]]):=⟨an,λq=>(b8 0 q).elim B B⟩;have e9:=((R.qJ l3 (X 2 1 [.eZ [sl (yf.map jo.t),dm]])).gr 1 rfl).LD (d:=10) B (a6.ft (V':=λ_=>True) λb fo=>⟨trivial,by rw[eG an,Z (by have:=fo.1;omega)]⟩);simp[u,A,ap,an,fG,ec,e9];exact⟨⟨⟨yf,Xq⟩,rfl,cb,dS⟩,bg.ok.hp⟩
 ·have eK:=Step.cons bi.ok bi.lt FM;have eu:=Lb.new bi.lt bi.fp FM;rw[e0]at eu;simp;exact⟨⟨bi.cons _,(gy.step eK B).wide dR,(gE.step eN).step eK,eu⟩,B⟩
end
def H3:pM prog cx 47 (λa:List Int=>[sl (a.map (T.int .u8))]) (λa=>okB a/\a.length<=1000000) (λa w=>∃c:List iv,w=sl (c.map iv.t)/\c.length=a.length):=by
 refine jU [] (jF 285 [] func47) (λa=>a.length+5) (λx y b=>by simp at b;exact jV (λ_ _ b=>by simpa using b) b) ?_;rintro a ⟨⟨_,u⟩,A⟩ e o;simp at o;simp[f47];refine ik a.length B (λd e b=>∃g,∃c:List iv,Gr b g 2 (c.map iv.t)/\iQ 0 b/\c.length=d/\Y e 0 (sl (a.map (T.int .u8)))/\Y e 3 g/\Y e 4 (C d)) ?_ ?_ B ⟨dV,[],Gr.nil _ _,by exact⟨G,G,G⟩,rfl,by simp[o]⟩
 ·rintro d e b p v ⟨g,c,h,l,n,i,j,k⟩;have D:=u a[d] (aG p);have q: -9223372036854775808<=a[d]:=B;have r:a[d]<9223372036854775808:=B;have⟨E,z,s,m⟩:=h.m9 (cx:=cx) (f:=iv.t) l NW rfl NV rfl G (λ_=>rfl) (⟨a[d].tmod 4,IntKind.i64.wrap ((IntKind.i64.wrap (a[d].tdiv 4)).tmod 5-1)⟩:iv) dR;simp[i,j,k,p,s,v,q,r,D1 (show¬(4:Int)=0 by omega),aec (show¬(4:Int)=0 by omega),D1 (show¬(5:Int)=0 by omega),uf];exact⟨_,_,m.1,⟨m.2.2.2.hp,m.2.2.2.low,ay _⟩,dR,rfl⟩
 ·rintro e b ⟨g,c,h,l,n,i,j,k⟩;simp[i,j,k];exact⟨_,⟨c,rfl,n⟩,l.hp,by rw[NG g h.jc,h.rZ G]⟩
