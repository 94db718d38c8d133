/- Texts W07b to W01d. -/
import Derived.Test.YtmaeadedikngoaaGreatDoorA15
set_option linter.unusedVariables false
set_option linter.unusedSimpArgs false
set_option maxRecDepth 100000
set_option maxHeartbeats 8000000
namespace Go.Proofs.YtmaeadedikngoaaGreatDoor
noncomputable section
open Go Go.TI
attribute [-simp] List.map_take List.map_drop List.map_append fi ei dT Bool.not_or Bool.not_and
attribute [simp] fh ew
attribute [-simp] size_cons
abbrev fD(a:List Int):List T:=a.map (T.int .i64)
def XU(a:List Int):T:=sl (a.map (T.int .i64))
def Tv(e d:Nat)(b c:T)(a:Nat):Prop:=e<=a/\a<d/\dE b≠some a/\dE c≠some a
structure zo(lo hi:Nat)(h:H)(a b:T)(es:List T)(s:dK):Prop where
 ga:Gr h a 1 (fD s.iq)
 gb:Gr h b 1 es
 el:gG (λe l=>nz h 1 e (fD l)/\∀c,dE e=some c->Tv lo hi a b c) es s.jD
 ba:∀c,dE a=some c->lo<=c/\c<hi/\dE b≠some c
 bb:∀c,dE b=some c->lo<=c/\c<hi
def zU(a:dK)(b c:T):T:= .agg [.int .i64 a.pC,b,c,.int .i64 a.dw]
structure TSr(h:H)(a b:T)(es:List T)(s:dK):Prop where
 ra:nz h 1 a (fD s.iq)
 rb:nz h 1 b es
 el:gG (λe l=>nz h 1 e (fD l)) es s.jD
 lt:∀e c,(e=a\/e=b\/e∈es)->dE e=some c->c<h.size
structure ICp where
 (s:dK) (a b:T) (es:List T)
def Mh(c:ICp)(e:List T)(d:H):Prop:=e=[zU c.s c.a c.b]/\TSr d c.a c.b c.es c.s/\gh 0 d/\c.s.iq.length<=1000000/\c.s.jD.length<=1000000/\∀f∈c.s.jD,f.length<=1000000
def HJ(e:ICp)(h:List T)(d:H)(g:T)(a:H):Prop:=∃b c f,g=zU e.s b c/\zo d.size a.size a b c f e.s/\Nb d a
structure CpS(s:dK)(a b aN:T)(h h':H)(i:Nat):Prop where
 ex:∃ver c es',qY h' (h.size+1+1+1) 4 ver [(.int .i64 s.pC,none),(aN,some (1,fD s.iq)),(c,some (1,es')),(.int .i64 s.dw,none)]/\es'.length=i/\
  gG (λe l=>nz h' 1 e (fD l)/\∀k,dE e=some k->h.size+1<k/\k<h'.size/\¬Fp h' (h.size+1+1+1) k) es' (s.jD.take i)
 nb:Nb h h'
 l1:Lb (h.size+1+1+1) h' h.size ⟨4,0,0,true,false,[.agg [.int .i64 s.pC,a,b,.int .i64 s.dw]]⟩
 l2:Lb (h.size+1+1+1) h' (h.size+1) ⟨4,0,0,true,false,[.agg [.int .i64 0,.dq [] false,.dq [] false,.int .i64 0]]⟩
 lo:∀c,Fp h' (h.size+1+1+1) c->h.size+1<c
theorem FC:(jM ICp Mh HJ).Ok Tryz.prog cx 207:=by
 refine iU (tb:=⟨pt [],ht []⟩) dX dU (iN 262175 [(1,[(1,7),(3,7),(7,9)]),(5,[(1,8)])] Tryz.func207) (λ_ _=>1000005) (λC z h c7=>by obtain⟨rfl,_⟩:=c7;simp[Tryz.f207]) ?_
 rintro⟨b,z,l,R⟩ _ h ⟨rfl,v,bu,hr,dd,bp⟩ D L
 simp only at v hr dd bp
 simp[zU]at L
 have bv:=bu.hr
 have N:∀t a,(t=z\/t=l\/t∈R)->dE t=some a->a<h.size:=v.lt
 obtain⟨o,A⟩:∃o:H,o=((TI.hr h).cons ⟨4,0,0,true,false,[.agg [.int .i64 b.pC,z,l,.int .i64 b.dw]]⟩).cons ⟨4,0,0,true,false,[.agg [.int .i64 0,.dq [] false,.dq [] false,.int .i64 0]]⟩:=⟨_,rfl⟩
 have dm:gh 0 o:=by subst A;exact(bv.cons _).cons _
 have b7:o.size=h.size+1+1:=by subst A;rfl
 have bs:Nb (TI.hr h) o:=by subst A;exact((Nb.refl bv).cons _).cons _
 have ce:o.get h.size=some ⟨4,0,0,true,false,[.agg [.int .i64 b.pC,z,l,.int .i64 b.dw]]⟩:=by subst A;simp
 have cp:o.get (h.size+1)=some ⟨4,0,0,true,false,[.agg [.int .i64 0,.dq [] false,.dq [] false,.int .i64 0]]⟩:=by subst A;simp
 have dv:nz o 1 z (fD b.iq):=v.ra.mono λa c=>(bs.get a (N z a (.inl rfl) c)).trans (fU h a)
 obtain⟨ca,m,J,⟨eM,eu,gA⟩,W,r,s⟩:=kj (cx:=cx) dm oG rfl zl oG rfl rfl (by simp) dv.iy (by simp[T.cells]) (by simp;omega)
 simp[A]at J
 have eF:h.low<=h.size:=bu.low
 have P:∀l,l<o.size->dY (o.cons ⟨1,0,0,true,false,[]⟩) m l=true:=λl c1=>ee ((r l c1).trans (by rw[dH,ao (by omega)]))
 have b6:dY (o.cons ⟨1,0,0,true,false,[]⟩) m m.size=true:=jq (mZ _ (by simp;omega))
 rw[b7]at P
 replace P:=P h.size (by omega)
 rw[A]at P b6
 simp[Tryz.f207,L,J,P,b6]
 have aN:m.size=h.size+1+1+1:=by omega
 simp only[aN]
 generalize a8:T.arr (h.size+1+1) ca 0 b.iq.length false=n
 have gN:Gr m n 1 (fD b.iq):=by rw[<-a8];have:=Gr.new gA;rw[b7]at this;simpa using this
 have aX:∀a,dE n=some a->a=h.size+1+1:=λa c=>by rw[<-a8]at c;simp at c;exact c.symm
 have eI:gh 0 m:=s
 refine eQ b.jD.length (by omega) (λC D g=>CpS b z l n h g C/\TI.dt D 1=some (.ptr h.size 0 0 0)/\TI.dt D 2=some (.ptr (h.size+1) 0 0 0)/\TI.dt D 3=some (.ptr (h.size+1+1+1) 0 0 0)/\TI.dt D 4=some (.int .i64 C)) ?_ ?_ (by omega) ?_
 ·rintro C D g bn cX ⟨⟨⟨ver,a,E,e,bk,Q⟩,q,l1,l2,M⟩,m,Y,Z,ae⟩
  have G:=e.get
  simp at G
  have ea:∀x,nz (g.cons x) 1 l R:=λx=>v.rb.mono λa c=>by have:=N l a (.inr (.inl rfl)) c;rw[dH,ao (by have:=q.ok.sz;omega)];exact q.get a this
  have al:=v.el.length
  have an:=(show nz g 1 l R from v.rb.mono λa c=>q.get a (N l a (.inr (.inl rfl)) c)).len (cx:=cx) g Hl _ rfl
  obtain⟨u,hl⟩:∃u,b.jD[C]? =some u:=⟨_,aB bn⟩
  have c4:=az hl
  obtain⟨t,bi,bB⟩:=v.el.get hl
  have eb:nz g 1 t (fD u):=bB.mono λa c=>q.get a (N t a (.inr (.inr (az bi))) c)
  obtain⟨p,b8,b9⟩:=(ea ⟨1,0,0,true,false,[]⟩).idx (te:=m8) rfl rfl bi bB.fT.2
  have dn:gh 0 g:=e.ok
  obtain⟨a7,K,J,⟨eN,ey,gA⟩,W,r,s⟩:=kj (cx:=cx) dn jQ rfl mJ jQ rfl rfl (by simp) eb.iy (by simp[T.cells]) (by have:=bp u c4;simp;omega)
  have er:Step (h.size+1+1+1) g K:=(Nb.mk ⟨s.hp,s.low,by omega⟩ r:Nb g K).step e.lt
  have bN:=e.step s λa c=>r a (e.fp a c)
  obtain⟨et,eD,a6,aE⟩:=(bN.gr 2 rfl).uP (cx:=cx) s NW rfl jQ rfl (by simp) (x:= .arr g.size a7 0 (fD u).length false) rfl (by simp;omega)
  obtain⟨bz,eL,ds⟩:=bN.app 2 rfl aE
  obtain⟨O,bT⟩:=ds _ rfl
  simp at bz O bT
  simp[W]at J a6
  have eo:∀a,a<g.size->dY (g.cons ⟨1,0,0,true,false,[]⟩) K a=true:=λa c=>ee ((r a c).trans (by rw[dH,ao (by omega)]))
  have di:(h.size=g.size)=False:=by have:=l1.lt;simp;omega
  have eH:(h.size+1+1+1=g.size)=False:=by have:=e.lt;simp;omega
  have eh:=eo _ e.lt
  have eA:=(r _ e.lt).trans G
  simp[m,Y,Z,ae,l1.get,G,an,al,bn,b8,b9,J,W,a6,bz,di,eh,dG,aE.1.fT,aE.1.cells,cX]
  have y:=er.trans O
  have eE:=y.ok.sz
  have eC:K.size=g.size+1:=W
  refine⟨⟨_,et,E++[.arr g.size a7 0 u.length false],bT,by simp[bk],?_⟩,?_,l1.step y,l2.step y,λa c=> ?_⟩
  ·have c9:b.jD.take (C+1)=b.jD.take C++[u]:=by
    rw[List.take_add_one,hl];rfl
   rw[c9]
   refine gG.append (Q.imp λt u k=>⟨k.1.mono λd i=> ?_,λd i=> ?_⟩) (.cons ⟨.inr ?_,λd i=> ?_⟩ .nil)
   ·obtain⟨ap,S,I⟩:=k.2 d i
    exact y.get d S I
   ·obtain⟨ap,S,I⟩:=k.2 d i
    exact⟨ap,by omega,λf=>(y.fp d f).elim I λf=>by omega⟩
   ·have B:¬Fp K (h.size+1+1+1) g.size:=λf=>by
     rw[iH (r _ e.lt)]at f
     have:=e.fp _ f;omega
    have:=Gr.new ((O.get g.size (by omega) B).trans gA)
    simpa using this
   ·simp at i;subst i
    refine⟨by have:=l2.lt;omega,by have:=O.ok.sz;omega,λf=> ?_⟩
    rcases O.fp _ f with f|f
    ·rw[iH (r _ e.lt)]at f
     have:=e.fp _ f;omega
    ·omega
  ·refine⟨⟨y.ok.hp,y.ok.low,by have:=q.ok.sz;omega⟩,λa c=> ?_⟩
   exact(y.get a (by have:=q.ok.sz;omega) λf=>by have:=M a f;omega).trans (q.get a c)
  ·rcases y.fp a c with f|f
   ·exact M a f
   ·have:=l2.lt;omega
 ·rintro D g ⟨⟨⟨ver,a,E,e,bk,Q⟩,q,l1,l2,M⟩,m,Y,Z,ae⟩
  have G:=e.get
  simp at G
  have al:=v.el.length
  have an:=(show nz g 1 l R from v.rb.mono λa c=>q.get a (N l a (.inr (.inl rfl)) c)).len (cx:=cx) g Hl _ rfl
  rw[aQ]at Q
  have cL:∀V,(dI g (h.size+1) V).get (h.size+1)=some V:=λV=>(dy l2.get V _).trans (aq rfl)
  have U:=e.uf l2 ⟨4,0,1,true,false,[.agg [.int .i64 b.pC,n,a,.int .i64 b.dw]]⟩
  simp[m,Y,Z,ae,l1.get,l2.get,G,an,al,dG,cL]
  have bX:=U.step (U.ok.out h) λa _=>fj h _ a
  have c6:∀d,h.size+1<d->(dI g (h.size+1) ⟨4,0,1,true,false,[.agg [.int .i64 b.pC,n,a,.int .i64 b.dw]]⟩).get d=g.get d:=λd i=>by rw[dy l2.get,ao (by omega)]
  have eB:=e.gr 2 rfl
  have av:(n,some (1,fD b.iq))∈ [((.int .i64 b.pC:T),(none:aa (Nat×List T))),(n,some (1,fD b.iq)),(a,some (1,E)),(.int .i64 b.dw,none)]:=by simp
  have aA:(a,some (1,E))∈ [((.int .i64 b.pC:T),(none:aa (Nat×List T))),(n,some (1,fD b.iq)),(a,some (1,E)),(.int .i64 b.dw,none)]:=by simp
  refine⟨n,a,E,rfl,⟨bX.gr 1 rfl,bX.gr 2 rfl,Q.imp λt u k=>⟨k.1.mono λd i=> ?_,λd i=> ?_⟩,λd i=> ?_,λd i=> ?_⟩,⟨⟨(U.ok.out h).hp,(U.ok.out h).low,by simp;exact q.ok.sz⟩,λd i=> ?_⟩⟩
  ·rw[fj];exact c6 d (k.2 d i).1
  ·obtain⟨ap,S,I⟩:=k.2 d i
   exact⟨by omega,by simpa using S,λk=>I (e.Ij av k),λk=>I (e.Ij aA k)⟩
  ·have:=e.fp d (e.Ij av i)
   have:=M d (e.Ij av i)
   exact⟨by omega,by simpa,e.dis 1 2 (by decide) _ _ rfl rfl d i⟩
  ·have:=e.fp d (e.Ij aA i)
   have:=M d (e.Ij aA i)
   exact⟨by omega,by simpa⟩
  ·rw[fj,dy l2.get,ao (by omega)];exact q.get d i
 ·have de:m.low<=h.size+1+1+1:=by have:=s.low;omega
  have dk:Nb h m:=⟨⟨s.hp,s.low,by omega⟩,λa c=>(r a (by omega)).trans ((bs.get a c).trans (fU h a))⟩
  obtain⟨ef,cb⟩:=qY.one (i0:=1) (h:=m.cons ⟨4,0,1,true,false,[.agg [.int .i64 b.pC,n,.dq [] false,.int .i64 b.dw]]⟩) (w:=h.size+1+1+1) (szw:=4) (ver:=1) (F:=[(.int .i64 b.pC,none),(n,some (1,fD b.iq)),(.dq [] false,some (1,[])),(.int .i64 b.dw,none)]) (s.cons _) (by simp[aN]) (λf B=>by
   simp only[cv,df,or_false]at B
   rcases B with rfl|rfl|rfl|rfl
   ·show dE _=none;simp
   ·exact⟨gN.mono λa c=>by rw[aX a c,dH,ao (by omega)],show(1:Nat)≠4 by decide⟩
   ·exact⟨Gr.nil _ _,by decide⟩
   ·show dE _=none;simp) (λj z L k=>by
   rcases j with _|_|_|_|j<;>simp at L<;>subst L<;>simp at k|-)
  have X:∀a,Fp (m.cons ⟨4,0,1,true,false,[.agg [.int .i64 b.pC,n,.dq [] false,.int .i64 b.dw]]⟩) (h.size+1+1+1) a->h.size+1<a:=λa c=>by
   rcases cb a c with k|⟨f,B,k⟩
   ·omega
   ·simp at B;subst B;have:=aX a k;omega
  simp[aN,de]
  refine⟨⟨_,_,[],ef,rfl,.nil⟩,dk.cons _,⟨?_,λk=> ?_⟩,⟨?_,λk=> ?_⟩,X⟩
  ·rw[dH,ao (by omega)];exact(r h.size (by omega)).trans ce
  ·have:=X _ k;omega
  ·rw[dH,ao (by omega)];exact(r (h.size+1) (by omega)).trans cp
  ·have:=X _ k;omega
def QY(b c:H)(d:T)(e:List Int):Prop:=nz c 1 d (fD e)/\Nb b c/\∀a,dE d=some a->b.size<=a
structure IUn where
 (x y:List Int) (u v:T)
def Mb(a:IUn)(c:List T)(b:H):Prop:=c=[a.u,a.v]/\nz b 1 a.u (fD a.x)/\nz b 1 a.v (fD a.y)/\a.x.length+a.y.length<=10000000/\gh 0 b
def HF(a:IUn)(e:List T)(b:H)(d:T)(c:H):Prop:=QY b c d (xZ a.x a.y)
def Pl(b:T)(a:List Int):Prop:=(b= .dq [] false/\a=[])\/b=sl (fD a)
theorem Pl.pq{a:T}{b:List Int}(d:Pl a b)(c:H):pq c a=some (sl (fD b))/\jv a=true/\a.fT=true:=by
 rcases d with⟨rfl,rfl⟩|rfl<;>simp
theorem Pl.rd{a:T}{b:List Int}(d:Pl a b)(c:H):nz c 1 a (fD b)/\dE a=none:=by
 rcases d with⟨rfl,rfl⟩|rfl
 ·exact⟨.inr (Gr.nil _ _),rfl⟩
 ·exact⟨.inl rfl,by simp⟩
theorem Fj:(jM IUn Mb HF).Ok Tryz.prog cx 155:=by
 refine iU (tb:=⟨pt [(202,Fa)],ht []⟩) dX dU (iN 8390899 [] Tryz.func155) (λ_ _=>10000005) (λi N b K=>by obtain⟨rfl,_⟩:=K;simp[Tryz.f155]) ?_
 rintro⟨x,g,H,A⟩ _ b ⟨rfl,D,F,hl,L⟩ c B
 simp only at D F hl
 simp at B
 obtain⟨k,d⟩:=B
 have E:nz (hr b) 1 H (fD x):=D.mono λl _=>fU b l
 have G:nz (hr b) 1 A (fD g):=F.mono λl _=>fU b l
 have y:=E.len (cx:=cx) (hr b) m8 _ rfl
 have z:=G.len (cx:=cx) (hr b) m8 _ rfl
 rw[aH]at y z
 simp[Tryz.f155]
 refine eQ x.length (by omega) (λa c s=>s=hr b/\TI.dt c 0=some H/\TI.dt c 1=some A/\TI.dt c 6=some (.int .i64 a)/\∃f,TI.dt c 5=some f/\Pl f (kU [] (x.take a))) ?_ ?_ (by omega) (by simp[k,d];exact .inl ⟨rfl,rfl⟩)
 ·rintro a c _ j v ⟨rfl,k,d,t,f,h,e⟩
  obtain⟨M,m,n⟩:=E.idx (te:=Dj) rfl rfl (i:=a) (x:= .int .i64 x[a]) (by simp[j]) rfl
  have w:=wC [] (x.take a)
  simp at w
  obtain⟨q,r,I⟩:=e.pq (hr b)
  have o:=λ{tb:eG} (ht:tb.p 202=some Fa)=>aab ht (kU [] (x.take a)) x[a] (by omega)
  simp[k,d,h,t,y,j,v,m,n,q,r,o,y8 [] x j]
  exact .inr rfl
 ·rintro c _ ⟨rfl,k,d,t,f,h,e⟩
  rw[aQ]at e
  simp[k,t,y]
  refine eQ g.length (by omega) (λa c s=>s=hr b/\TI.dt c 1=some A/\TI.dt c 7=some (.int .i64 a)/\∃f,TI.dt c 5=some f/\Pl f (kU (kU [] x) (g.take a))) ?_ ?_ (by omega) (by simp[d,h];exact e)
  ·rintro a c _ j v ⟨rfl,d,u,f,h,e⟩
   obtain⟨M,m,n⟩:=G.idx (te:=Dj) rfl rfl (i:=a) (x:= .int .i64 g[a]) (by simp[j]) rfl
   have w:=wC (kU [] x) (g.take a)
   have J:=wC [] x
   simp at w J
   obtain⟨q,r,I⟩:=e.pq (hr b)
   have o:=λ{tb:eG} (ht:tb.p 202=some Fa)=>aab ht (kU (kU [] x) (g.take a)) g[a] (by omega)
   simp[d,h,u,z,j,v,m,n,q,r,o,y8 (kU [] x) g j]
   exact .inr rfl
  ·rintro c _ ⟨rfl,d,u,f,h,e⟩
   rw[aQ]at e
   simp[d,h,u,z]
   obtain⟨r1,r2⟩:=e.rd (kV b (hr b))
   exact⟨r1,(Nb.refl L.hr).out,λl C=>by rw[r2]at C;simp at C⟩
end
noncomputable section
open Go Go.TI
inductive dC where
 |mk (op n:Int) (name:List Nat) (l:List dC)
instance :Inhabited dC:=⟨⟨0,0,[],[]⟩⟩
def dC.op:dC->Int|⟨a,_,_,_⟩=>a
def dC.n:dC->Int|⟨_,a,_,_⟩=>a
def dC.name:dC->List Nat|⟨_,_,a,_⟩=>a
def dC.l:dC->List dC|⟨_,_,_,a⟩=>a
@[simp] theorem dC.ux (a b:Int) (c:List Nat) (d:List dC):(dC.mk a b c d).op=a:=id rfl
@[simp] theorem dC.DE (a b:Int) (c:List Nat) (d:List dC):(dC.mk a b c d).n=b:=id rfl
@[simp] theorem dC.nQ (a b:Int) (c:List Nat) (d:List dC):(dC.mk a b c d).name=c:=id rfl
@[simp] theorem dC.DI (a b:Int) (c:List Nat) (d:List dC):(dC.mk a b c d).l=d:=id rfl
theorem dC.lt{e c:dC}(h:c∈e.l):SizeOf.sizeOf c<SizeOf.sizeOf e:=by
 cases e with
 |mk n k m j=>have:=List.sizeOf_lt_of_mem (show c∈j from h);simp;omega
mutual
def dC.t:dC->T
 |⟨a,b,c,j⟩=> .agg [.int .i64 a,.int .i64 b,.str c,sl (dC.ts j)]
def dC.ts:List dC->List T
 | []=>[]
 |x::j=>x.t::dC.ts j
end
theorem dC.Cx:∀j:List dC,dC.ts j=j.map dC.t
 | []=>by rw[dC.ts];rfl
 |x::k=>by rw[dC.ts,dC.Cx k];rfl
theorem dC.mK(x:dC):x.t= .agg [.int .i64 x.op,.int .i64 x.n,.str x.name,sl (x.l.map dC.t)]:=by
 cases x;rw[dC.t,dC.Cx];rfl
theorem uA{l k:Type}{f:l->k}{g:k->k}{j:List l}(h:∀x∈j,g (f x)=f x):(j.map f).map g=j.map f:=by
 rw[cG];exact List.map_congr_left h
theorem oZ{m r:Type}{f:m->r}:∀{k j:List m},(∀a∈k,∀b,f a=f b->a=b)->k.map f=j.map f->k=j:=by
 intro k
 induction k with
 |nil=>intro j _ h;cases j<;>simp at h;rfl
 |cons x k p=>
  intro j l h
  cases j with
  |nil=>simp at h
  |cons q j=>
   simp only[aU,aK]at h
   rw[l x (by simp) q h.1,p (λa n b o=>l a (by simp[n]) b o) h.2]
theorem sJ{k:Type}{f:k->T}{j:List k}(h:∀x∈j,mn (f x)=true):lQ (j.map f)=true:=by
 induction j with
 |nil=>simp
 |cons x j m=>simp[h x (by simp),m λn l=>h n (by simp[l])]
section
variable (x:dC)(h:H)(d:Nat)
@[simp] theorem dC.QD:x.t.cells=[.int .i64 x.op,.int .i64 x.n,.str x.name,sl (x.l.map dC.t)]:=by rw[dC.mK];rfl
@[simp] theorem dC.Z4:Ez x.t=4:=by rw[dC.mK];rfl
@[simp] theorem dC.UE:x.t.fT=true:=by rw[dC.mK];rfl
theorem dC.N3:∀(j:Nat) (x:dC),SizeOf.sizeOf x<=j->cn x.t=x.t:=by
 intro j
 induction j with
 |zero=>intro x k;cases x;simp at k
 |succ j m=>
  intro x k
  rw[dC.mK]
  simp only[jt,aU,cz,EC,EB,JK]
  rw[uA λc l=>m c (by have:=dC.lt l;omega)]
@[simp] theorem dC.U7:cn x.t=x.t:=dC.N3 _ x (au _)
@[simp] theorem dC.ZJ:pq h x.t=some x.t:=by rw[dC.mK];simp
@[simp] theorem dC.ZO:vC h (d+2) x.t=some x.t:=by rw[dC.mK];simp
@[simp] theorem dC.TE:jv x.t=true:=by rw[dC.mK];simp
theorem dC.H4:∀(j:Nat) (x:dC),SizeOf.sizeOf x<=j->mn x.t=true:=by
 intro j
 induction j with
 |zero=>intro x k;cases x;simp at k
 |succ j m=>
  intro x k
  rw[dC.mK]
  simp only[FM,A7,FL,FK,Jr,CU]
  rw[sJ λc l=>m c (by have:=dC.lt l;omega)];rfl
@[simp] theorem dC.Nt:mn x.t=true:=dC.H4 _ x (au _)
end
theorem dC.UC:∀(l:Nat) (x j:dC),SizeOf.sizeOf x<=l->x.t=j.t->x=j:=by
 intro l
 induction l with
 |zero=>intro x j p;cases x;simp at p
 |succ l s=>
  intro x j p h
  rw[x.mK,j.mK]at h
  simp only[T.agg.injEq,aK,T.int.injEq,T.str.injEq,true_and,and_true]at h
  obtain⟨m,n,o,k⟩:=h
  have k:=oZ (λa q b r=>s a b (by have:=dC.lt q;omega) r) (x6 k)
  obtain⟨a,b,c,d⟩:=x
  obtain⟨u,v,w,y⟩:=j
  simp only[dC.ux,dC.DE,dC.nQ,dC.DI]at m n o k
  rw[m,n,o,k]
theorem dC.inj{x j:dC}(h:x.t=j.t):x=j:=dC.UC _ x j (au _) h
@[simp] theorem dC.fold (a b:Int) (c:List Nat) (j:List dC):T.agg [.int .i64 a,.int .i64 b,.str c,sl (j.map dC.t)]=(dC.mk a b c j).t:=by rw[dC.mK];rfl
@[simp] theorem dC.eta (x:dC):dC.mk x.op x.n x.name x.l=x:=by cases x;rfl
inductive du where
 |mk (op tK:Int) (name arg:List Nat) (index:List dC) (e:dC) (body K8:List du)
instance :Inhabited du:=⟨⟨0,0,[],[],[],default,[],[]⟩⟩
def du.op:du->Int|⟨a,_,_,_,_,_,_,_⟩=>a
def du.tK:du->Int|⟨_,a,_,_,_,_,_,_⟩=>a
def du.name:du->List Nat|⟨_,_,a,_,_,_,_,_⟩=>a
def du.arg:du->List Nat|⟨_,_,_,a,_,_,_,_⟩=>a
def du.index:du->List dC|⟨_,_,_,_,a,_,_,_⟩=>a
def du.e:du->dC|⟨_,_,_,_,_,a,_,_⟩=>a
def du.body:du->List du|⟨_,_,_,_,_,_,a,_⟩=>a
def du.K8:du->List du|⟨_,_,_,_,_,_,_,a⟩=>a
section
variable (a b:Int)(c d:List Nat)(i:List dC)(e:dC)(f g:List du)
@[simp] theorem du.ux:(du.mk a b c d i e f g).op=a:=id rfl
@[simp] theorem du.P4:(du.mk a b c d i e f g).tK=b:=id rfl
@[simp] theorem du.nQ:(du.mk a b c d i e f g).name=c:=id rfl
@[simp] theorem du.Vy:(du.mk a b c d i e f g).arg=d:=id rfl
@[simp] theorem du.qM:(du.mk a b c d i e f g).index=i:=id rfl
@[simp] theorem du.Iq:(du.mk a b c d i e f g).e=e:=id rfl
@[simp] theorem du.tT:(du.mk a b c d i e f g).body=f:=id rfl
@[simp] theorem du.wQ:(du.mk a b c d i e f g).K8=g:=id rfl
end
theorem du.ltB{j c:du}(h:c∈j.body):SizeOf.sizeOf c<SizeOf.sizeOf j:=by
 cases j with
 |mk a b k d i e f g=>have:=List.sizeOf_lt_of_mem (show c∈f from h);simp;omega
theorem du.ltE{j c:du}(h:c∈j.K8):SizeOf.sizeOf c<SizeOf.sizeOf j:=by
 cases j with
 |mk a b k d i e f g=>have:=List.sizeOf_lt_of_mem (show c∈g from h);simp;omega
mutual
def du.t:du->T
 |⟨a,b,c,d,i,e,f,g⟩=> .agg [.int .i64 a,.int .i64 b,.str c,.str d,sl (i.map dC.t),.int .i64 e.op,.int .i64 e.n,.str e.name,sl (e.l.map dC.t),sl (du.ts f),sl (du.ts g)]
def du.ts:List du->List T
 | []=>[]
 |x::j=>x.t::du.ts j
end
theorem du.Cx:∀j:List du,du.ts j=j.map du.t
 | []=>by rw[du.ts];rfl
 |x::k=>by rw[du.ts,du.Cx k];rfl
def du.cs(x:du):List T:=[.int .i64 x.op,.int .i64 x.tK,.str x.name,.str x.arg,sl (x.index.map dC.t),.int .i64 x.e.op,.int .i64 x.e.n,.str x.e.name,sl (x.e.l.map dC.t),sl (x.body.map du.t),sl (x.K8.map du.t)]
theorem du.mK(x:du):x.t= .agg x.cs:=by
 cases x;rw[du.t,du.Cx,du.Cx];rfl
section
variable (x:du)(h:H)(d:Nat)
@[simp] theorem du.QD:x.t.cells=[.int .i64 x.op,.int .i64 x.tK,.str x.name,.str x.arg,sl (x.index.map dC.t),.int .i64 x.e.op,.int .i64 x.e.n,.str x.e.name,sl (x.e.l.map dC.t),sl (x.body.map du.t),sl (x.K8.map du.t)]:=by rw[du.mK];rfl
@[simp] theorem du.Z4:Ez x.t=11:=by rw[du.mK];rfl
@[simp] theorem du.UE:x.t.fT=true:=by rw[du.mK];rfl
theorem du.N3:∀(j:Nat) (x:du),SizeOf.sizeOf x<=j->cn x.t=x.t:=by
 intro j
 induction j with
 |zero=>intro x l;cases x;simp at l
 |succ j m=>
  intro x l
  rw[du.mK]
  unfold du.cs
  simp only[jt,aU,cz,EC,EB,JK]
  rw[uA λc k=>m c (by have:=du.ltB k;omega),uA λc k=>m c (by have:=du.ltE k;omega),uA λc _=>dC.U7 c,uA λc _=>dC.U7 c]
@[simp] theorem du.U7:cn x.t=x.t:=du.N3 _ x (au _)
@[simp] theorem du.ZJ:pq h x.t=some x.t:=by rw[du.mK];unfold du.cs;simp
@[simp] theorem du.ZO:vC h (d+2) x.t=some x.t:=by rw[du.mK];unfold du.cs;simp
@[simp] theorem du.TE:jv x.t=true:=by rw[du.mK];unfold du.cs;simp
theorem du.H4:∀(j:Nat) (x:du),SizeOf.sizeOf x<=j->mn x.t=true:=by
 intro j
 induction j with
 |zero=>intro x l;cases x;simp at l
 |succ j m=>
  intro x l
  rw[du.mK]
  unfold du.cs
  simp only[FM,A7,FL,FK,Jr,CU]
  rw[sJ λc k=>m c (by have:=du.ltB k;omega),sJ λc k=>m c (by have:=du.ltE k;omega),sJ λc _=>dC.Nt c,sJ λc _=>dC.Nt c];rfl
@[simp] theorem du.Nt:mn x.t=true:=du.H4 _ x (au _)
end
theorem du.UC:∀(p:Nat) (x k:du),SizeOf.sizeOf x<=p->x.t=k.t->x=k:=by
 intro p
 induction p with
 |zero=>intro x k B;cases x;simp at B
 |succ p C=>
  intro x k B h
  rw[x.mK,k.mK]at h
  unfold du.cs at h
  simp only[T.agg.injEq,aK,T.int.injEq,T.str.injEq,true_and,and_true]at h
  obtain⟨w,y,z,A,n,q,r,s,l,o,m⟩:=h
  have n:=oZ (λa _ b j=>dC.inj j) (x6 n)
  have l:=oZ (λa _ b j=>dC.inj j) (x6 l)
  have o:=oZ (λa u b j=>C a b (by have:=du.ltB u;omega) j) (x6 o)
  have m:=oZ (λa u b j=>C a b (by have:=du.ltE u;omega) j) (x6 m)
  obtain⟨a,b,c,d,i,e,f,g⟩:=x
  obtain⟨E,F,G,I,L,v,J,K⟩:=k
  simp only[du.ux,du.P4,du.nQ,du.Vy,du.qM,du.Iq,du.tT,du.wQ]at w y z A n q r s l o m
  have D:e=v:=by
   obtain⟨M,O,Q,S⟩:=e
   obtain⟨N,P,R,U⟩:=v
   simp only[dC.ux,dC.DE,dC.nQ,dC.DI]at q r s l
   rw[q,r,s,l]
  rw[w,y,z,A,n,D,o,m]
theorem du.inj{x j:du}(h:x.t=j.t):x=j:=du.UC _ x j (au _) h
@[simp] theorem du.fold (a b:Int) (c e:List Nat) (i:List dC) (m l:Int) (k:List Nat) (j:List dC) (f g:List du):T.agg [.int .i64 a,.int .i64 b,.str c,.str e,sl (i.map dC.t),.int .i64 m,.int .i64 l,.str k,sl (j.map dC.t),sl (f.map du.t),sl (g.map du.t)]=(du.mk a b c e i ⟨m,l,k,j⟩ f g).t:=by rw[du.mK];rfl
@[simp] theorem du.eta (x:du):du.mk x.op x.tK x.name x.arg x.index x.e x.body x.K8=x:=by cases x;rfl
end
noncomputable section
open Go Go.TI
structure eY where
 name:List Nat
 tK:Int
 locals:List (List Nat)
 body:List du
 deriving Inhabited
def eY.cs(a:eY):List T:=[.str a.name,.int .i64 a.tK,sl (a.locals.map T.str),sl (a.body.map du.t)]
def eY.t(a:eY):T:= .agg a.cs
@[simp] theorem eY.ag (a:eY):qW a.t [.str a.name,.int .i64 a.tK,sl (a.locals.map T.str),sl (a.body.map du.t)] 4:=by
 unfold eY.t eY.cs;exact⟨rfl,rfl,λ_ _=>rfl,rfl,by simp[jt],λ_=>by simp,λ_ _=>by simp,by simp,by simp⟩
@[simp] theorem eY.fold (a0:List Nat) (a1:Int) (a2:List (List Nat)) (a3:List du):T.agg [.str a0,.int .i64 a1,sl (a2.map T.str),sl (a3.map du.t)]=eY.t ⟨a0,a1,a2,a3⟩:=rfl
@[simp] theorem eY.eta (a:eY):eY.mk a.name a.tK a.locals a.body=a:=rfl
theorem eY.inj{a b:eY}(c:a.t=b.t):a=b:=by
 rcases a with⟨_,_,_,_⟩;rcases b with⟨_,_,_,_⟩;simp only[eY.t,eY.cs,T.agg.injEq,aK]at c
 obtain⟨d,e,f,g,_⟩:=c
 obtain rfl:=ma d;obtain rfl:=f7 e;obtain rfl:=gF (λ_ _=>ma) _ _ f;obtain rfl:=gF (λ_ _=>du.inj) _ _ g;rfl
structure ez where
 iP:List f6
 dp:List eY
 deriving Inhabited
def ez.cs(a:ez):List T:=[sl (a.iP.map f6.t),sl (a.dp.map eY.t)]
def ez.t(a:ez):T:= .agg a.cs
@[simp] theorem ez.ag (a:ez):qW a.t [sl (a.iP.map f6.t),sl (a.dp.map eY.t)] 2:=by
 unfold ez.t ez.cs;exact⟨rfl,rfl,λ_ _=>rfl,rfl,by simp[jt],λ_=>by simp,λ_ _=>by simp,by simp,by simp⟩
@[simp] theorem ez.fold (a0:List f6) (a1:List eY):T.agg [sl (a0.map f6.t),sl (a1.map eY.t)]=ez.t ⟨a0,a1⟩:=rfl
@[simp] theorem ez.eta (a:ez):ez.mk a.iP a.dp=a:=rfl
theorem ez.inj{a b:ez}(c:a.t=b.t):a=b:=by
 rcases a with⟨_,_⟩;rcases b with⟨_,_⟩;simp only[ez.t,ez.cs,T.agg.injEq,aK]at c
 obtain⟨d,e,_⟩:=c
 obtain rfl:=gF (λ_ _=>f6.inj) _ _ d;obtain rfl:=gF (λ_ _=>eY.inj) _ _ e;rfl
mutual
def dC.w:dC->Nat
 |⟨_,_,_,a⟩=>1+dC.ws a
def dC.ws:List dC->Nat
 | []=>0
 |x::a=>x.w+dC.ws a
end
theorem dC.kJ(a:dC):a.w=1+dC.ws a.l:=by cases a;rw[dC.w];rfl
theorem dC.il:dC.ws []=0:=by rw[dC.ws]
theorem dC.jA(b:dC)(a:List dC):dC.ws (b::a)=b.w+dC.ws a:=by rw[dC.ws]
theorem dC.uk{b:dC}{a:List dC}(h:b∈a):b.w<=dC.ws a:=by
 induction a with
 |nil=>simp at h
 |cons d a c=>
  rw[dC.jA]
  rcases List.mem_cons.1 h with rfl|h
  ·omega
  ·have:=c h;omega
theorem dC.tM{l:List dC}:l.length<=dC.ws l:=by
 induction l with
 |nil=>simp
 |cons a l b=>rw[dC.jA,aZ,a.kJ];omega
mutual
def du.w:du->Nat
 |⟨_,_,_,_,c,b,a,d⟩=>4+dC.ws c+b.w+du.ws a+du.ws d
def du.ws:List du->Nat
 | []=>0
 |x::a=>x.w+du.ws a
end
theorem du.kJ(a:du):a.w=4+dC.ws a.index+a.e.w+du.ws a.body+du.ws a.K8:=by cases a;rw[du.w];rfl
theorem du.il:du.ws []=0:=by rw[du.ws]
theorem du.jA(b:du)(a:List du):du.ws (b::a)=b.w+du.ws a:=by rw[du.ws]
theorem du.Hf(a b:List du):du.ws (a++b)=du.ws a+du.ws b:=by
 induction a with
 |nil=>rw[cy,du.il];omega
 |cons d a c=>rw[cB,du.jA,du.jA,c];omega
theorem du.uk{b:du}{a:List du}(h:b∈a):b.w<=du.ws a:=by
 induction a with
 |nil=>simp at h
 |cons d a c=>
  rw[du.jA]
  rcases List.mem_cons.1 h with rfl|h
  ·omega
  ·have:=c h;omega
theorem du.tM{l:List du}:l.length<=du.ws l:=by
 induction l with
 |nil=>simp
 |cons a l b=>rw[du.jA,aZ,a.kJ];omega
inductive ME:dC->Prop
 |num (n:Int):ME ⟨1,n,[],[]⟩
 |nm (s:List Nat):ME ⟨2,0,s,[]⟩
 |ix {a:dC} (h:ME a):ME ⟨3,0,[113],[a]⟩
 |bin {k:Int} {a b:dC} (hk:6<=k) (ha:ME a) (hb:ME b):ME ⟨k,0,[],[a,b]⟩
inductive MS:du->Prop
 |mk {s:du} (c:9<=s.op/\s.op<=11->s.name=[99]) (q:s.op=1->s.index≠ []->s.name=[113]) (i:∀x∈s.index,ME x) (e:s.op=1\/s.op=2\/s.op=3\/s.op=14->ME s.e) (b:∀c∈s.body,MS c) (l:∀c∈s.K8,MS c):MS s
theorem MS.cond{a:du}(b:MS a):9<=a.op/\a.op<=11->a.name=[99]:=by cases b;assumption
theorem MS.arr{a:du}(b:MS a):a.op=1->a.index≠ []->a.name=[113]:=by cases b;assumption
theorem MS.ind{a:du}(b:MS a):∀c∈a.index,ME c:=by cases b;assumption
theorem MS.ex{a:du}(b:MS a):a.op=1\/a.op=2\/a.op=3\/a.op=14->ME a.e:=by cases b;assumption
theorem MS.bd{a:du}(c:MS a):∀b∈a.body,MS b:=by cases c;assumption
theorem MS.el{a:du}(c:MS a):∀b∈a.K8,MS b:=by cases c;assumption
theorem du.Dh(b:List du){a:Nat}(c:a<b.length):du.ws (b.take (a+1))=du.ws (b.take a)+b[a].w:=by
 rw[bj c,du.Hf,du.jA,du.il];rfl
theorem du.wm(a:List du)(b:Nat):du.ws (a.take b)<=du.ws a:=by
 conv=>rhs;rw[<-cK b a]
 rw[du.Hf];omega
def allI{b:Type}(a:Nat->b->Bool):Nat->List b->Bool
 |_,[]=>true
 |k,d::c=>a k d&&allI a (k+1) c
def tL(a:Nat):Bool:=decide (97<=a/\a<=122)||decide (65<=a/\a<=90)
def BF(a:Nat):Bool:=decide (48<=a/\a<=57)
def uE(a:Nat):Bool:=tL a||BF a||decide (a=95)
def mD:List (List Nat):=[[118,97,114],[118,111,108,97,116,105,108,101],[109,117,116,101,120],[114,119,108,111,99,107],[99,111,110,100],[102,117,116,117,114,101],[116,104,114,101,97,100],[105,102],[101,108,115,101],[119,104,105,108,101],[108,111,99,107],[114,101,97,100],[119,114,105,116,101],[116,114,97,110,115,97,99,116,105,111,110],[97,116,111,109,105,99],[119,97,105,116],[110,111,116,105,102,121],[110,111,116,105,102,121,97,108,108],[115,112,97,119,110],[106,111,105,110],[115,101,116],[103,101,116]]
def sM(a:List Nat):Bool:=decide (a∈mD)
def Jt(a:List Nat):Bool:=match a with|c::_=>tL c| []=>false
def sI(a:List Nat):Bool:=decide (1<=a.length)&&decide (a.length<=12)&& !sM a&&Jt a&&a.all uE
def uz(a:List (List Nat)):Bool:=a.all sI&&decide a.Nodup
def I7(a:fN)(c:List fN):Bool:=allI (λb d=>decide (d={a with index:=b,rX:=false})) 0 (c.take a.size.toNat)
def iz:List fN->aa (List (List Nat))
 | []=>some []
 |c::a=>if c.size=0 then(if c.index=0 then(iz a).map (c.name:: ·)else none)
  else if d:c.size<1\/4<c.size\/(a.length+1:Int)<c.size then none
  else if I7 c (c::a)=true then(iz ((c::a).drop c.size.toNat)).map (c.name:: ·)else none
 termination_by b=>b.length
 decreasing_by
  ·simp
  ·simp;omega
def kQ(b:Nat):Int->Int->List gY->Bool
 |_,_,[]=>true
 |t,d,a::c=>if a.dA<t\/(b:Int)<=a.dA then false else
  if t<a.dA then(if a.stmt=0 then kQ b a.dA 1 c else false)else(if a.stmt=d then kQ b t (d+1) c else false)
def sK(c:dJ)(a:Int)(rw:Bool):Bool:=match wi c.dP a with|some b=>b.rW==rw|none=>false
def rj(a:dJ):Bool:=decide (a.cells.length<=12)&&decide (a.dP.length<=4)&&decide (a.fP.length<=2)&&decide (a.dR.length<=2)&&decide (a.gW.length<=60)&&decide (1<=a.dp.length)&&decide (a.dp.length<=4)
def pZ(a:dJ)(b:List (List Nat)):List (List Nat):=b++a.dP.map (·.name)++a.fP.map (·.name)++a.dR++a.dp
def Ap(a:dJ):Bool:=match iz a.cells with|none=>false|some b=>uz (pZ a b)
def jN(a:dJ):Bool:=rj a&&Ap a&&(a.fP.all λb=>sK a b.kP false)&&kQ a.dp.length 0 0 a.gW
def uS(c:dJ)(b:Int):Bool:=match wi c.cells b with|some a=>decide (a.size=0)|none=>false
def yP(d:dJ)(b c:Int):Bool:=match wi d.cells b with|some a=>decide (a.index=0)&& !decide (a.size=0)&&decide (a.size=c)|none=>false
def iv(d:fa):List Int:=
 if d.op=1\/d.op=6\/d.op=10\/d.op=27 then [d.a]else if d.op=2\/d.op=3 then [d.a,d.b]else if d.op=4 then [d.a,d.b,d.c]
 else if d.op=7 then [d.a,d.c]else if d.op=8\/d.op=26 then [d.b]else if d.op=9 then [d.b,d.c]else []
def lx(d:dJ)(c:fa):Bool:=
 if c.op=6 then uS d c.b else if c.op=8 then uS d c.a else if c.op=7 then yP d c.b c.n else if c.op=9 then yP d c.a c.n
 else if c.op=11\/c.op=12 then sK d c.a false else if c.op=13\/c.op=14\/c.op=15\/c.op=16 then sK d c.a true
 else if c.op=21\/c.op=22\/c.op=23 then iI c.a d.fP.length else if c.op=24\/c.op=25 then iI c.a d.dp.length
 else if c.op=26 then iI c.a d.dR.length else if c.op=27 then iI c.b d.dR.length
 else if c.op=3 then decide (c.n=4\/c.n=5)else if c.op=4 then decide (6<=c.n/\c.n<=18)else true
def uR(a:Int):Bool:=decide (1<=a/\a<=5)
def Ih(b:fa)(c:Int):Int:=if b.op=5 then b.a else c+1
def Bc(c:List fa):Nat->Int->Bool
 |0,_=>false
 |m+1,b=>match wi c b with
  |none=>false
  |some a=>if uR a.op=true then Bc c m (Ih a b)else true
end
noncomputable section
open Go Go.TI
attribute [-simp] List.map_take List.map_drop List.map_append
def Id(a b:Int):Bool:=decide (0<=a/\a<b)
@[simp] theorem Zp (a:Int) (b:Nat):Id a (b:Int)=iI a b:=id rfl
theorem NG{a b:Int}:Id a b=true↔0<=a/\a<b:=by unfold Id;simp
def Sg(d:Unit):fK:=⟨Int×Int,λa=>[.int .i64 a.1,.int .i64 a.2],λa=>True,λa=> .bool (Id a.1 a.2),λa c b=>by simp at b;rw[b.1,b.2]⟩
theorem T8:(Sg ()).Ok Tryz.prog cx 162:=by
 refine f8 (tb:=⟨pt [],ht []⟩) dX dU (iN 19 [] Tryz.func162) (λf=>1) (by simp[Sg]) (by simp[Sg,Tryz.f162]) ?_
 rintro⟨e,g⟩ _ h a
 simp[Sg]at a|-
 obtain⟨b,c⟩:=a
 by_cases d:0<=e<;>simp[Tryz.f162,b,c,d,Id]
theorem uc{c:eG}(ht:c.p 162=some (Sg ()))(a b:Int):rl Tryz.prog cx c 162 [.int .i64 a,.int .i64 b]=some (.bool (Id a b)):=fR ht T8 (a,b) trivial
def tq:fK:=⟨Int,λa=>[.int .i64 a],λa=>True,λa=> .bool (uR a),λa c b=>by simp at b;rw[b]⟩
theorem HP:tq.Ok Tryz.prog cx 206:=by
 refine f8 (tb:=⟨pt [],ht []⟩) dX dU (iN 5 [] Tryz.func206) (λd=>1) (by simp[tq]) (by simp[tq,Tryz.f206]) ?_
 rintro(c:Int) _ e a
 simp[tq]at a|-
 by_cases b:1<=c<;>simp[Tryz.f206,a,b,uR]
theorem vw{b:eG}(ht:b.p 206=some tq)(a:Int):rl Tryz.prog cx b 206 [.int .i64 a]=some (.bool (uR a)):=fR ht HP a trivial
def tu:fK:=⟨Nat,λa=>[.int .u8 a],λa=>True,λa=> .bool (tL a),λa b c=>by simp at c;rw[show a=b by omega]⟩
def yk:fK:=⟨Nat,λa=>[.int .u8 a],λa=>True,λa=> .bool (BF a),λa b c=>by simp at c;rw[show a=b by omega]⟩
def yi:fK:=⟨Nat,λa=>[.int .u8 a],λa=>True,λa=> .bool (uE a),λa b c=>by simp at c;rw[show a=b by omega]⟩
theorem MU:tu.Ok Tryz.prog cx 157:=by
 refine f8 (tb:=⟨pt [],ht []⟩) dX dU (iN 5 [] Tryz.func157) (λg=>1) (by simp[tu]) (by simp[tu,Tryz.f157]) ?_
 rintro(a:Nat) _ h b
 simp[tu]at b|-
 by_cases c:97<=a<;>by_cases d:a<=122<;>by_cases e:65<=a<;>by_cases f:a<=90<;>simp[Tryz.f157,b,tL,c,d,e,f,show(97:Int)<=(a:Int)↔97<=a by omega,show(a:Int)<=122↔a<=122 by omega,show(65:Int)<=(a:Int)↔65<=a by omega,show(a:Int)<=90↔a<=90 by omega]
theorem Aj{b:eG}(ht:b.p 157=some tu)(a:Nat):rl Tryz.prog cx b 157 [.int .u8 a]=some (.bool (tL a)):=fR ht MU a trivial
theorem PQ:yk.Ok Tryz.prog cx 204:=by
 refine f8 (tb:=⟨pt [],ht []⟩) dX dU (iN 5 [] Tryz.func204) (λe=>1) (by simp[yk]) (by simp[yk,Tryz.f204]) ?_
 rintro(a:Nat) _ f b
 simp[yk]at b|-
 by_cases c:48<=a<;>by_cases d:a<=57<;>simp[Tryz.f204,b,BF,c,d,show(48:Int)<=(a:Int)↔48<=a by omega,show(a:Int)<=57↔a<=57 by omega]
theorem Vk{b:eG}(ht:b.p 204=some yk)(a:Nat):rl Tryz.prog cx b 204 [.int .u8 a]=some (.bool (BF a)):=fR ht PQ a trivial
theorem PN:yi.Ok Tryz.prog cx 159:=by
 refine f8 (tb:=⟨pt [(157,tu),(204,yk)],ht []⟩) dX dU (iN 5 [] Tryz.func159) (λe=>1) (by simp[yi]) (by simp[yi,Tryz.f159]) ?_
 rintro(a:Nat) _ f b
 simp[yi]at b|-
 cases c:tL a<;>cases d:BF a<;>simp[Tryz.f159,b,uE,Aj,Vk,c,d,show(a:Int)=95↔a=95 by omega]
theorem Oi{b:eG}(ht:b.p 159=some yi)(a:Nat):rl Tryz.prog cx b 159 [.int .u8 a]=some (.bool (uE a)):=fR ht PN a trivial
def sj:fK:=⟨dJ×Int×Int,λa=>[a.1.t,.int .i64 a.2.1,.int .i64 a.2.2],λa=>True,λa=> .bool (yP a.1 a.2.1 a.2.2),λa c b=>by simp at b;rw[dJ.inj b.1,b.2.1,b.2.2]⟩
theorem KO:sj.Ok Tryz.prog cx 205:=by
 refine f8 (tb:=⟨pt [(162,Sg ())],ht []⟩) dX dU (iN 79 [] Tryz.func205) (λl=>1) (by simp[sj]) (by simp[sj,Tryz.f205]) ?_
 rintro⟨k,h,m⟩ _ n c
 simp[sj]at c|-
 obtain⟨a,b,e⟩:=c
 cases hl:iI h k.cells.length with
 |true=>
  obtain⟨d,f,g⟩:=ij hl
  by_cases i:d.index=0<;>by_cases j:d.size=0<;>simp[Tryz.f205,a,b,e,uc,hl,f,g,yP,dS (ed.1 hl).1,i,j]
 |false=>simp[Tryz.f205,a,b,uc,hl,rH hl,yP]
theorem Om{d:eG}(ht:d.p 205=some sj)(c:dJ)(a b:Int):rl Tryz.prog cx d 205 [c.t,.int .i64 a,.int .i64 b]=some (.bool (yP c a b)):=fR ht KO (c,a,b) trivial
def mh:fK:=⟨fa,λa=>[a.t],λa=>True,λa=>sl ((iv a).map (T.int .i64)),λa c b=>by simp at b;rw[fa.inj b]⟩
theorem Cb:mh.Ok Tryz.prog cx 97:=by
 refine f8 (tb:=⟨pt [],ht []⟩) dX dU (iN 8934607822903 [] Tryz.func97) (λc=>1) (by simp[mh]) (by simp[mh,Tryz.f97]) ?_
 rintro⟨a,c,o,p,q,r⟩ _ s b
 simp[mh]at b|-
 rcases(by omega:a=1\/a=6\/a=10\/a=27\/a=2\/a=3\/a=4\/a=7\/a=8\/a=26\/a=9\/(¬a=1/\¬a=6/\¬a=10/\¬a=27/\¬a=2/\¬a=3/\¬a=4/\¬a=7/\¬a=8/\¬a=26/\¬a=9))with rfl|rfl|rfl|rfl|rfl|rfl|rfl|rfl|rfl|rfl|rfl|⟨d,g,h,i,j,k,l,m,n,e,f⟩
 rotate_right
 ·simp[Tryz.f97,b,iv,d,g,h,i,j,k,l,m,n,e,f]
 all_goals simp [Tryz.f97,b,iv,fH,sl]
theorem tR{b:eG}(ht:b.p 97=some mh)(a:fa):rl Tryz.prog cx b 97 [a.t]=some (sl ((iv a).map (T.int .i64))):=fR ht Cb a trivial
def sd:fK:=⟨dJ×fa,λa=>[a.1.t,a.2.t],λa=>True,λa=> .bool (lx a.1 a.2),λa c b=>by simp at b;rw[dJ.inj b.1,fa.inj b.2]⟩
theorem KG:sd.Ok Tryz.prog cx 160:=by
 refine f8 (tb:=⟨pt [(162,Sg ()),(205,sj)],ht []⟩) dX dU (iN 11161304336780981658631819976322344575566047 [] Tryz.func160) (λf=>1) (by simp[sd]) (by simp[sd,Tryz.f160]) ?_
 rintro⟨h,⟨a,f,l,F,j,G⟩⟩ _ H i
 simp[sd]at i|-
 obtain⟨b,c⟩:=i
 rcases(by omega:a=3\/a=4\/a=7\/a=9\/a=21\/a=22\/a=23\/a=24\/a=25\/a=26\/a=27\/a=6\/a=8\/a=11\/a=12\/a=13\/a=14\/a=15\/a=16\/(¬a=3/\¬a=4/\¬a=6/\¬a=8/\¬a=7/\¬a=9/\¬a=11/\¬a=12/\¬a=13/\¬a=14/\¬a=15/\¬a=16/\¬a=21/\¬a=22/\¬a=23/\¬a=24/\¬a=25/\¬a=26/\¬a=27))with rfl|rfl|rfl|rfl|rfl|rfl|rfl|rfl|rfl|rfl|rfl|rfl|rfl|rfl|rfl|rfl|rfl|rfl|rfl|⟨m,x,A,B,C,D,E,n,o,p,q,r,s,t,u,v,w,y,z⟩
 rotate_right
 ·simp[Tryz.f160,b,c,lx,m,x,A,B,C,D,E,n,o,p,q,r,s,t,u,v,w,y,z]
 ·by_cases g:j=4<;>simp[Tryz.f160,b,c,lx,g]
 ·by_cases g:6<=j<;>simp[Tryz.f160,b,c,lx,g]
 iterate 9·simp[Tryz.f160,b,c,lx,uc,Om]
 ·cases hl:iI l h.cells.length with
  |true=>
   obtain⟨k,d,e⟩:=ij hl
   simp[Tryz.f160,b,c,lx,uc,hl,d,e,uS,dS (ed.1 hl).1]
  |false=>simp[Tryz.f160,b,c,lx,uc,hl,rH hl,uS]
 ·cases hl:iI f h.cells.length with
  |true=>
   obtain⟨k,d,e⟩:=ij hl
   simp[Tryz.f160,b,c,lx,uc,hl,d,e,uS,dS (ed.1 hl).1]
  |false=>simp[Tryz.f160,b,c,lx,uc,hl,rH hl,uS]
 all_goals
  cases hl:iI f h.dP.length with
  |true=>
   obtain⟨k,d,e⟩:=ij hl
   simp[Tryz.f160,b,c,lx,uc,hl,d,e,sK,dS (ed.1 hl).1]
  |false=>simp[Tryz.f160,b,c,lx,uc,hl,rH hl,sK]
theorem Od{c:eG}(ht:c.p 160=some sd)(b:dJ)(a:fa):rl Tryz.prog cx c 160 [b.t,a.t]=some (.bool (lx b a)):=fR ht KG (b,a) trivial
def qV:List (List Nat)->List Nat->Nat->Int
 | [],_,_=>-1
 |x::c,b,a=>if x=b then(a:Int)else qV c b (a+1)
theorem EN:∀(a:List (List Nat)) (b:List Nat) (d:Nat),(0<=qV a b d)=(b∈a):=by
 intro a
 induction a with
 |nil=>intro b d;simp[qV]
 |cons g a f=>
  intro b d
  rw[qV]
  by_cases c:g=b
  ·subst c;simp
  ·rw[ao c,f];simp;intro e;exact absurd e.symm c
def z7:fK:=⟨List (List Nat)×List Nat,λa=>[sl (a.1.map T.str),.str a.2],λa=>a.1.length<=1099511627776,λa=> .int .i64 (qV a.1 a.2 0),λa c b=>by
 simp at b;rw[ja (by simp) b.1,b.2]⟩
theorem adh:z7.Ok Tryz.prog cx 110:=by
 refine f8 (tb:=⟨pt [],ht []⟩) dX dU (iN 131635 [] Tryz.func110) (λm=>m.1.length+1) (by simp[z7]) (by simp[z7,Tryz.f110]) ?_
 rintro⟨f,i⟩ hl c l
 simp[z7]at hl l|-
 obtain⟨b,d⟩:=l
 simp[Tryz.f110]
 refine eQ f.length (by omega) (λe c j=>j=hE/\TI.dt c 0=some (sl (f.map T.str))/\TI.dt c 1=some (.str i)/\TI.dt c 5=some (.int .i64 e)/\qV (f.drop e) i e=qV f i 0) ?_ ?_ (by omega) (by simp[b,d])
 ·rintro e c j k n ⟨rfl,b,d,g,a⟩
  rw[aJ k,qV]at a
  by_cases h:f[e]=i
  ·rw[aq h]at a
   simp[b,d,g,k,h,<-a]
  ·rw[ao h]at a
   simp[b,d,g,k,h,n,a]
 ·rintro c j ⟨rfl,b,d,g,a⟩
  simp[qV]at a
  simp[b,g,<-a]
theorem LB{c:eG}(ht:c.p 110=some z7)(a:List (List Nat))(b:List Nat)(hl:a.length<=1099511627776):rl Tryz.prog cx c 110 [sl (a.map T.str),.str b]=some (.int .i64 (qV a b 0)):=fR ht adh (a,b) hl
def qf:fK:=⟨Unit,λa=>[],λa=>True,λa=>sl (mD.map T.str),λa b c=>rfl⟩
theorem HR:qf.Ok Tryz.prog cx 203:=by
 refine f8 (tb:=⟨pt [],ht []⟩) dX dU (iN 1 [] Tryz.func203) (λb=>1) (by simp[qf]) (by simp[qf,Tryz.f203]) ?_
 rintro _ _ c a
 simp[qf]at a|-
 simp[Tryz.f203,fH]
 rfl
theorem Lf{a:eG}(ht:a.p 203=some qf):rl Tryz.prog cx a 203 []=some (sl (mD.map T.str)):=fR ht HR () trivial
theorem NB:mD.length=22:=rfl
def sh:fK:=⟨List Nat,λa=>[.str a],λa=>True,λa=> .bool (sM a),λa c b=>by simp at b;rw[b]⟩
theorem Ft:sh.Ok Tryz.prog cx 158:=by
 refine f8 (tb:=⟨pt [(203,qf)],ht []⟩) dX dU (iN 131613 [] Tryz.func158) (λn=>23) (by simp[sh]) (by simp[sh,Tryz.f158]) ?_
 rintro(g:List Nat) _ b k
 simp[sh]at k|-
 simp[Tryz.f158,Lf]
 refine eQ mD.length (by rw[NB];omega) (λf b h=>h=hE/\TI.dt b 0=some (.str g)/\TI.dt b 3=some (sl (mD.map T.str))/\TI.dt b 4=some (.int .i64 f)/\(g∈mD.drop f↔g∈mD)) ?_ ?_ (by rw[NB];omega) (by simp[k])
 ·rintro f b h j l ⟨rfl,i,c,d,a⟩
  have m:=aJ j
  rw[m]at a
  by_cases e:mD[f]=g
  ·simp[i,c,d,j,e,sM]
   rw[<-a,e];simp
  ·simp[i,c,d,j,e,l]
   refine⟨λh=>a.1 (cw _ h),λh=> ?_⟩
   rcases List.mem_cons.1 (a.2 h)with h|h
   ·exact absurd h.symm e
   ·exact h
 ·rintro b h ⟨rfl,i,c,d,a⟩
  simp[c,d,sM]
  simpa using a
theorem BN{b:eG}(ht:b.p 158=some sh)(a:List Nat):rl Tryz.prog cx b 158 [.str a]=some (.bool (sM a)):=fR ht Ft a trivial
def vP:fK:=⟨List Nat,λa=>[.str a],λa=>True,λa=> .bool (sI a),λa c b=>by simp at b;rw[b]⟩
theorem MN:vP.Ok Tryz.prog cx 109:=by
 refine f8 (tb:=⟨pt [(158,sh),(157,tu),(159,yi)],ht []⟩) dX dU (iN 4330618893 [] Tryz.func109) (λv=>13) (by simp[vP]) (by simp[vP,Tryz.f109]) ?_
 rintro(a:List Nat) _ f d
 simp[vP]at d|-
 cases a with
 |nil=>simp[Tryz.f109,d,sI]
 |cons b a=>
  have h:¬(a.length:Int)+1<1:=by omega
  by_cases w:a.length+1<=12
  ·have e:¬(12:Int)<(a.length:Int)+1:=by omega
   cases j:tL b with
   |false=>simp[Tryz.f109,d,h,e,j,Aj,sI,Jt]
   |true=>
    cases o:sM (b::a)with
    |true=>simp[Tryz.f109,d,h,e,j,o,Aj,BN,sI,Jt]
    |false=>
     have q:sI (b::a)=(b::a).all uE:=by simp[sI,o,Jt,j];intro _ _;omega
     obtain⟨m,s⟩:∃m,m=(b::a).all uE:=⟨_,rfl⟩
     rw[q,<-s]
     simp[Tryz.f109,d,h,e,j,o,Aj,BN]
     refine eQ (b::a).length (by simp;omega) (λl f n=>n=hE/\TI.dt f 0=some (.str (b::a))/\TI.dt f 3=some (.int .i64 l)/\((b::a).drop l).all uE=m) ?_ ?_ (by simp;omega) (by rw[s];simp[d])
     ·rintro l f n p u ⟨rfl,g,i,c⟩
      rw[aJ p,cA]at c
      generalize t:(b::a)=r at*
      cases k:uE r[l]with
      |true=>rw[k,bM]at c;simp[g,i,p,u,Oi,k,c]
      |false=>rw[k,Bool.false_and]at c;simp[g,i,p,Oi,k,<-c]
     ·rintro f n ⟨rfl,g,i,c⟩
      generalize t:(b::a)=r at*
      rw[dg]at c
      simp[g,i,<-c]
  ·have e:(12:Int)<(a.length:Int)+1:=by omega
   have q:sI (b::a)=false:=by simp[sI];omega
   simp[Tryz.f109,d,h,e,q]
theorem oM{b:eG}(ht:b.p 109=some vP)(a:List Nat):rl Tryz.prog cx b 109 [.str a]=some (.bool (sI a)):=fR ht MN a trivial
end
noncomputable section
open Go Go.TI
attribute [-simp] List.map_take List.map_drop List.map_append fi ei dT Bool.not_or Bool.not_and
attribute [simp] fh ew
def okB(a:List Int):Prop:=a.length<=1099511627776/\∀x∈a,0<=x/\x<256
def Tp(b:List Int)(c:Nat)(d:H):Prop:=∃e a,d.get c=some ⟨2,0,e,true,false,[.agg [sl (b.map (T.int .u8)),.int .i64 a]]⟩/\0<=a
structure xW where
 (L:List Int) (b:Nat) (n:Int)
def tz(a:xW)(d:List T)(c:H):Prop:=d=[.ptr a.b 0 0 0,.int .i64 a.n]/\Tp a.L a.b c/\gh 0 c/\1<=a.n/\a.n<=100/\okB a.L
def qB(a:xW)(g:List T)(e:H)(f:T)(d:H):Prop:=∃c,f= .int .i64 c/\0<=c/\c<a.n/\Tp a.L a.b d/\Sm a.b e d
theorem _root_.Go.TI.Sm.out{b:Nat}{h c:H}(a:Sm b (TI.hr h) c):Sm b h (kV h c):=⟨a.ok.out h,a.size,λd e=>by rw[fj,a.get d e,fU]⟩
theorem E7{c:ak}{a b:Int}(e:¬b=0):binop .rem (.int c a) (.int c b)=some (.int c (a.tmod b)):=by
 have d:Pd b 0=false:=by rw[wP];simp[e]
 unfold binop
 simp[vz,d]
theorem MM:(jM xW tz qB).Ok Tryz.prog cx 63:=by
 refine iU (tb:=⟨pt [],ht []⟩) dX dU (iN 262163 [] Tryz.func63) (λ_ _=>5) (λE a h z=>by obtain⟨rfl,_⟩:=z;simp[Tryz.f63]) ?_
 rintro⟨c,f,k⟩ _ h ⟨rfl,⟨g,b,e,q⟩,r,w,y,s,n⟩ F o
 simp only at e q w y s n
 simp at o
 obtain⟨i,m⟩:=o
 simp[Tryz.f63,i,m,e]
 refine dM (λj=> ?_) (λj=> ?_)
 ·simp[j]
  exact⟨0,rfl,Int.le_refl _,by simp only;omega,⟨g,b,by rw[fj,fU];exact e,q⟩,Sm.out (Sm.refl r.hr)⟩
 ·simp at j
  have B:IntKind.i64.wrap (b+1)=b+1:=by rw[<-ju];exact jB (by omega) (by omega)
  have C:IntKind.i64.wrap b=b:=by rw[<-ju];exact jB (by omega) (by omega)
  have A:Sm f (hr h) _:=(Sm.refl r.hr).put (x:=⟨2,0,g,true,false,[.agg [sl (c.map (T.int .u8)),.int .i64 b]]⟩) (by rw[fU];exact e) ⟨2,0,g+1,true,false,[.agg [sl (c.map (T.int .u8)),.int .i64 (b+1)]]⟩
  have l:(dI (hr h) f ⟨2,0,g+1,true,false,[.agg [sl (c.map (T.int .u8)),.int .i64 (b+1)]]⟩).get f=_:=(dy (h:=hr h) (by rw[fU];exact e) _ f).trans (aq rfl)
  simp[i,e,oH,dG,B]
  generalize dI (hr h) f _=D at*
  obtain⟨d,rfl⟩:∃d:Nat,b=d:=⟨b.toNat,by omega⟩
  have p:d<c.length:=by omega
  have t:=n c[d] (aF p)
  have u: -9223372036854775808<=c[d]:=by omega
  have v:c[d]<9223372036854775808:=by omega
  have t0:=Int.tmod_nonneg k t.1
  have t1:=Int.tmod_lt_of_pos c[d] (show 0<k by omega)
  simp[i,m,l,wt,C,p,u,v,E7 (a:=c[d]) (show¬k=0 by omega)]
  exact⟨_,rfl,t0,t1,⟨_,_,by rw[fj];exact l,by omega⟩,Sm.out A⟩
def Fb:fK:=⟨Int,λa=>[.int .i64 a],λ_=>True,λa=>(dC.mk 1 a [] []).t,λa c b=>by simp at b;rw[b]⟩
theorem Yx:Fb.Ok Tryz.prog cx 120:=by
 refine f8 (tb:=⟨pt [],ht []⟩) dX dU (iN 5 [] Tryz.func120) (λ_=>5) (by simp[Fb]) (by simp[Fb,Tryz.f120]) ?_
 rintro a _ c b
 simp[Fb]at a b|-
 simp[Tryz.f120,b]
 simpa using dC.fold 1 a [] []
theorem QH{b:eG}(ht:b.p 120=some Fb)(a:Int):rl Tryz.prog cx b 120 [.int .i64 a]=some (dC.mk 1 a [] []).t:=fR ht Yx a trivial
def Hz:fK:=⟨List Nat,λa=>[.str a],λ_=>True,λa=>(dC.mk 2 0 a []).t,λa c b=>by simp at b;rw[b]⟩
theorem Yy:Hz.Ok Tryz.prog cx 211:=by
 refine f8 (tb:=⟨pt [],ht []⟩) dX dU (iN 5 [] Tryz.func211) (λ_=>5) (by simp[Hz]) (by simp[Hz,Tryz.f211]) ?_
 rintro a _ c b
 simp[Hz]at a b|-
 simp[Tryz.f211,b]
 simpa using dC.fold 2 0 a []
theorem QI{b:eG}(ht:b.p 211=some Hz)(a:List Nat):rl Tryz.prog cx b 211 [.str a]=some (dC.mk 2 0 a []).t:=fR ht Yy a trivial
def HA:fK:=⟨Int×dC×dC,λa=>[.int .i64 a.1,a.2.1.t,a.2.2.t],λ_=>True,λa=>(dC.mk a.1 0 [] [a.2.1,a.2.2]).t,λa c b=>by
 simp at b;rw[b.1,dC.inj b.2.1,dC.inj b.2.2]⟩
theorem YC:HA.Ok Tryz.prog cx 210:=by
 refine f8 (tb:=⟨pt [],ht []⟩) dX dU (iN 119 [] Tryz.func210) (λ_=>5) (by simp[HA]) (by simp[HA,Tryz.f210]) ?_
 rintro⟨d,b,c⟩ _ e a
 simp[HA]at a|-
 simp[Tryz.f210,a,fH]
 simpa using dC.fold d 0 [] [b,c]
theorem Vl{d:eG}(ht:d.p 210=some HA)(c:Int)(a b:dC):rl Tryz.prog cx d 210 [.int .i64 c,a.t,b.t]=some (dC.mk c 0 [] [a,b]).t:=fR ht YC (c,a,b) trivial
def HC:fK:=⟨List Nat×dC,λa=>[.str a.1,a.2.t],λ_=>True,λa=>(du.mk 1 0 a.1 [] [] a.2 [] []).t,λa c b=>by
 simp at b;rw[b.1,dC.inj b.2]⟩
theorem YD:HC.Ok Tryz.prog cx 119:=by
 refine f8 (tb:=⟨pt [],ht []⟩) dX dU (iN 27 [] Tryz.func119) (λ_=>5) (by simp[HC]) (by simp[HC,Tryz.f119]) ?_
 rintro⟨b,c⟩ _ d a
 simp[HC]at a|-
 simp[Tryz.f119,a]
 rw[du.mK];rfl
def ug:List f6:=[⟨1,0,[120],0,0,[]⟩,⟨1,0,[121],0,1,[]⟩,⟨2,0,[118],0,0,[]⟩,⟨1,0,[113],2,0,[]⟩,⟨3,0,[109],0,0,[]⟩,⟨3,0,[110],0,0,[]⟩,⟨4,0,[114],0,0,[]⟩,⟨5,0,[99],0,0,[109]⟩,⟨6,0,[102],0,0,[]⟩]
def yl:fK:=⟨Unit,λ_=>[],λ_=>True,λ_=>sl (ug.map f6.t),λ_ _ _=>rfl⟩
theorem PR:yl.Ok Tryz.prog cx 117:=by
 refine f8 (tb:=⟨pt [],ht []⟩) dX dU (iN 1 [] Tryz.func117) (λ_=>5) (by simp[yl]) (by simp[yl,Tryz.f117]) ?_
 rintro _ _ b a
 simp[yl]at a|-
 simp[Tryz.f117,fH,ug]
theorem Ol{a:eG}(ht:a.p 117=some yl):rl Tryz.prog cx a 117 []=some (sl (ug.map f6.t)):=fR ht PR () trivial
theorem rg{c:eG}(ht:c.p 119=some HC)(a:List Nat)(b:dC):rl Tryz.prog cx c 119 [.str a,b.t]=some (du.mk 1 0 a [] [] b [] []).t:=fR ht YD (a,b) trivial
def rf(b:Nat)(e left:Int)(set f a d:Bool)(c:T):List T:=[.ptr b 0 0 0,.int .i64 e,.int .i64 left,.bool set,.bool f,.bool a,.bool d,c]
structure Mk(L:List Int)(n:Nat)(h:H)(m b:Nat):Prop where
 ok:gh 0 h
 fp:∀c,Fp h m c->c<h.size
 tp:Tp L b h
 ex:∃ver th left set tx at' lp hv,∃hs:List (List Nat),h.get m=some ⟨8,0,ver,true,false,[.agg (rf b th left set tx at' lp hv)]⟩/\Gr h hv 1 (hs.map T.str)/\hs.length=n
theorem Mk.ne{e:List Int}{h:Nat}{g:H}{d b:Nat}(c:Mk e h g d b):d≠b:=λi=>by
 obtain⟨k,j,f,_⟩:=c.tp
 obtain⟨_,_,_,_,_,_,_,_,_,a,_⟩:=c.ex
 rw[i,f]at a;simp at a
theorem Mk.lt{c:List Int}{f:Nat}{b:H}{a d:Nat}(e:Mk c f b a d):a<b.size:=e.fp a (.inl rfl)
theorem Mk.fpb{d:List Int}{g:Nat}{b:H}{c a:Nat}(f:Mk d g b c a):Fp b c a:=by
 obtain⟨_,_,_,_,_,_,_,_,_,e,_⟩:=f.ex
 exact .inr ⟨_,e,_,by simp[d6,T.cells,rf];exact .inl rfl,rfl⟩
theorem Mk.tape{i:List Int}{m:Nat}{h e:H}{d g:Nat}(f:Mk i m h d g)(a:Sm g h e)(v:Tp i g e):Mk i m e d g/\Step d h e:=by
 have j:e.get d=h.get d:=a.get d f.ne
 obtain⟨z,C,p,_⟩:=f.tp
 obtain⟨y,w,left,set,x,o,u,t,s,q,l,hl⟩:=f.ex
 refine⟨⟨a.ok,λc b=>by rw[iH j]at b;rw[a.size];exact f.fp c b,v,y,w,left,set,x,o,u,t,s,by rw[j];exact q,l.mono λc b=>a.get c λk=> ?_,hl⟩,⟨a.ok.hp,a.ok.low,by rw[a.size];exact au _⟩,λc _ r=>a.get c λk=>r (by rw[k];exact f.fpb),λc b=>by rw[iH j]at b;exact .inl b⟩
 obtain⟨A,z,B,D,n,_⟩:=l.box b
 rw[k,p]at n;simp at n
structure Tw(L:List Int)(b:Nat)(h h':H):Prop where
 ok:gh 0 h'
 size:h.size<=h'.size
 get:∀c,c<h.size->c≠b->h'.get c=h.get c
 tp:Tp L b h'
theorem Tw.refl{b:List Int}{c:Nat}{a:H}(d:gh 0 a)(e:Tp b c a):Tw b c a a:=⟨d,au _,λ_ _ _=>rfl,e⟩
theorem Tp.lt{c:List Int}{a:Nat}{b:H}(e:Tp c a b):a<b.size:=by
 obtain⟨_,_,d,_⟩:=e;exact H.dL d
theorem Tp.eq{b:List Int}{a:Nat}{c d:H}(i:Tp b a c)(f:d.get a=c.get a):Tp b a d:=by
 obtain⟨j,g,e,h⟩:=i;exact⟨j,g,by rw[f];exact e,h⟩
theorem Tw.cons{a:List Int}{b:Nat}{c d:H}(w:Tw a b c d)(e:iE):Tw a b c (d.cons e):=
 ⟨w.ok.cons e,by have:=w.size;simp;omega,λf g h=>by rw[dH,ao (by have:=w.size;omega)];exact w.get f g h,w.tp.eq (by rw[dH,ao (by have:=w.tp.lt;omega)])⟩
theorem Tw.put{f:List Int}{d:Nat}{b e:H}(c:Tw f d b e){a:Nat}{x:iE}(g:e.get a=some x)(m:b.size<=a)(l:d<b.size)(h:iE):Tw f d b (dI e a h):=
 ⟨c.ok.put a h,by rw[fc];exact c.size,λi j k=>by rw[dy g,ao (by omega)];exact c.get i j k,c.tp.eq (by rw[dy g,ao (by omega)])⟩
theorem Tw.call{b:List Int}{a:Nat}{f g c:H}(i:Tw b a f g)(d:Sm a g c)(k:Tp b a c):Tw b a f c:=
 ⟨d.ok,by rw[d.size];exact i.size,λe j h=>(d.get e h).trans (i.get e j h),k⟩
theorem Tw.cut{j:List Int}{e:Nat}{a d:H}(b:Tw j e (TI.hr a) d)(A:gh 0 a)(v:e<a.size){p q:T}{o:T->H->Prop}(x:∃i,jd d a.size p=some i/\cn i=q)
 (z:Sm e a (xM a d)->Tp j e (xM a d)->o q (xM a d)):Lx a p d o:=by
 obtain⟨i,u,rfl⟩:=x
 have h:a.size<=d.size:=b.size
 refine⟨b.ok.hp,h,λc B w l=> ?_,i,u,z ⟨A.cut b.ok.hp h,rfl,λc y=> ?_⟩ (b.tp.eq (BH b.ok.hp h v))⟩
 ·by_cases f:c=e
  ·obtain⟨r,D,t,_⟩:=b.tp
   rw[f,t]at l;cases l
   refine .inr λr k=>(A8 r ?_).mono (aw _)
   simp[d6,T.cells]at k
   rcases k with rfl|rfl<;>simp
  ·exact .inl ((b.get c w f).trans (fU a c))
 ·by_cases f:c<a.size
  ·rw[BH b.ok.hp h f,b.get c f y,fU]
  ·have m:∀g:H,g.size=a.size->g.get c=none:=λg C=>by
    cases s:g.get c with
    |none=>rfl
    |some B=>have:=H.dL s;omega
   rw[m (xM a d) rfl,m a rfl]
theorem Mk.tw{h:List Int}{m:Nat}{a f:H}{b i:Nat}(c:Mk h m a b i)(d:Tw h i (TI.hr a) f):Mk h m f b i:=by
 have l:f.get b=a.get b:=(d.get b c.lt c.ne).trans (fU a b)
 obtain⟨x,B,o,_⟩:=c.tp
 obtain⟨w,u,left,set,v,n,s,r,q,p,k,hl⟩:=c.ex
 have A:a.size<=f.size:=d.size
 refine⟨d.ok,λe g=>by rw[iH l]at g;have:=c.fp e g;omega,d.tp,w,u,left,set,v,n,s,r,q,by rw[l];exact p,k.mono λe g=> ?_,hl⟩
 obtain⟨y,x,z,C,j,_⟩:=k.box g
 exact(d.get e (H.dL j) λt=>by rw[t,o]at j;simp at j).trans (fU a e)
theorem qS{g:eG}{l:Nat}{e:List Int}{b:Nat}{d:Int}{f:H}{m:af Oper}{j:aa Tmp}{k:List Oper}{o n:eZ}{i:gU}(ht:g.h 63=some (jM xW tz qB))(y:Tp e b f)(u:gh 0 f)(q:1<=d)(r:d<=100)(s:okB e)
 (p:∀(a:Nat) c,(a:Int)<d->Tp e b c->Sm b f c->XK (some (.int .i64 a,c)) cx (p9 Tryz.prog cx g) l m j k o n i):XK (hl Tryz.prog cx g 63 [.ptr b 0 0 0,.int .i64 d] f) cx (p9 Tryz.prog cx g) l m j k o n i:=
 gd MM ht ⟨e,b,d⟩ ⟨rfl,y,u,q,r,s⟩ (by
  rintro _ c ⟨a,rfl,z,v,w,x⟩
  obtain⟨a,rfl⟩:∃t:Nat,a=t:=⟨a.toNat,by omega⟩
  exact p a c v w x)
theorem ID{i:eG}{p:Nat}{f:List Int}{c:Nat}{e:Int}{b:H}{r:af Oper}{k:List (Nat×Nat)}{l:aa Tmp}{q:Op}{n:List Oper}{g:Nat}{o:List (Nat×Nat)}{m:List (Nat×H×H)}{t s:eZ}{j:gU}(ht:i.h 63=some (jM xW tz qB))(C:Tp f c b)(y:gh 0 b)(v:1<=e)(w:e<=100)(x:okB f)
 (u:∀(a:Nat) d,(a:Int)<e->Tp f c d->Sm c b d->Lv (some (.int .i64 a,d)) cx (p9 Tryz.prog cx i) p r k l q n g o m t s b j):Lv (hl Tryz.prog cx i 63 [.ptr c 0 0 0,.int .i64 e] b) cx (p9 Tryz.prog cx i) p r k l q n g o m t s b j:=
 kA MM ht ⟨f,c,e⟩ ⟨rfl,C,y,v,w,x⟩ (by
  rintro _ d ⟨a,rfl,D,z,A,B⟩
  obtain⟨a,rfl⟩:∃g:Nat,a=g:=⟨a.toNat,by omega⟩
  exact u a d z A B)
theorem dC.ft{b:H}{V:Nat->Prop}(a:dC)(d:Nat):FT b V (d+2) a.t a.t:= .inr (.inr ⟨_,_,a.mK,.cons (fJ ..) (.cons (fJ ..) (.cons (jH ..) (.cons (pO _ _ _ λe c=>by obtain⟨f,_,rfl⟩:=List.mem_map.1 c;simp) .nil))),a.mK⟩)
structure Q1 where
 (L:List Int) (m b n d:Nat)
def TS(a:Q1)(c:List T)(e:H):Prop:=c=[.ptr a.m 0 0 0,.int .i64 a.d]/\Mk a.L a.n e a.m a.b/\okB a.L/\a.d<=10
def Je(a:Q1)(h:List T)(f:H)(g:T)(e:H):Prop:=∃c:dC,g=c.t/\ME c/\c.w<=3^a.d/\Tp a.L a.b e/\Sm a.b f e
theorem Eq{f:List Int}{m e n d:Nat}{b c:H}{z:iE}{a k:Int}{s:List Nat}{v:T}{l:List dC}{args:List T}(q:gh 0 b)(h:e<b.size)(y:Tw f e (TI.hr b) c)(g:c.get b.size=some z)
 (o:FT (dI c b.size ⟨4,0,1,true,false,[.agg [.int .i64 a,.int .i64 k,.str s,v]]⟩) (λi=>b.size<=i) 11 v (sl (l.map dC.t))) (j:ME ⟨a,k,s,l⟩) (p:(dC.mk a k s l).w<=3^d):
 (dI c b.size ⟨4,0,1,true,false,[.agg [.int .i64 a,.int .i64 k,.str s,v]]⟩).get b.size=some ⟨4,0,1,true,false,[.agg [.int .i64 a,.int .i64 k,.str s,v]]⟩/\
 Lx b (.agg [.int .i64 a,.int .i64 k,.str s,v]) (dI c b.size ⟨4,0,1,true,false,[.agg [.int .i64 a,.int .i64 k,.str s,v]]⟩) (Je ⟨f,m,e,n,d⟩ args b):=
 ⟨(dy g _ _).trans (aq rfl),(y.put g (au _) h _).cut q h (FT.top (au 11) (λ_ r=>r) (.cons (fJ ..) (.cons (fJ ..) (.cons (jH ..) (.cons o .nil))))) λu x=>⟨⟨a,k,s,l⟩,(dC.mK ⟨a,k,s,l⟩).symm,j,p,x,u⟩⟩
abbrev L7(e:Nat):kw:=jM Q1 (λa b c=>TS a b c/\a.d<e) Je
theorem NO(k:Nat)(P:(L7 k).Ok Tryz.prog cx 209):(L7 (k+1)).Ok Tryz.prog cx 209:=by
 refine IW (tb:=⟨pt [(120,Fb),(211,Hz),(210,HA)],ht [(63,jM xW tz qB),(209,L7 k)]⟩) dX dU (iN 35186519589107 [(10,[(8,13),(9,13),(8,17),(9,17)])] Tryz.func209) (λ_ _=>5) (λi a e a8=>by obtain⟨⟨rfl,_⟩,_⟩:=a8;simp[Tryz.f209]) ?_
 rintro⟨G,m,A,n,d⟩ _ e ⟨⟨rfl,b,r,aE⟩,aN⟩ cX V
 simp only at b r aE aN
 simp at V
 obtain⟨w,K⟩:=V
 obtain⟨cL,cb,left,set,ce,bz,ca,b7,b6,I,bB,hl⟩:=b.ex
 simp only[rf]at I
 have a7:=b.lt
 have aX:(m=e.size)=False:=by simp;omega
 have a6:(m=e.size+1)=False:=by simp;omega
 simp[Tryz.f209,w,I,aX,a6]
 have F:=((Tw.refl b.ok.hr (b.tp.eq (fU e A))).cons ⟨4,0,0,true,false,[.agg [.int .i64 0,.int .i64 0,.str [],.dq [] false]]⟩).cons ⟨1,0,0,true,false,[.str [97],.str [98],.str [120],.str [121],.str [118],.str [120],.str [121]]⟩
 refine qS (by simp) F.tp F.ok (by omega) (by omega) r λb9 p bT t2 D=> ?_
 have C:=b.tp.lt
 have f:=F.call D t2
 have gR:p.get e.size=some ⟨4,0,0,true,false,[.agg [.int .i64 0,.int .i64 0,.str [],.dq [] false]]⟩:=(D.get _ (by omega)).trans (by simp)
 have gN:p.get (e.size+1)=some ⟨1,0,0,true,false,[.str [97],.str [98],.str [120],.str [121],.str [118],.str [120],.str [121]]⟩:=(D.get _ (by omega)).trans (by simp)
 have J:=((f.get m a7 b.ne).trans (fU e m)).trans I
 clear D F
 simp[K]
 refine dM (λN=> ?_) (λN=> ?_)
 ·simp[w,J]
  refine qS (by simp) f.tp f.ok (by omega) (by omega) r λg q _ t3 h=> ?_
  have j:=f.call h t3
  have gR:=(h.get _ (by omega)).trans gR
  have fin:=Eq (m:=m) (n:=n) (d:=d) (v:=sl []) (l:=[]) (args:=[.ptr m 0 0 0,.int .i64 d]) b.ok C j gR (pO _ _ _ (by simp)) (.num g) (by rw[dC.kJ];simp only[dC.DI,dC.il];exact Nat.pow_pos (by omega))
  simp[QH,gR,fin.1]
  exact fin.2
 simp
 refine dM (λL=> ?_) (λL=> ?_)
 ·simp[w,J]
  refine qS (by simp) f.tp f.ok (by omega) (by omega) r λg q W t3 h=> ?_
  have j:=f.call h t3
  have gR:=(h.get _ (by omega)).trans gR
  have gN:=(h.get _ (by omega)).trans gN
  have o:∃s:List Nat,([.str [97],.str [98],.str [120],.str [121],.str [118],.str [120],.str [121]]:List T)[g]? =some (.str s):=by
   rcases(by omega:g=0\/g=1\/g=2\/g=3\/g=4\/g=5\/g=6)with rfl|rfl|rfl|rfl|rfl|rfl|rfl<;>exact⟨_,rfl⟩
  obtain⟨s,o⟩:=o
  generalize([.str [97],.str [98],.str [120],.str [121],.str [118],.str [120],.str [121]]:List T)=al at gN o
  have fin:=Eq (m:=m) (n:=n) (d:=d) (v:=sl []) (l:=[]) (args:=[.ptr m 0 0 0,.int .i64 d]) b.ok C j gR (pO _ _ _ (by simp)) (.nm s) (by rw[dC.kJ];simp only[dC.DI,dC.il];exact Nat.pow_pos (by omega))
  have W:g<7:=by omega
  simp[gN,W,o,QI,gR,fin.1]
  exact fin.2
 ·simp
  refine dM (λM=> ?_) (λM=> ?_)
  ·simp[w]
   simp at L N M
   refine gd P (by simp) ⟨G,m,A,n,0⟩ ⟨⟨rfl,b.tw f,r,by simp⟩,by simp only;omega⟩ ?_
   rintro _ q ⟨c,rfl,ap,bk,t3,h⟩
   simp only at bk t3 h
   have j:=f.call h t3
   have gR:=(h.get _ (by omega)).trans gR
   have bX:=H.dL gR
   have O:(e.size=q.size)=False:=by simp;omega
   have B:(q.cons ⟨4,0,0,true,false,[c.t]⟩).get e.size=_:=(by rw[dH,ao (by omega)]:(q.cons ⟨4,0,0,true,false,[c.t]⟩).get e.size=q.get e.size).trans gR
   have fin:=Eq (m:=m) (n:=n) (d:=d) (a:=3) (k:=0) (s:=[113]) (v:= .arr q.size 0 0 1 false) (l:=[c]) (args:=[.ptr m 0 0 0,.int .i64 d]) b.ok C (j.cons ⟨4,0,0,true,false,[c.t]⟩) B
    (.inr (.inl ⟨q.size,0,0,1,false,[c.t],[c.t],rfl,by omega,by rw[fH,dy B,ao (by omega),dH,aq rfl];simp,.cons (c.ft 8) .nil,rfl⟩)) (.ix ap) (by
      have:3^1<=3^d:=Nat.pow_le_pow_right (by omega) (by omega)
      rw[dC.kJ];simp only[dC.DI,dC.jA,dC.il];omega)
   simp[gR,O,fin.1]
   exact fin.2
  simp at L N M
  obtain⟨d,rfl⟩:∃c,d=c+1:=⟨d-1,by omega⟩
  have O:(m=p.size)=False:=by have:=f.size;simp at this;simp;omega
  have ae:IntKind.i64.wrap d=(d:Int):=by rw[<-ju];exact jB (by omega) (by omega)
  simp[w,O,J]
  have j:=f.cons ⟨1,0,0,true,false,[.int .i64 6,.int .i64 7,.int .i64 8,.int .i64 11,.int .i64 13,.int .i64 17]⟩
  refine ID (by simp) j.tp j.ok (by omega) (by omega) r λu x X t4 E=> ?_
  have Y:=j.call E t4
  have b8:p.size+1=x.size:=by rw[E.size];simp
  have bN:=f.tp.lt
  have gO:x.get p.size=some ⟨1,0,0,true,false,[.int .i64 6,.int .i64 7,.int .i64 8,.int .i64 11,.int .i64 13,.int .i64 17]⟩:=(E.get _ (by omega)).trans (by simp)
  have B:x.get e.size=_:=((E.get _ (by omega)).trans (by rw[dH,ao (by have:=H.dL gR;omega)])).trans gR
  have o:∃s:Int,([.int .i64 6,.int .i64 7,.int .i64 8,.int .i64 11,.int .i64 13,.int .i64 17]:List T)[u]? =some (.int .i64 s)/\6<=s:=by
   rcases(by omega:u=0\/u=1\/u=2\/u=3\/u=4\/u=5)with rfl|rfl|rfl|rfl|rfl|rfl<;>exact⟨_,rfl,by omega⟩
  obtain⟨s,o,bi⟩:=o
  generalize([.int .i64 6,.int .i64 7,.int .i64 8,.int .i64 11,.int .i64 13,.int .i64 17]:List T)=al at*
  have X:u<6:=by omega
  simp[w,K,gO,o,X,wt,ae]
  refine kA P (by simp) ⟨G,m,A,n,d⟩ ⟨⟨rfl,b.tw Y,r,by simp only;omega⟩,by simp only;omega⟩ ?_
  rintro _ S ⟨c,rfl,av,bn,t5,y⟩
  simp only at bn t5 y
  have Z:=Y.call y t5
  have an:=(y.get _ (by omega)).trans B
  have bs:dY x S p.size=true:=ee (y.get _ (by omega))
  simp[w,K,wt,ae,bs]
  refine kA P (by simp) ⟨G,m,A,n,d⟩ ⟨⟨rfl,b.tw Z,r,by simp only;omega⟩,by simp only;omega⟩ ?_
  rintro _ U ⟨Q,rfl,aA,bp,t6,z⟩
  simp only at bp t6 z
  have bv:=Z.call z t6
  have R:=(z.get _ (by omega)).trans an
  have bu:dY S U p.size=true:=ee (z.get _ (by omega))
  have cp:dY x U p.size=true:=ee ((z.get _ (by omega)).trans (y.get _ (by omega)))
  have fin:=Eq (m:=m) (n:=n) (d:=d+1) (a:=s) (k:=0) (s:=[]) (v:=sl [c.t,Q.t]) (l:=[c,Q]) (args:=[.ptr m 0 0 0,.int .i64 (d+1:Nat)]) b.ok C bv R (pO _ _ _ (by simp)) (.bin bi av aA) (by
   have:=Nat.pow_pos (n:=d) (show 0<3 by omega)
   rw[dC.kJ,Nat.pow_succ];simp only[dC.DI,dC.jA,dC.il];omega)
  simp[Vl,bu,R,fin.1]
  exact fin.2
theorem M0(a:Nat):(L7 a).Ok Tryz.prog cx 209:=tX (λb:Q1=>b.d) NO a
def Nw(d c:Nat)(b:H)(e:Nat)(f:T)(a:Nat):Prop:=d<=a/\a<c/\¬Fp b e a/\dE f≠some a
theorem Jn(a:Nat):dE .jz≠some a:=by show(none:aa Nat)≠some a;simp
def SV(f e:Nat)(b:H)(g h:Nat)(c:T)(i:List du):Prop:=∃d,Gr b c 11 d/\gG (FT b (Nw f e b g c) (h+2)) d (i.map du.t)/\∀a,dE c=some a->f<=a/\a<e/\¬Fp b g a
theorem SV.nil(d c:Nat)(b:H)(e a:Nat):SV d c b e a (.dq [] false) []:=⟨[],Gr.nil _ _,.nil,λg f=>by simp at f⟩
theorem SV.same{i h m k:Nat}{f g:H}{d j:Nat}{n:T}{l:List du}(r:SV i h f d j n l)(v:m<=i)(w:h<=k)(c:∀a,i<=a->a<h->¬Fp f d a->g.get a=f.get a/\¬Fp g d a):SV m k g d j n l:=by
 obtain⟨p,q,o,e⟩:=r
 refine⟨p,q.mono λa b=>(c a (e a b).1 (e a b).2.1 (e a b).2.2).1,o.ft λa b=>⟨⟨by have:=b.1;omega,by have:=b.2.1;omega,(c a b.1 b.2.1 b.2.2.1).2,b.2.2.2⟩,(c a b.1 b.2.1 b.2.2.1).1⟩,λa b=> ?_⟩
 obtain⟨s,t,u⟩:=e a b
 exact⟨by omega,by omega,(c a s t u).2⟩
theorem SV.step{i b:Nat}{a f:H}{c e:Nat}{l:T}{h:List du}(m:SV i b a c e l h)(k:Step c a f)(o:b<=a.size):SV i b f c e l h:=
 m.same (au _) (au _) λd _ n g=>⟨k.get d (by omega) g,λj=>(k.fp d j).elim g λj=>by omega⟩
theorem SV.wide{f c g d:Nat}{b:H}{h a:Nat}{i:T}{e:List du}(l:SV f c b h a i e)(j:g<=f)(k:c<=d):SV g d b h a i e:=l.same j k λ_ _ _ m=>⟨rfl,m⟩
theorem SV.box{e d:Nat}{i:H}{l h:Nat}{g:T}{k:List du}(c:SV e d i l h g k){a:Nat}(j:e<=a/\a<d->False):dE g≠some a:=λf=>by
 obtain⟨_,_,_,c⟩:=c
 exact j ⟨(c a f).1,(c a f).2.1⟩
theorem SV.uf{f e:Nat}{b:H}{c g:Nat}{i:T}{h:List du}(l:SV f e b c g i h){a:Nat}{m:iE}(d:Lb c b a m)(q:a<f\/e<=a)(j:iE):SV f e (dI b a j) c g i h:=
 l.same (au _) (au _) λn o p k=>⟨by rw[dy d.get,ao (by omega)],by rw[iH (show(dI b a j).get c=b.get c by rw[dy d.get,ao (br d.ne)])];exact k⟩
theorem SV.ft{i h:Nat}{e:H}{j d:Nat}{k:T}{a:List du}(p:SV i h e j d k a):FT e (Nw i h e j .jz) (d+3) k (sl (a.map du.t)):=by
 obtain⟨n,g,b,q⟩:=p
 have o:=g.iy
 rcases g with⟨rfl,rfl⟩|⟨c,m,y,v,A,rfl,w,x⟩
 ·cases hl:a.map du.t with
  |nil=>exact iL _ _ _ _
  |cons z a=>rw[hl]at b;cases b
 ·obtain⟨r,s,u⟩:=q c rfl
  exact .inr (.inl ⟨c,m,0,_,false,n,_,rfl,⟨r,s,u,Jn c⟩,o,b.ft λl f=>⟨⟨f.1,f.2.1,f.2.2.1,Jn l⟩,rfl⟩,rfl⟩)
theorem du.ft{c:H}{V:Nat->Prop}(b:du)(d:Nat):FT c V (d+2) b.t b.t:=by
 have f:∀a:List dC,FT c V (d+1) (sl (a.map dC.t)) (sl (a.map dC.t)):=λa=>pO _ _ _ λh e=>by obtain⟨i,_,rfl⟩:=List.mem_map.1 e;simp
 have g:∀a:List du,FT c V (d+1) (sl (a.map du.t)) (sl (a.map du.t)):=λa=>pO _ _ _ λh e=>by obtain⟨i,_,rfl⟩:=List.mem_map.1 e;simp
 exact .inr (.inr ⟨_,_,b.mK,.cons (fJ ..) (.cons (fJ ..) (.cons (jH ..) (.cons (jH ..) (.cons (f _) (.cons (fJ ..) (.cons (fJ ..) (.cons (jH ..) (.cons (f _) (.cons (g _) (.cons (g _) .nil)))))))))),b.mK⟩)
theorem Mk.same{i:List Int}{m:Nat}{b c:H}{f g:Nat}(e:Mk i m b f g)(r:gh 0 c)(v:b.size<=c.size)(h:∀a,Fp b f a->c.get a=b.get a):Mk i m c f g:=by
 have k:=h f (.inl rfl)
 obtain⟨u,s,left,set,t,n,q,l,p,j,o,hl⟩:=e.ex
 refine⟨r,λa d=>by rw[iH k]at d;have:=e.fp a d;omega,e.tp.eq (h g e.fpb),u,s,left,set,t,n,q,l,p,by rw[k];exact j,o.mono λa d=>h a (.inr ⟨_,j,l,by simp[d6,T.cells,rf],d⟩),hl⟩
theorem Mk.cons{b:List Int}{f:Nat}{d:H}{e c:Nat}(a:Mk b f d e c)(g:iE):Mk b f (d.cons g) e c:=a.same (a.ok.cons g) (by simp) λh i=>by rw[dH,ao (by have:=a.fp h i;omega)]
theorem Mk.uf{d:List Int}{h:Nat}{b:H}{c e:Nat}(f:Mk d h b c e){a:Nat}{l:iE}(g:Lb c b a l)(i:iE):Mk d h (dI b a i) c e:=f.same (f.ok.put a i) (by rw[fc];exact au _) λm j=>by rw[dy g.get,ao (λk=>g.nf (by rw[<-k];exact j))]
theorem Mk.hr{b:List Int}{f:Nat}{a:H}{e c:Nat}(d:Mk b f a e c):Mk b f (TI.hr a) e c:=d.same d.ok.hr (au _) λg _=>fU a g
theorem Mk.out{b:List Int}{e:Nat}{h a:H}{m c:Nat}(d:Mk b e a m c):Mk b e (kV h a) m c:=d.same (d.ok.out h) (au _) λf _=>fj h a f
theorem SV.out{e c:Nat}{h a:H}{m b:Nat}{f:T}{d:List du}(j:SV e c a m b f d):SV e c (kV h a) m b f d:=
 j.same (au _) (au _) λg _ _ i=>⟨fj h a g,by rw[iH (fj h a m)];exact i⟩
theorem Mk.set{j:List Int}{h:Nat}{c:H}{d b f:Nat}{s left th' left':Int}{r t l n se' tx' at2 lp':Bool}{a:T}{g:List (List Nat)}(e:Mk j h c d b)(k:c.get d=some ⟨8,0,f,true,false,[.agg (rf b s left r t l n a)]⟩)(m:Gr c a 1 (g.map T.str))(hl:g.length=h):
 Step d c (dI c d ⟨8,0,f+1,true,false,[.agg (rf b th' left' se' tx' at2 lp' a)]⟩)/\Mk j h (dI c d ⟨8,0,f+1,true,false,[.agg (rf b th' left' se' tx' at2 lp' a)]⟩) d b:=by
 obtain⟨i,o,p,q⟩:=DD e.ok e.fp k (cells':=rf b th' left' se' tx' at2 lp' a) (λu a=>by
  simp only[rf,cv,df,or_false]at a
  rcases a with rfl|rfl|rfl|rfl|rfl|rfl|rfl|rfl<;>first|exact .inr (.inl rfl)|exact .inl (by simp[rf])) _ rfl
 exact⟨i,⟨i.ok.hp,i.ok.low,aw _⟩,o,e.tp.eq (by rw[dy k,ao (br e.ne)]),f+1,th',left',se',tx',at2,lp',a,g,p,q _ _ _ m (by decide),hl⟩
theorem SV.app{A:List Int}{n h p:Nat}{b:H}{d C v:Nat}{u x:T}{xs:List T}{q l2:List du}(W:SV h p b d v u q)(k:Mk A n b d C)(Z:h<=b.size)(Y:p<=b.size)(V:b.iy x=some xs)(G:gG (FT b (Nw h p b d u) (v+2)) xs (l2.map du.t))(P:∀i∈xs,i.cells.length=11)(S:xs≠ [])(ae:q.length+l2.length<=1000000):
 ∃z f,iu cx b 172 172 u x=some (.val z f)/\SV h f.size f d v z (q++l2)/\Mk A n f d C/\(∀o,Step d o b->o.size<=h->Step d o f)/\∀e,e<h->f.get e=b.get e:=by
 obtain⟨m,M,B,r⟩:=W
 have l1:m.length=q.length:=by simpa using B.length
 have l3:xs.length=l2.length:=by simpa using G.length
 obtain⟨z,f,i,e,E,X,L,rfl,I,g,j,l⟩:=M.app (cx:=cx) k.ok xK rfl xJ xK rfl rfl (by simp) V P S (by simp;omega)
 have w:¬Fp b d e:=λF=>g.elim (λg=>(r e g).2.2 F) λg=>by have:=k.fp e F;omega
 have U:=l.sz
 have R:h<=e:=g.elim (λg=>(r e g).1) λg=>by omega
 have Q:=H.dL I
 have y:f.get d=b.get d:=j d (λr=>w (by rw[<-r];exact .inl rfl)) k.lt
 have K:∀a,Nw h p b d u a->Nw h f.size f d (.arr e E 0 (m++xs).length false) a/\f.get a=b.get a:=λa c=>by
  have J:a≠e:=λi=>g.elim (λg=>c.2.2.2 (by rw[i];exact g)) λg=>by have:=c.2.1;omega
  exact⟨⟨c.1,by have:=c.2.1;omega,by rw[iH y];exact c.2.2.1,by simp;exact br J⟩,j a J (by have:=c.2.1;omega)⟩
 refine⟨_,f,i,⟨m++xs,.inr ⟨e,E,X,L,m++xs,rfl,I,aQ⟩,?_,λa D=> ?_⟩,k.same ⟨l.hp,l.low,aw _⟩ U λa c=>j a (λi=>w (by rw[<-i];exact c)) (k.fp a c),λo s hl=>⟨⟨l.hp,l.low,by have:=s.ok.sz;omega⟩,λa N O=> ?_,λa c=>by rw[iH y]at c;exact s.fp a c⟩,λa c=>j a (by omega) (by omega)⟩
 ·rw[List.map_append]
  exact(B.ft K).append (G.ft K)
 ·simp at D;subst D
  exact⟨R,Q,by rw[iH y];exact w⟩
 ·exact(j a (by omega) (by have:=s.ok.sz;omega)).trans (s.get a N O)
def wd(a:Nat):Nat:=100*10^a
theorem IU(a:Nat):wd (a+1)=10*wd a:=by unfold wd;rw[Nat.pow_succ];omega
theorem Aq(a:Nat):100<=wd a:=by
 induction a with
 |zero=>decide
 |succ a b=>rw[IU];omega
structure Tc where
 (L:List Int) (m b n d cnt:Nat)
def Wd(a:Tc)(c:H):Prop:=Mk a.L a.n c a.m a.b/\okB a.L/\a.d<=2/\a.n+a.d<=10/\a.cnt<=3
def Mo(a:Tc)(i:List T)(f:H)(h:T)(c:H):Prop:=∃e,SV f.size c.size c a.m (2*a.d+2) h e/\(∀g∈e,MS g/\g.w<=wd a.d)/\e.length<=a.cnt/\Mk a.L a.n c a.m a.b/\Step a.m f c
def Dx(a:Tc)(i:List T)(g:H)(h:T)(c:H):Prop:=∃f e,h= .agg f/\f.length=11/\FT c (Nw g.size c.size c a.m .jz) (2*a.d+4) h e.t/\MS e/\e.w<=wd a.d/\Mk a.L a.n c a.m a.b/\Step a.m g c
abbrev TO(e:Nat):kw:=jM Tc (λa b c=>(b=[.ptr a.m 0 0 0,.int .i64 a.d,.int .i64 a.cnt]/\Wd a c)/\a.d<e) Mo
abbrev rMt(e:Nat):kw:=jM Tc (λa b c=>(b=[.ptr a.m 0 0 0,.int .i64 a.d]/\Wd a c)/\a.d<e) Dx
theorem YV(k:Nat)(Z:(rMt k).Ok Tryz.prog cx 165):(TO k).Ok Tryz.prog cx 118:=by
 refine iU (tb:=⟨pt [],ht [(165,rMt k)]⟩) dX dU (iN 4194759 [] Tryz.func118) (λ_ _=>10) (λe a p W=>by obtain⟨⟨rfl,_⟩,_⟩:=W;simp[Tryz.f118]) ?_
 rintro⟨A,f,B,Q,m,C⟩ _ p ⟨⟨rfl,v,G,K,N,b⟩,M⟩ h I
 simp only at v G K N b M
 simp at I
 obtain⟨o,q,r⟩:=I
 simp[Tryz.f118]
 refine mF C (λe h n=>∃u j,SV p.size n.size n f (2*m+2) u j/\(∀l∈j,MS l/\l.w<=wd m)/\j.length=e/\Mk A Q n f B/\Step f (hr p) n/\TI.dt h 0=some (.ptr f 0 0 0)/\TI.dt h 1=some (.int .i64 m)/\TI.dt h 2=some (.int .i64 C)/\TI.dt h 7=some u/\TI.dt h 8=some (.int .i64 e)) ?_ (by omega) (k:=0) (by omega) ⟨.dq [] false,[],SV.nil _ _ _ _ _,by simp,rfl,v.hr,Step.refl v.ok.hr,by simp[o,q,r]⟩
 rintro e h n a6 ⟨u,j,sv,hl,a7,y,z,o,q,r,E,F⟩
 obtain⟨bs,bn,left,set,bp,aA,bk,bi,a8,D,aE,aX⟩:=y.ex
 simp only[rf]at D
 simp[o,r,F,D]
 refine dM (λL=> ?_) (λL=> ?_)
 ·simp at L
  simp[o,q,E]
  refine gd Z (by simp) ⟨A,f,B,Q,m,0⟩ ⟨⟨rfl,y,G,K,N,by simp⟩,M⟩ ?_
  rintro _ d ⟨c,l,rfl,J,ft,V,O,g,s⟩
  simp only at ft O g s
  have Y:=z.ok.sz
  have P:=s.ok.sz
  simp at Y
  have an:=((sv.step s (au _)).step (Step.cons g.ok g.lt ⟨11,0,0,true,false,[.agg c]⟩) P).wide (au _) P
  have H:∀i,i<d.size->(d.cons ⟨11,0,0,true,false,[.agg c]⟩).get i=d.get i:=λi b=>by rw[dH,ao (by omega)]
  have U:FT (d.cons ⟨11,0,0,true,false,[.agg c]⟩) (Nw p.size d.size (d.cons ⟨11,0,0,true,false,[.agg c]⟩) f u) (2*m+4) (.agg c) l.t:=ft.mono λi b=>⟨⟨by have:=b.1;omega,b.2.1,by rw[iH (H f g.lt)];exact b.2.2.1,sv.box λR=>by have:=b.1;omega⟩,H i b.2.1⟩
  obtain⟨av,aN,S,ap,ae,al,_⟩:=an.app (g.cons ⟨11,0,0,true,false,[.agg c]⟩) (x:= .arr d.size 0 0 1 false) (xs:=[.agg c]) (l2:=[l]) (by simp;omega) (by simp) (by rw[fH];simp) (.cons U .nil) (by simp[T.cells,J]) (by simp) (by simp;omega)
  simp[o,q,r,F,S,J,fQ (show-9223372036854775808<=(e:Int)+1 by omega) (show(e:Int)+1<9223372036854775808 by omega)]
  exact⟨e+1,by omega,by omega,av,j++[l],ap,λx X=>(List.mem_append.1 X).elim (hl x) λR=>by rw[List.mem_singleton.1 R];exact⟨V,O⟩,by simp;omega,ae,al _ ((z.trans s).trans (Step.cons g.ok g.lt _)) (by simp),by simp⟩
 ·simp[E]
  exact⟨j,sv.out,hl,by simp only;omega,y.out,z.out⟩
theorem Mk.held{s:List Int}{q:Nat}{c h:H}{a b f:Nat}{m left:Int}{l n g k:Bool}{p o:T}{j:List (List Nat)}{w:List Nat}(d:Mk s q c a b)(t:c.get a=some ⟨8,0,f,true,false,[.agg (rf b m left l n g k p)]⟩)(v:Gr c p 1 (j.map T.str))(hl:j.length=q)(x:Xt c p 1 ((j++[w]).map T.str) o h):
 h.get a=c.get a/\Step a c (dI h a ⟨8,0,f+1,true,false,[.agg (rf b m left l n g k o)]⟩)/\Mk s (q+1) (dI h a ⟨8,0,f+1,true,false,[.agg (rf b m left l n g k o)]⟩) a b:=by
 obtain⟨e,C⟩:=vd (i:=7) d.ok d.fp t (by simp[rf]) (by decide) v x
 obtain⟨r,y,A,_⟩:=C _ rfl
 have u:=e.trans t
 obtain⟨G,F,z,_⟩:=d.tp
 refine⟨e,r,⟨r.ok.hp,r.ok.low,aw _⟩,y,d.tp.eq ?_,f+1,m,left,l,n,g,k,o,j++[w],(dy u _ a).trans (aq rfl),A,by simp;omega⟩
 rw[dy u,ao (br d.ne)]
 refine x.2.1 b d.tp.lt λB=> ?_
 obtain⟨D,f,E,I,e,_⟩:=v.box B
 rw[z]at e;simp at e
theorem Mk.drop{p:List Int}{g:Nat}{b:H}{c a l:Nat}{i left:Int}{h j e f:Bool}{n d:T}{m:List (List Nat)}(k:Mk p (g+1) b c a)(q:b.get c=some ⟨8,0,l,true,false,[.agg (rf a i left h j e f n)]⟩)(hl:m.length=g+1)(r:Gr b d 1 ((m.map T.str).take g))(s:dE d=dE n):
 Step c b (dI b c ⟨8,0,l+1,true,false,[.agg (rf a i left h j e f d)]⟩)/\Mk p g (dI b c ⟨8,0,l+1,true,false,[.agg (rf a i left h j e f d)]⟩) c a:=by
 obtain⟨o,t,u,v⟩:=DD k.ok k.fp q (cells':=rf a i left h j e f d) (λw hm=>by
  simp only[rf,cv,df,or_false]at hm
  rcases hm with rfl|rfl|rfl|rfl|rfl|rfl|rfl|hm
  ·exact .inl (by simp[rf])
  iterate 6 exact .inr (.inl rfl)
  exact .inr (.inr ⟨n,by simp[rf],by rw[hm];exact s⟩)) _ rfl
 exact⟨o,⟨o.ok.hp,o.ok.low,aw _⟩,t,k.tp.eq (by rw[dy q,ao (br k.ne)]),l+1,i,left,h,j,e,f,d,m.take g,u,by rw[List.map_take];exact v _ _ _ r (by decide),by rw[List.length_take];omega⟩
structure IBk where
 (L:List Int) (m b n d:Nat) (s:List Nat)
def Yn(a:IBk)(c:List T)(e:H):Prop:=c=[.ptr a.m 0 0 0,.str a.s,.int .i64 a.d]/\Mk a.L a.n e a.m a.b/\okB a.L/\a.d<=2/\a.n+a.d<=9
abbrev rBk(g:Nat):kw:=jM IBk (λa c e=>Yn a c e/\a.d<g) (λa c e h f=>Mo ⟨a.L,a.m,a.b,a.n,a.d,2⟩ c e h f)
theorem aag(q:Nat)(aA:(TO q).Ok Tryz.prog cx 118):(rBk q).Ok Tryz.prog cx 213:=by
 refine iU (tb:=⟨pt [],ht [(63,jM xW tz qB),(118,TO q)]⟩) dX dU (iN 199 [] Tryz.func213) (λ_ _=>10) (λi a f av=>by obtain⟨⟨rfl,_⟩,_⟩:=av;simp[Tryz.f213]) ?_
 rintro⟨P,d,Q,n,R,s⟩ _ f ⟨⟨rfl,t,p,B,an⟩,C⟩ bn A
 simp only at t p B an C
 simp at A
 obtain⟨z,W,X⟩:=A
 have g:=t.hr
 obtain⟨N,L,left,set,M,x,G,F,E,b,c,hl⟩:=g.ex
 obtain⟨a6,Y,k,j⟩:=c.nY (cx:=cx) g.ok pH rfl uL rfl (by simp) (by simp) s (by simp;omega)
 obtain⟨I,w,e⟩:=g.held b c hl j
 have m:=I.trans b
 simp only[rf]at b m w e
 have y:f.get d=_:=(fU f d).symm.trans b
 have bk:(d=f.size)=False:=by have:=t.lt;simp;omega
 rw[p7]at k
 simp[Tryz.f213,z,W,X,y,k,m,dG,j.1.fT,j.1.cells]
 generalize dI Y d _=a7 at*
 clear b y m I j k c g
 obtain⟨N,L,left,set,M,x,G,F,E,b,c,hl⟩:=e.ex
 simp only[rf]at b
 simp[b]
 refine qS (by simp) e.tp e.ok (by omega) (by omega) p λr a8 bi t2 aN=> ?_
 obtain⟨aE,J⟩:=e.tape aN t2
 have S:binop .add (.int .i64 1) (.int .i64 r)=some (.int .i64 ((1+r:Nat):Int)):=by rw[fQ (by omega) (by omega)];simp
 simp[S]
 refine gd aA (by simp) ⟨P,d,Q,n+1,R,1+r⟩ ⟨⟨by simp,aE,p,B,by simp only;omega,by simp only;omega⟩,C⟩ ?_
 rintro v Z ⟨l,sv,D,ap,u,K⟩
 simp only at sv D ap u K
 obtain⟨N,L,left,set,M,x,G,F,E,b,c,hl⟩:=u.ex
 have V:=b
 simp only[rf]at b
 have al:=c.len (cx:=cx) Z Pm _ rfl
 obtain⟨a6,U,o,ae⟩:=c.cut (cx:=cx) (ty:=Pm) rfl uL rfl (n:=n) (by simp;omega) (by simp;omega)
 obtain⟨h,H⟩:=u.drop V hl o ae
 have T:binop .sub (.int .i64 ((n:Int)+1)) (.int .i64 1)=some (.int .i64 n):=by
  rw[wt,<-ju,jB (by omega) (by omega)];simp
 simp only[rf]at h H
 simp[z,b,al,hl,T,U,dG,o.fT,o.cells]
 have aX:=((w.trans J).trans K).trans h
 have O:=(w.trans J).ok.sz
 simp at O
 exact⟨l,((sv.step h (au _)).wide O (by have:=h.ok.sz;simp)).out,D,by simp only;omega,H.out,aX.out⟩
end
end Go.Proofs.YtmaeadedikngoaaGreatDoor
