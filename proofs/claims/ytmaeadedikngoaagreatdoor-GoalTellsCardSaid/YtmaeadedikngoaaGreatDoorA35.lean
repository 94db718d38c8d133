/- Texts WOb to WOh. -/
import Derived.Test.YtmaeadedikngoaaGreatDoorA34
set_option linter.all false
set_option maxRecDepth 100000
set_option maxHeartbeats 8000000
namespace Go.Proofs.YtmaeadedikngoaaGreatDoor
noncomputable section
open Go Go.TI
attribute [-simp] List.map_take List.map_drop List.map_append fG fg ei Bool.not_or Bool.not_and
attribute [simp] fF fh
attribute [-simp] size_cons
structure Rj where
 (v:T) (es:List T)
def yx(e:Nat)(a:Rj)(c:List T)(b:H):Prop:=c=[a.v]/\b.jf a.v=some a.es/\(∀d∈a.es,d.cells.length=e)/\a.es.length<=1000000/\ig 0 b
def uG(f:Nat)(e:Rj)(g:List T)(b:H)(d:T)(c:H):Prop:=Gr c d f e.es/\Nb b c/\∀a,dS d=some a->b.size<=a
def xY{a bytes:Nat}{l:aj}(x:Dt Tryz.prog cx l (.clone a bytes))(v:1<=bytes)(w:bytes<=1000):(jw Rj (yx a) (uG a)).Ok Tryz.prog cx l:=by
 intro i b ⟨⟨p,e⟩,y⟩;have n:∀h:Rj,yx a h i b->∃d c,Cc (.clone a bytes) i b=some (d,c)/\uG a h i b d c:=by
  rintro⟨p,e⟩ ⟨rfl,g,m,hl,o⟩;simp only at g m hl;show∃d c,(dU (b.jf p) λe=>List.casesOn e (some (dF,b)) λ_ _=>b.jc a bytes [] e)=some (d,c)/\_;rw[g,dX];cases e with
  |nil=>exact⟨_,_,rfl,Gr.nil _ _,Nb.refl o,λr j=>by simp at j⟩
  |cons F E=>
   refine⟨_,_,o8 m v (aS (Nat.mul_le_mul hl w) dz),Gr.new (ep:=0) (ver:=0) (ex:=false) dA,(Nb.refl o).cons _,λr j=>by simp at j;omega⟩
 obtain⟨d,c,k,C⟩:=n _ y;refine⟨d,c,λh g=> ?_,λq A B s z u=>x _ _ _ _ k q A B s z u⟩;obtain⟨r2,D,f,t⟩:=n h g;rw[k]at f;simp only[ar,ay]at f;rw[f.1,f.2];exact t
def HG:(jw Rj (yx 1) (uG 1)).Ok Tryz.prog cx 54:=xY (wa (fn:=Tryz.f54) (t:=38) (tb:=4) (te:=Dw) eQ Tryz.func54 dI dI dI dI dI dI dI) dD (bytes:=8) dD 
def Py:(jw Rj (yx 1) (uG 1)).Ok Tryz.prog cx 125:=xY (wa (fn:=Tryz.f125) (t:=33) (tb:=4) (te:=Y8) eQ Tryz.func125 dI dI dI dI dI dI dI) dD (bytes:=1) dD 
def Pw:(jw Rj (yx 3) (uG 3)).Ok Tryz.prog cx 126:=xY (wa (fn:=Tryz.f126) (t:=34) (tb:=4) (te:=AE) eQ Tryz.func126 dI dI dI dI dI dI dI) dD (bytes:=24) dD 
def LkG(f:H)(d:Nat->Prop)(e:T)(c:ed):Prop:=∃a,e= .agg [dE c.iX,a]/\Gr f a 1 (gF c.eJ)/\∀b,dS a=some b->d b
def LkD(b:List T):Prop:=∀(c d:Nat) (e f g h:T) (a:Nat),b[c]? =some (.agg [g,e])->b[d]? =some (.agg [h,f])->dS e=some a->dS f=some a->c=d
def UE(c:fH)(j:List T)(h:H)(i:T)(b:H):Prop:=∃d e f g,i=NR c d e f/\Bk h.size b.size b d e f g c/\Nb h b/\iB (LkG b λa=>h.size<=a/\a<b.size/\dS d≠some a/\dS e≠some a/\dS f≠some a) g c.em/\LkD g
structure ClO(S:fH)(h h':H)(i:Nat)(es:List T)(ver:Nat):Prop where
 nb:Nb h h'
 z:h.size+3<=h'.size
 b0:h'.get h.size=some (dG 4 0 [S.t])
 b1:h'.get (h.size+1)=some (dG 4 0 [.agg [dF,dE 0,dF,dF]])
 b2:h'.get (h.size+1+1)=some ⟨2,0,ver,true,false,es⟩
 l:es.length=S.em.length
 c:∀e∈es,∃x y,e= .agg [x,y]
 d:LkD es
 bd:∀(j:Nat) (o x:T) (c:Nat),es[j]? =some (.agg [o,x])->dS x=some c->c<h'.size
 a:iB (LkG h' λk=>h.size+3<=k/\k<h'.size) (es.take i) (S.em.take i)
def Px:(jw fH Es UE).Ok Tryz.prog cx 80:=by
 refine jo (tb:=⟨pt [],ht [(54,jw Rj (yx 1) (uG 1)),(125,jw Rj (yx 1) (uG 1)),(126,jw Rj (yx 3) (uG 3))]⟩) fa eQ (iR 30783 [(5,[(3,6)])] Tryz.func80) (λ_ _=>1000005) (λl a d c4=>by obtain⟨rfl,_⟩:=c4;simp[Tryz.f80]) ?_;rintro f _ d ⟨rfl,de,hl,ea,ht,hr⟩ z bX;simp at bX;have b9:=de.hr;simp[Tryz.f80,bX,show f.em.length*32<=70368744177664 by omega];refine fy f.em.length dz (λl z i=>∃v ver,ClO f d i l v ver/\dH z 1 (.ptr d.size 0 0 0)/\dH z 2 (.ptr (d.size+1) 0 0 0)/\dH z 3 (.arr (d.size+1+1) 0 0 f.em.length false)/\dH z 11 (sl (f.em.map ed.t))/\dH z 12 (dE f.em.length)/\dH z 13 (dE l)) ?_ ?_ dz ?_
 ·rintro l z i aN cX ⟨v,ver,⟨x,c7,Z,a7,a8,aE,bz,bB,aA,Y⟩,S,bu,ap,bs,al,an⟩;have a6:ig 0 i:=⟨x.ok.hp,x.ok.low,aw _⟩;have eb:=hr f.em[l] (aC aN);have c6:f.em.take (l+1)=f.em.take l++[f.em[l]]:=aZ aN;obtain⟨ds,dv,c1⟩:=bz v[l] (aC dz);have ec:(d.size+1+1=i.size)=False:=dB;have dd:=a6.low;simp[ap,bs,al,an,aN,dd];generalize f.em[l]=w at*
  have bN:=a6.cons (dG 2 1 [w.t]);refine li HG dA ⟨sl (gF w.eJ),gF w.eJ⟩ ⟨rfl,dA,by simp[T.cells],dB,bN⟩ ?_;rintro r L ⟨G,y,av⟩;simp only at G;have dm:=y.ok.sz;simp at dm;have aX:L.get (d.size+1+1)=some ⟨2,0,ver,true,false,v⟩:=(y.get (d.size+1+1) dB).trans (by rw[dV,ao dz];exact a8);have ef:fc (i.cons (dG 2 1 [w.t])) L (d.size+1+1)=true:=fk (y.get _ dB);have dk:fc (i.cons (dG 2 1 [w.t])) L i.size=true:=fk (y.get _ dA);simp[S,bu,ap,bs,al,an,G.il,G.cells,aX,dk,aN,aE,c1,dZ,cX];have ae:∀c,c<i.size->c≠d.size+1+1->(dY L (d.size+1+1) ⟨2,0,ver+1,true,false,v.set l (.agg [dE w.iX,r])⟩).get c=i.get c:=λc e M=>by
   rw[dP aX,ao M];exact(y.get c dB).trans (by rw[dV,ao dz])
  have dn:=x.ok.sz;refine⟨v.set l (.agg [dE w.iX,r]),ver+1,⟨⟨(⟨y.ok.hp,y.ok.low,aw _⟩:ig 0 L).put _ _|>.hp,(⟨y.ok.hp,y.ok.low,aw _⟩:ig 0 L).put _ _|>.low,dB⟩,λc e=>(ae c dz dz).trans (x.get c e)⟩,dB,(ae _ dz dz).trans Z,(ae _ dz dz).trans a7,by rw[dP aX,aq rfl],by simpa using aE,λC D=> ?_,?_,?_,?_⟩
  ·rcases cg D with q|q
   ·exact bz C q
   ·exact⟨_,_,q⟩
  ·intro N k B g o b8 c h A j p;rw[bW]at h A;split at h<;>split at A
   ·omega
   ·split at h
    ·simp only[ar,T.agg.injEq,aL,and_true]at h;have:=av c (by rw[h.2];exact j);have:=aA k _ _ c A p;simp at*;omega
    ·simp at h
   ·split at A
    ·simp only[ar,T.agg.injEq,aL,and_true]at A;have:=av c (by rw[A.2];exact p);have:=aA N _ _ c h j;simp at*;omega
    ·simp at A
   ·exact bB N k B g o b8 c h A j p
  ·intro N o B c h j;rw[bW]at h;rw[fU];split at h
   ·split at h
    ·simp only[ar,T.agg.injEq,aL,and_true]at h;obtain⟨_,_,_,_,p,_⟩:=G.box (b:=c) (by rw[h.2];exact j);exact H.ew p
    ·simp at h
   ·have:=aA N _ _ c h j;omega
  ·rw[c6,aZ dB];refine iB.append ?_ (.cons ?_ .nil)
   ·rw[List.take_set_of_le (au _)];exact Y.imp λC m ⟨X,P,Q,u⟩=>⟨X,P,Q.mono λc e=>ae c (u c e).2 (by have:=(u c e).1;omega),λc e=>⟨(u c e).1,by have:=(u c e).2;simp;omega⟩⟩
   ·simp only[List.getElem_set_self];refine⟨r,rfl,(G.mono λc e=>by rw[dP aX,ao (by have:=av c e;simp at this;omega)]),λc e=>⟨by have:=av c e;simp at this;omega,?_⟩⟩;obtain⟨_,_,_,_,p,_⟩:=G.box e;have:=H.ew p;simpa using this
 ·rintro z i ⟨v,ver,⟨x,c7,Z,a7,a8,aE,bz,bB,aA,Y⟩,S,bu,ap,bs,al,an⟩;have a6:ig 0 i:=⟨x.ok.hp,x.ok.low,aw _⟩;have bn:∀g c,(dY i d.size g).get c=if c=d.size then some g else i.get c:=λg c=>dP Z g c;simp[S,ap,al,an,Z,bn];obtain⟨J,U⟩:∃J,J=dY i d.size (dG 4 1 [.agg [.arr (d.size+1+1) 0 0 f.em.length false,dE f.tx,sl (f.done.map T.bool),sl (f.dK.map dN.t)]]):=⟨_,rfl⟩;have eh:J.size=i.size:=by rw[U];simp
  have di:ig 0 J:=by rw[U];exact a6.put _ _
  have gA:∀c,c≠d.size->J.get c=i.get c:=λc e=>by rw[U,bn,ao e]
  have cp:J.get d.size=some (dG 4 1 [.agg [.arr (d.size+1+1) 0 0 f.em.length false,dE f.tx,sl (f.done.map T.bool),sl (f.dK.map dN.t)]]):=by rw[U,bn,aq rfl]
  rw[<-U];refine iq Py dA ⟨sl (f.done.map T.bool),f.done.map T.bool⟩ ⟨rfl,dA,by intro C D;obtain⟨b,_,rfl⟩:=List.mem_map.1 D;rfl,dB,di⟩ ?_;rintro F s ⟨R,O,ca⟩;simp only at R;have eo:=O.ok.sz;have b6:=(O.get d.size dz).trans cp;have bp:∀g c,(dY s d.size g).get c=if c=d.size then some g else s.get c:=λg c=>dP b6 g c;simp[S,R.il,R.cells,b6,bp,dZ];obtain⟨K,V⟩:∃K,K=dY s d.size (dG 4 2 [.agg [.arr (d.size+1+1) 0 0 f.em.length false,dE f.tx,F,sl (f.dK.map dN.t)]]):=⟨_,rfl⟩;have er:K.size=s.size:=by rw[V];simp
  have bN:ig 0 K:=by rw[V];exact(⟨O.ok.hp,O.ok.low,aw _⟩:ig 0 s).put _ _
  have bk:∀c,c≠d.size->K.get c=s.get c:=λc e=>by rw[V,bp,ao e]
  have cL:K.get d.size=some (dG 4 2 [.agg [.arr (d.size+1+1) 0 0 f.em.length false,dE f.tx,F,sl (f.dK.map dN.t)]]):=by rw[V,bp,aq rfl]
  rw[<-V];refine iq Pw dA ⟨sl (f.dK.map dN.t),f.dK.map dN.t⟩ ⟨rfl,dA,by intro C D;obtain⟨b,_,rfl⟩:=List.mem_map.1 D;rfl,dB,bN⟩ ?_;rintro W n ⟨gT,E,cb⟩;simp only at gT;have et:=E.ok.sz;have Pr:ig 0 n:=⟨E.ok.hp,E.ok.low,aw _⟩;have b7:=(E.get d.size dz).trans cL;have c9:n.get (d.size+1)=_:=(E.get (d.size+1) dz).trans ((bk _ dz).trans ((O.get _ dz).trans ((gA _ dz).trans a7)));have bT:∀g c,(dY n d.size g).get c=if c=d.size then some g else n.get c:=λg c=>dP b7 g c;have I:∀g B c,(dY (dY n d.size g) (d.size+1) B).get c=if c=d.size+1 then some B else if c=d.size then some g else n.get c:=λg B c=>by
   rw[mM (by simp[Pr.hp]) dB,bT]
  simp[S,bu,gT.il,gT.cells,b7,c9,bT,I,dZ];rw[bJ dz,aO]at Y;have bi:∀c,c<i.size->c≠d.size->n.get c=i.get c:=λc e M=>(E.get c dz).trans ((bk c M).trans ((O.get c dz).trans (gA c M)));have ce:∀c,c<s.size->c≠d.size->n.get c=s.get c:=λc e M=>(E.get c dz).trans (bk c M);have dn:=x.ok.sz;have bC:∀c,dS F=some c->i.size<=c/\c<s.size:=λc e=>⟨by have:=ca c e;omega,by obtain⟨_,_,_,_,p,_⟩:=R.box e;exact H.ew p⟩;have bH:∀c,dS W=some c->s.size<=c/\c<n.size:=λc e=>⟨by have:=cb c e;omega,by obtain⟨_,_,_,_,p,_⟩:=gT.box e;exact H.ew p⟩;have bS:iB (LkG (lO d (dY (dY n d.size (dG 4 3 [.agg [.arr (d.size+1+1) 0 0 f.em.length false,dE f.tx,F,W]])) (d.size+1) (dG 4 1 [.agg [.arr (d.size+1+1) 0 0 f.em.length false,dE f.tx,F,W]]))) λc=>d.size<=c/\c<n.size/\dS (.arr (d.size+1+1) 0 0 f.em.length false)≠some c/\dS F≠some c/\dS W≠some c) v f.em:=Y.imp λC w ⟨X,P,Q,u⟩=>⟨X,P,Q.mono λc e=>by
   have:=u c e;rw[fO,I,ao dz,ao dz,bi _ dz dz],λc e=>by
   have:=u c e;exact⟨dz,dz,dB,λq=>by have:=bC c q;omega,λq=>by have:=bH c q;omega⟩⟩
  refine⟨.arr (d.size+1+1) 0 0 f.em.length false,F,W,v,rfl,⟨?_,R.mono λc e=> ?_,gT.mono λc e=> ?_,bS.imp λC w ⟨X,P,Q,u⟩=>⟨X,P,.inr Q,by simpa using u⟩,λc e=> ?_⟩,⟨⟨?_,?_,?_⟩,λc e=> ?_⟩,by simpa using bS,bB⟩
  ·rw[<-aE];exact Gr.new (ep:=0) (ver:=ver) (ex:=true) (by rw[fO,I,ao dz,ao dz,bi _ dz dz];exact a8)
  ·have:=bC c e;rw[fO,I,ao dz,ao dz,ce _ dz dz]
  ·have:=bH c e;rw[fO,I,ao dz,ao dz]
  ·simp;rcases e with q|q|q
   ·simp at q;omega
   ·have:=bC c q;omega
   ·have:=bH c q;omega
  ·exact(((Pr.put _ _).put _ _).out d).hp
  ·exact(((Pr.put _ _).put _ _).out d).low
  ·simp;omega
  ·rw[fO,I,ao dz,ao dz,bi _ dz dz];exact x.get c e
 ·simp;refine⟨List.replicate f.em.length (.agg [dE 0,dF]),0,⟨(((Nb.refl b9).cons _).cons _).cons _|>.ok,λc e=>(((((Nb.refl b9).cons _).cons _).cons _).get c e).trans (gh d c)⟩,dA,dA,dA,dA,dA,λC D=>⟨_,_,(bU D)⟩,?_,?_,.nil⟩
  ·intro N k B g o b8 c h _ j _;have:=bU (ax h);simp only[T.agg.injEq,aL,and_true]at this;rw[this.2]at j;simp at j
  ·intro N o B c h j;have:=bU (ax h);simp only[T.agg.injEq,aL,and_true]at this;rw[this.2]at j;simp at j
def ux:hU:=⟨dN×Int,λa=>[a.1.t,dE a.2],λa=>True,λa=> .bool (decide (a.1.iL=3)&&decide (a.1.cond=a.2)),λa c b=>by simp at b;rw[dN.inj b.1,b.2]⟩
def OQ:ux.Ok Tryz.prog cx 130:=by
 refine iv (tb:=⟨pt [],ht []⟩) fa eQ (iR 23 [] Tryz.func130) (λd=>1) (by simp[ux]) (by simp[ux,Tryz.f130]) ?_;rintro⟨f,e⟩ _ g a;simp[ux]at a|-;obtain⟨b,c⟩:=a;simp[Tryz.f130,b,c]
def LE{c:fJ}(ht:c.p 130=some ux)(a:dN)(b:Int):rl Tryz.prog cx c 130 [a.t,dE b]=some (.bool (decide (a.iL=3)&&decide (a.cond=b))):=im ht OQ (a,b) trivial
def L4(d:Int):∀(a c:List dN) (b:Nat),iz d (a++c) b=iz d a b++iz d c (b+a.length):=by
 intro a;induction a with
 |nil=>intro c b;rfl
 |cons f a e=>intro c b;simp only[cG,iz,e,bj];rw[show b+(a.length+1)=b+1+a.length by omega];split<;>rfl
def BP(c:Int)(b:List dN){a:Nat}(d:a<b.length):iz c (b.take (a+1)) 0=iz c (b.take a) 0++(if b[a].iL=3/\b[a].cond=c then [(a:Int)]else []):=by
 rw[aZ d,L4,List.length_take,cA dz];simp[iz]
def mZ(a:Int)(W:List Int):Int:=if a∈W then a else W.headD (-1)
structure IM where
 (S:fH) (c0 c2 c3:T) (c wk:Int)
structure Xy(h h':H)(c3:T)(l:List dN):Prop where
 g:Gr h' c3 3 (l.map dN.t)
 ok:ig h.size h'
 fr:∀c,c<h.size->dS c3≠some c->h'.get c=h.get c
def Uv(a:IM)(d:List T)(b:H):Prop:=d=[NR a.S a.c0 a.c2 a.c3,dE a.c,dE a.wk]/\Gr b a.c3 3 (a.S.dK.map dN.t)/\ig 0 b/\a.S.dK.length<=1000000
def Oz(a:IM)(g:List T)(d:H)(f:T)(e:H):Prop:=∃b,f= dE b/\b=mZ a.wk (iz a.c a.S.dK 0)/\Xy d e a.c3 (if iz a.c a.S.dK 0=[]then a.S.dK else a.S.dK.modify b.toNat (kz 4))
def Mp{wk:Int}{W:List Int}{b:Nat}(d:∀c∈W,0<=c/\c<b):mZ wk (W++[(b:Int)])=if mZ wk W<0\/(b:Int)=wk then(b:Int)else mZ wk W:=by
 unfold mZ;by_cases a:wk∈W
 ·have:=d wk a;rw[aq (by simp[a]),aq a,ao dz]
 ·rw[ao a];by_cases e:(b:Int)=wk
  ·subst e;rw[aq dA,aq (.inr rfl)]
  ·rw[ao (by simp[a];omega)];cases W with
   |nil=>simp
   |cons c W=>have:=d c dA;simp;intro f;omega
def O6:(jw IM Uv Oz).Ok Tryz.prog cx 85:=by
 refine jo (tb:=⟨pt [(130,ux)],ht []⟩) fa eQ (iR 9126837199 [] Tryz.func85) (λ_ _=>1000005) (λi a d bk=>by obtain⟨rfl,_⟩:=bk;simp[Tryz.f85]) ?_;rintro⟨⟨L,aN,bz,b⟩,Y,Z,K,c,wk⟩ _ d ⟨rfl,m,aE,hl⟩ g al;simp only at m hl;simp[NR]at al;obtain⟨a6,h,p⟩:=al;have av:=λh:H=>m.len (cx:=cx) h L7 _ rfl;rw[aG]at av;have X:∀e,dS K=some e->e<d.size:=λe bi=>by obtain⟨_,_,_,_,bn,_⟩:=m.box bi;exact H.ew bn
 simp[Tryz.f85,a6,av];refine fy b.length dz (λi g h'=>Nb d h'/\d.size<h'.size/\h'.get d.size=some (dG 4 0 [.agg [Y,dE aN,Z,K]])/\dH g 1 (dE c)/\dH g 2 (dE wk)/\dH g 3 (.ptr d.size 0 0 0)/\dH g 7 (dE (mZ wk (iz c (b.take i) 0)))/\dH g 11 K/\dH g 12 (dE b.length)/\dH g 13 (dE i)) ?_ ?_ dz ?_
 ·rintro i g h' Q an ⟨f,bp,J,h,p,I,n,G,z,A⟩;have v:ig 0 h':=⟨f.ok.hp,f.ok.low,aw _⟩;obtain⟨e,M,U,N,aX,C,r,j,R⟩:=m.at (x:=b[i].t) (i:=i) (by simp[Q]);rw[aG]at C R;subst C;have o:=(f.get e (H.ew r)).trans r;have bB:(e=h'.size)=False:=by have:=H.ew o;simp;omega
  have bs:=v.low;have T:=BP c b Q;simp[h,p,n,G,z,A,Q,o,j,bs,LE];generalize b[i]=l at*
  have a7:∀x∈iz c (b.take i) 0,0<=x/\x<i:=λx j=>by
   obtain⟨u,y,D⟩:=tI j;simp at D;omega
  have O:=Mp (wk:=wk) a7;have aA:=f.cons (dG 3 1 [l.t]);have V:(h'.cons (dG 3 1 [l.t])).get d.size=some (dG 4 0 [.agg [Y,dE aN,Z,.arr e M 0 b.length false]]):=by rw[dV,ao dz];exact J
  refine ee (λq=> ?_) (λq=> ?_)
  ·simp only[aB,bV,aK]at q;rw[aq ⟨q.1.1,q.1.2⟩]at T;rw[aq q.2,<-T]at O;simp[h,p,I,G,z,A,an];exact⟨aA,dz,by simpa using V,O.symm⟩
  ·simp[h,p,I,n,G,z,A,an];refine⟨aA,dz,by simpa using V,?_⟩;rw[T];split
   ·rename_i ap;simp only[Bool.and_eq_false_iff,bM,bw]at q;rw[O,ao];rcases q with(q|q)|q
    ·exact absurd ap.1 q
    ·exact absurd ap.2 q
    ·rintro(k|k)
     ·exact q.1 k
     ·exact q.2 k
   ·simp
 ·rintro g h' ⟨f,bp,J,h,p,I,n,G,z,A⟩;rw[aO]at n;simp[n,z,A];have v:ig 0 h':=⟨f.ok.hp,f.ok.low,aw _⟩;refine ee (λq=> ?_) (λq=> ?_)
  ·have q:0<=mZ wk (iz c b 0):=by simpa using q
   have s:mZ wk (iz c b 0)∈iz c b 0:=by
    generalize iz c b 0=W at*
    unfold mZ at*
    split
    ·assumption
    ·rename_i E;rw[ao E]at q;cases W with
     |nil=>simp at q
     |cons x W=>simp
   obtain⟨u,y,D⟩:=tI s;have S:iz c b 0≠ []:=λk=>by rw[k]at s;simp at s
   obtain⟨l,ht⟩:∃l,b[u]? =some l:=⟨_,az D⟩;obtain⟨e,M,U,N,aX,C,r,j,R⟩:=m.at (x:=l.t) (i:=u) (by simp[ht]);rw[aG]at C R;subst C;have o:=(f.get e (H.ew r)).trans r;simp at y;simp[I,n,J,y,o,j,D];refine⟨_,rfl,y.symm,?_⟩;simp only;rw[ao S,cJ,oq ht];have bu:=H.ew r;refine⟨?_,⟨((v.put e _).out d).hp,((v.put e _).out d).low,dB⟩,λF B E=> ?_⟩
   ·have ae:=(m.mono (h':=h') λw P=>f.get w (X w P)).setAt rfl o u (kz 4 l).t (h':=lO d (dY h' e ⟨3,M,U+1,N,false,aX.set u (kz 4 l).t⟩)) (ver2:=U+1) (ex2:=N) (by rw[fO,dP o,aq rfl]);rw[<-bY]at ae;exact ae
   ·simp at E;rw[fO,dP o,ao dz];exact f.get F B
  ·have q:¬0<=mZ wk (iz c b 0):=by simpa using q
   have S:iz c b 0=[]:=by
    generalize a8:iz c b 0=W at*
    have s:∀x∈W,0<=x:=λx j=>by rw[<-a8]at j;obtain⟨u,y,D⟩:=tI j;omega
    unfold mZ at q;split at q
    ·rename_i E;exact absurd (s _ E) q
    ·cases W with
     |nil=>rfl
     |cons x W=>have:=s x dA;simp at q;omega
   simp[n];refine⟨_,rfl,rfl,?_⟩;simp only;rw[aq S];exact⟨(m.mono (h':=h') λw P=>f.get w (X w P)).out d,⟨(v.out d).hp,(v.out d).low,dB⟩,λF B _=>(fO d h' F).trans (f.get F B)⟩
 ·simp;exact⟨⟨((Nb.refl aE.hr).cons _).ok,λc B=>(((Nb.refl aE.hr).cons _).get c B).trans (gh d c)⟩,h,p,by simp[mZ,iz]⟩
def Cp(b:Int)(a:dN):dN:=if a.iL=3/\a.cond=b then kz 4 a else a
def Uw(a:IM)(d:List T)(b:H):Prop:=d=[NR a.S a.c0 a.c2 a.c3,dE a.c]/\Gr b a.c3 3 (a.S.dK.map dN.t)/\ig 0 b/\a.S.dK.length<=1000000
def OB(a:IM)(f:List T)(b:H)(e:T)(d:H):Prop:=e= dE (iz a.c a.S.dK 0).length/\Xy b d a.c3 (a.S.dK.map (Cp a.c))
def Hu:(jw IM Uw OB).Ok Tryz.prog cx 86:=by
 refine jo (tb:=⟨pt [(130,ux)],ht []⟩) fa eQ (iR 270071 [] Tryz.func86) (λ_ _=>1000005) (λi a d a7=>by obtain⟨rfl,_⟩:=a7;simp[Tryz.f86]) ?_;rintro⟨⟨L,bp,bu,b⟩,an,ap,v,e,bH⟩ _ d ⟨rfl,C,Z,hl⟩ l T;simp only at C hl;simp[NR]at T;obtain⟨aE,m⟩:=T;have Y:=λm:H=>C.len (cx:=cx) m L7 _ rfl;rw[aG]at Y;have R:∀f,dS v=some f->f<d.size:=λf E=>by obtain⟨_,_,_,_,bi,_⟩:=C.box E;exact H.ew bi
 simp[Tryz.f86,aE,Y];refine fy b.length dz (λi l h'=>ig d.size h'/\d.size<h'.size/\h'.get d.size=some (dG 4 0 [.agg [an,dE bp,ap,v]])/\(∀c,c<d.size->dS v≠some c->h'.get c=d.get c)/\Gr h' v 3 (((b.take i).map (Cp e)++b.drop i).map dN.t)/\dH l 1 (dE e)/\dH l 2 (.ptr d.size 0 0 0)/\dH l 5 (dE (iz e (b.take i) 0).length)/\dH l 9 v/\dH l 10 (dE b.length)/\dH l 11 (dE i)) ?_ ?_ dz ?_
 ·rintro i l h' n U ⟨u,P,I,B,r,m,K,z,D,w,y⟩;have bn:ig 0 h':=⟨u.hp,u.low,aw _⟩;have W:((b.take i).map (Cp e)++b.drop i)[i]? =some b[i]:=by
   rw[cz dB];simp[cA (show i<=b.length by omega),n]
  obtain⟨f,av,al,S,bs,V,M,X,a6⟩:=r.at (x:=b[i].t) (i:=i) (by simp[W]);have aX:(((b.take i).map (Cp e)++b.drop i).map dN.t).length=b.length:=dB;rw[aX]at V a6;subst V;have bB:(f=h'.size)=False:=by have:=H.ew M;simp;omega
  have E:f<d.size:=R f rfl;have bk:=bn.low;have F:=BP e b n;have bz:(iz e (b.take i) 0).length<=i:=by have:=BQ e (b.take i) 0;simp at this;omega
  have aN:binop .add (dE ((iz e (b.take i) 0).length:Int)) (dE 1)=some (dE (((iz e (b.take i) 0).length:Int)+1)):=ik dz dz;have O:(b.take (i+1)).map (Cp e)++b.drop (i+1)=((b.take i).map (Cp e)++b.drop i).set i (Cp e b[i]):=by
   rw[List.set_append_right _ _ dB,aZ n,List.map_append,aJ n];simp[cA (show i<=b.length by omega)];rw[aJ n];rfl
  simp[m,D,w,y,n,M,X,bk,LE];have A:Cp e b[i]=if b[i].iL=3/\b[i].cond=e then kz 4 b[i]else b[i]:=rfl;generalize b[i]=h at*
  have ae:=u.cons (dG 3 1 [h.t]);have q:∀c,c<h'.size->(h'.cons (dG 3 1 [h.t])).get c=h'.get c:=λc g=>by rw[dV,ao dz]
  refine ee (λp=> ?_) (λp=> ?_)
  ·simp only[aB,aK]at p;rw[aq p]at F A;have N:=(q f dz).trans M;have Q:=(q d.size P).trans I;have bC:(f=d.size)=False:=dB;simp[m,K,z,D,w,y,Q,N,X,n,aN,U];have J:∀G c,(dY (h'.cons (dG 3 1 [h.t])) f G).get c=if c=f then some G else(h'.cons (dG 3 1 [h.t])).get c:=λG c=>dP N G c;refine⟨ae.put _ _,dz,by rw[J,ao dz];exact Q,λc g s=>by rw[J,ao (λp=>s p.symm),q c dz];exact B c g (by simpa using s),?_,by rw[F];simp⟩;have aA:=r.mono (h':=h'.cons (dG 3 1 [h.t])) λc g=>q c (by simp at g;omega);have:=aA.setAt rfl N i (kz 4 h).t (h':=dY (h'.cons (dG 3 1 [h.t])) f ⟨3,av,al+1,S,false,bs.set i (kz 4 h).t⟩) (ver2:=al+1) (ex2:=S) (by rw[J,aq rfl]);rw[<-bY,<-A,<-O]at this;rw[A]at this;exact this
  ·rw[ao (by simpa using p)]at F A;simp[m,K,z,D,w,y,U];refine⟨ae,dz,by simpa using(q d.size P).trans I,λc g s=>by rw[ao dz];exact B c g (by simpa using s),?_,by rw[F];simp⟩;have a8:((b.take i).map (Cp e)++b.drop i).set i h=(b.take i).map (Cp e)++b.drop i:=by
    apply cZ;intro j;rw[bW];split
    ·rename_i k;subst k;rw[W];simp;omega
    ·rfl
   rw[A,a8]at O;have:=r.mono (h':=h'.cons (dG 3 1 [h.t])) λc g=>q c (by simp at g;omega);rw[<-O]at this;simpa using this
 ·rintro l h' ⟨u,P,I,B,r,m,K,z,D,w,y⟩;rw[aO,du,bL]at r;rw[aO]at z;simp[z,w,y];exact⟨rfl,r.out d,⟨(u.out d).hp,(u.out d).low,dB⟩,λc g s=>(fO d h' c).trans (B c g s)⟩
 ·simp;exact⟨⟨Z.hr.hp,Z.hr.low,au _⟩|>λ(o:ig d.size (TI.hr d))=>o.cons _,λc g _ p=>by omega,(C.mono (h':=TI.hr d) λf _=>gh d f).mono λf E=>by rw[dV,ao (by have:=R f E;simp;omega)],m,by simp[iz]⟩
structure U9(h h':H)(v:T)(l:List Int):Prop where
 g:Gr h' v 1 (gF l)
 ok:ig h.size h'
 fr:∀c,c<h.size->dS v≠some c->h'.get c=h.get c
def O9:nO Tryz.prog cx 219 (λa:Int=>[dE a]) (λ_=>True) (λ_ d=>d= .bool false):=by
 refine jt (tb:=⟨pt [],ht []⟩) fa eQ (iR 5 [] Tryz.func219) (λ_=>10) (λa e c=>by simpa using c) dA (by simp[Tryz.f219]) ?_;rintro(a:Int) _ f b;simp at b;simp[Tryz.f219,b]
def Eq:hU:=⟨Int×Int,λa=>[dE a.1,dE a.2],λa=>True,λa=> .bool (decide (a.1<a.2)),λa c b=>by simp at b;rw[b.1,b.2]⟩
def VV:Eq.Ok Tryz.prog cx 172:=by
 refine iv (tb:=⟨pt [(219,O9.jv)],ht []⟩) fa eQ (iR 19 [] Tryz.func172) (λa=>1) (by simp[Eq]) (by simp[Eq,Tryz.f172]) ?_;rintro⟨a,c⟩ _ h b;simp[Eq]at b|-;obtain⟨e,f⟩:=b;obtain⟨_,rfl,d⟩:=O9.use a trivial;obtain⟨_,rfl,g⟩:=O9.use c trivial;simp[Tryz.f172,e,f,d]
def QJ{c:fJ}(ht:c.p 172=some Eq)(a b:Int):rl Tryz.prog cx c 172 [dE a,dE b]=some (.bool (decide (a<b))):=im ht VV (a,b) trivial
structure Ri where
 (A:List Int) (t:Int) (v:T)
def Ux(a:Ri)(c:List T)(b:H):Prop:=c=[a.v,dE 0,dE ((a.A++[a.t]).length:Nat)]/\Gr b a.v 1 (gF (a.A++[a.t]))/\ig 0 b/\IP a.A/\a.t∉a.A/\a.A.length<=10
def Fs(a:Ri)(d:List T)(b:H)(e:T)(c:H):Prop:=U9 b c a.v (mf a.A a.t)
def JV{d:Int}:∀{b a:List Int},(∀c∈b,c<d)->(∀c∈a,d<c)->mf (b++a) d=b++d::a:=by
 intro b;induction b with
 |nil=>
  intro a _ e;cases a with
  |nil=>rfl
  |cons f a=>have:=e f dA;simp[mf];rw[ao dz,ao dz]
 |cons c b i=>intro a g e;have:=g c dA;simp only[cG,mf];rw[aq this,i (λf h=>g f (by simp[h])) e]
def Ma{b:List Int}{c:Int}{a:Nat}(d:a<b.length):((gF (b.take (a+1)++c::b.drop (a+1))).set (a+1) (dE b[a])).set a (dE c)=gF (b.take a++c::b.drop a):=by
 have e:(b.take a).length=a:=dB;rw[aZ d,aJ d];simp only[gF,List.map_append,aV,aI,cG,cD];have f:(List.map (T.int .i64) (b.take a)).length=a:=by simpa using e
 rw[List.set_append_right _ _ dz,List.set_append_right _ _ dz,f];simp
def MH:(jw Ri Ux Fs).Ok Tryz.prog cx 166:=by
 refine jo (tb:=⟨pt [(172,Eq)],ht []⟩) fa eQ (iR 1073746119 [] Tryz.func166) (λ_ _=>100) (λi a e av=>by obtain⟨rfl,_⟩:=av;simp[Tryz.f166]) ?_;rintro⟨b,f,o⟩ _ e ⟨rfl,Y,G,N,ht,hl⟩ h al;simp only at Y N ht hl;simp at al;obtain⟨p,n,m⟩:=al;simp[Tryz.f166,n];have bu:Gr (TI.hr e) o 1 (gF (b++[f])):=Y.mono λl _=>gh e l;have bi:binop .add (dE 0) (dE 1)=some (dE 1):=ik dz dz;simp[bi];refine nz (b.length+1) (λk h h'=>1<=k/\U9 e (lO e h') o (if k<=b.length then b++[f]else mf b f)/\ig e.size h'/\dH h 0 o/\dH h 1 (dE 0)/\dH h 2 (dE ((b.length:Int)+1))/\dH h 6 (dE k)) ?_ dz (k:=1) dz ?_
 ·rintro k h h' bX ⟨bT,v,H,p,n,m,q⟩;have b8:ig 0 h':=⟨H.hp,H.low,aw _⟩;by_cases b6:k<b.length+1
  ·have O:binop .add (dE (k:Int)) (dE 1)=some (dE ((k:Int)+1)):=ik dz dz;rw[aq dz]at v;have M:Gr h' o 1 (gF (b++[f])):=v.g.mono λl _=>(fO e h' l).symm;have bz:binop .sub (dE (k:Int)) (dE 1)=some (dE ((k-1:Nat):Int)):=by rw[kF dz dz];congr 2;omega
   simp[m,q,show(k:Int)<b.length+1 by omega];by_cases ap:k<b.length
   ·obtain⟨p1,J,K⟩:=(show oG h' 1 o _ from .inr M).idx (te:=Dw) rfl rfl (i:=k) (x:= dE b[k]) (by simp[List.getElem?_append,ap]) rfl;obtain⟨p2,aX,a6⟩:=(show oG h' 1 o _ from .inr M).idx (te:=Dw) rfl rfl (i:=k-1) (x:= dE b[k-1]) (by simp[List.getElem?_append,show k-1<b.length by omega]) rfl;have S:¬b[k]<b[k-1]:=by
     have:=List.pairwise_iff_getElem.1 N (k-1) k dz ap dz;omega
    refine nz 1 (λ_ h j=>h'=j/\dH h 0 o/\dH h 1 (dE 0)/\dH h 2 (dE ((b.length:Int)+1))/\dH h 6 (dE k)/\dH h 7 (dE k)) ?_ dz (k:=0) dz (by simp[p,n,m,q]);rintro _ h _ _ ⟨rfl,p,n,m,q,z⟩;simp[p,n,m,q,z,J,K,aX,a6,bz,QJ,S,O];exact⟨k+1,dz,dz,dz,by rw[aq dz];exact v,H,dA⟩
   ·have bn:k=b.length:=dz;subst bn;have bk:=v.fr;refine nz b.length (λV h j=>∃r,r+V=b.length/\Gr j o 1 (gF (b.take r++f::b.drop r))/\ig e.size j/\(∀d,d<e.size->dS o≠some d->j.get d=e.get d)/\(∀x∈b.drop r,f<x)/\dH h 0 o/\dH h 1 (dE 0)/\dH h 2 (dE ((b.length:Int)+1))/\dH h 6 (dE b.length)/\dH h 7 (dE r)) ?_ dz (k:=0) dz ⟨b.length,dz,by simpa using M,H,λd A u=>(fO e h' d).symm.trans (bk d A u),dA,by simp[p,n,m,q]⟩;rintro V h j av ⟨r,bS,F,s,X,an,p,n,m,q,z⟩;have b9:ig 0 j:=⟨s.hp,s.low,aw _⟩;have fin:(∀x∈b.take r,x<f)->U9 e (lO e j) o (mf b f):=λhl=>by
     have E:=JV hl an;rw[cR]at E;rw[E];exact⟨F.out e,⟨(s.out e).hp,(s.out e).low,by simp;exact s.sz⟩,λd A u=>(fO e j d).trans (X d A u)⟩
    cases r with
    |zero=>
     simp[p,n,m,q,z,O];exact⟨b.length+1,dz,dz,dz,by rw[ao dz];exact fin dA,s,dA⟩
    |succ c=>
     have C:c<b.length:=dz;have a8:(gF (b.take (c+1)++f::b.drop (c+1))).length=b.length+1:=dB;have J:(b.take (c+1)++f::b.drop (c+1))[c+1]? =some f:=by rw[cz dB];simp[cA (show c+1<=b.length by omega)]
     have K:(b.take (c+1)++f::b.drop (c+1))[c]? =some b[c]:=by rw[cm dB];simp[C]
     obtain⟨l,L,D,w,I,P,B,aE,bp⟩:=F.at (x:= dE f) (i:=c+1) (by rw[aU,J];rfl);obtain⟨bB,bC,ca,bH,cb,Q,R,U,S⟩:=F.at (x:= dE b[c]) (i:=c) (by rw[aU,K];rfl);rw[P]at Q;simp at Q;obtain⟨rfl,rfl⟩:=Q;rw[B]at R;simp at R;obtain⟨rfl,rfl,rfl⟩:=R;rw[a8]at P bp S;subst P;have aA:binop .sub (dE ((c:Int)+1)) (dE 1)=some (dE (c:Int)):=by rw[kF dz dz];congr 2;omega
     have aN:kj ((c:Int)+1)=some (c+1):=by have:=eK (show(0:Int)<=((c+1:Nat):Int)by omega);simpa using this
     by_cases T:f<b[c]
     ·have y:∀t d,(dY j l t).get d=if d=l then some t else j.get d:=λt d=>dP B t d;have ae:∀t W d,(dY (dY j l t) l W).get d=if d=l then some W else j.get d:=λt W d=>by
       rw[dP (x:=t) (by rw[y,aq rfl]),y];split<;>rfl
      have bs:∀x,(I.set (c+1) x)[c]? =some (dE b[c]):=λx=>by rw[bW,ao dz];exact U
      simp[p,n,m,q,z,aA,aN,B,aE,U,show c+1<b.length+1 by omega,show c<b.length+1 by omega,show(0:Int)<(c:Int)+1 by omega,QJ,T,y,bs];have a7:=F.setAt rfl B (c+1) (dE b[c]) (h':=dY j l ⟨1,L,D+1,w,false,I.set (c+1) (dE b[c])⟩) (ver2:=D+1) (ex2:=w) (by rw[y,aq rfl]);have Z:=a7.setAt rfl (by rw[y,aq rfl]) c (dE f) (h':=dY (dY j l ⟨1,L,D+1,w,false,I.set (c+1) (dE b[c])⟩) l ⟨1,L,D+1+1,w,false,(I.set (c+1) (dE b[c])).set c (dE f)⟩) (ver2:=D+1+1) (ex2:=w) (by rw[ae,aq rfl]);rw[Ma C]at Z;refine⟨V+1,dz,dz,c,dz,Z,(s.put _ _).put _ _,λd A u=>by rw[ae,ao (λE=>u E.symm)];exact X d A (by simpa using u),λx hx=> ?_,rfl⟩;rw[aJ C]at hx;rcases List.mem_cons.1 hx with rfl|hx
      ·exact T
      ·exact an x hx
     ·simp[p,n,m,q,z,aA,aN,B,aE,U,show c+1<b.length+1 by omega,show c<b.length+1 by omega,show(0:Int)<(c:Int)+1 by omega,QJ,T,O];refine⟨b.length+1,dz,dz,dz,?_,s,dA⟩;rw[ao dz];refine fin λx hx=> ?_;obtain⟨i,bN,rfl⟩:=List.mem_take_iff_getElem.1 hx;have b7:b[c]≠f:=λk=>ht (by rw[<-k];exact aC C);rcases aF i c with k|k
      ·have:=List.pairwise_iff_getElem.1 N i c dz C k;omega
      ·have:i=c:=dz;subst this;omega
  ·rw[ao dz]at v;simp[m,q,show¬(k:Int)<b.length+1 by omega];exact v
 ·exact⟨dz,by
   have:(if 1<=b.length then b++[f]else mf b f)=b++[f]:=by
    split
    ·rfl
    ·rw[show b=[]from bm dz];rfl
   rw[this];exact⟨bu.out e,⟨(G.hr.out e).hp,(G.hr.out e).low,au _⟩,λd _ _=>(fO e _ d).trans (gh e d)⟩,⟨G.hr.hp,G.hr.low,au _⟩,by simp[p,n,m]⟩
def Ut(a:Ri×Int)(c:List T)(b:H):Prop:=c=[a.1.v,dE 0,dE ((a.1.A++[a.1.t]).length:Nat),dE a.2]/\Gr b a.1.v 1 (gF (a.1.A++[a.1.t]))/\ig 0 b/\IP a.1.A/\a.1.t∉a.1.A/\a.1.A.length<=10
def Ox(a:Ri×Int)(d:List T)(b:H)(e:T)(c:H):Prop:=U9 b c a.1.v (mf a.1.A a.1.t)
def U9.out{h c:H}{e:T}{d:List Int}(a:U9 (TI.hr h) c e d):U9 h (lO h c) e d:=⟨a.g.out h,⟨(a.ok.out h).hp,(a.ok.out h).low,by have:=a.ok.sz;simpa using this⟩,λb f i=>(fO h c b).trans ((a.fr b (by simpa using f) i).trans (gh h b))⟩
def aap:(jw (Ri×Int) Ut Ox).Ok Tryz.prog cx 127:=by
 refine jo (tb:=⟨pt [],ht [(166,jw Ri Ux Fs)]⟩) fa eQ (iR 10384593871817177683247510831234831 [] Tryz.func127) (λ_ _=>100) (λw t c o=>by obtain⟨rfl,_⟩:=o;simp[Tryz.f127]) ?_;rintro⟨⟨a,l,g⟩,x⟩ _ c ⟨rfl,h,s,i,ht,hl⟩ b j;simp only at h i ht hl;simp at j;obtain⟨d,e,f,v⟩:=j;have q:binop .sub (dE ((a.length:Int)+1)) (dE 0)=some (dE ((a.length:Int)+1)):=by rw[kF dz dz];simp
 have p:Gr (TI.hr c) g 1 (gF (a++[l])):=h.mono λm _=>gh c m;simp[Tryz.f127];refine nz 1 (λ_ b n=>TI.hr c=n/\dH b 0 g/\dH b 1 (dE 0)/\dH b 2 (dE ((a.length:Int)+1))) ?_ dz (k:=0) dz (by simp[d,e,f]);rintro _ b _ _ ⟨rfl,d,e,f⟩;simp[d,e,f,q,show(a.length:Int)+1<=12 by omega];refine iq MH dA ⟨a,l,g⟩ ⟨dA,p,s.hr,i,ht,hl⟩ ?_;rintro y u r;simp;exact r.out
def cv8(b:H)(a:Int)(c:0<=a)(d:a<256):Yp cx b 272 5 ty5 (.int .u64 a)=some (.val (.int .u8 a) b):=by
 refine Gp Ql rfl ?_;rw[jF];unfold IntKind.wrap;simp[IntKind.bits,IntKind.signed];omega
def K5:nO Tryz.prog cx 176 (λa:Nat=>[.int .u64 a]) (λa=>a<=11) (λ_=>EQ):=by
 refine jt (tb:=⟨pt [],ht []⟩) fa eQ (iR 16661 [] Tryz.func176) (λ_=>10) (λe f c=>by simp at c;omega) dA (by simp[Tryz.f176]) ?_;rintro(a:Nat) g h b;simp at b;have d:a=0\/a=1\/a=2\/a=3\/a=4\/a=5\/a=6\/a=7\/a=8\/a=9\/a=10\/a=11:=dz;rcases d with rfl|rfl|rfl|rfl|rfl|rfl|rfl|rfl|rfl|rfl|rfl|rfl<;>simp at b<;>simp[Tryz.f176,b,cv8,ou]
def Rc{c:iY}{g h:Nat}{d:DL}(i b:Code)(e:Env)(f:H)(a:iM):W (jB cx c h g d (.cond (.const (Value.bool false)) i b) e f) a=W (jB cx c h g d b e f) a:=rfl
def UH:nO Tryz.prog cx 128 (λa:Nat=>[.int .u64 a]) (λa=>a<=11) (λ_=>EQ):=by
 refine jt (tb:=⟨pt [(176,K5.jv)],ht []⟩) fa eQ (iR 5 [] Tryz.func128) (λ_=>10) (λf g d=>by simp at d;omega) dA (by simp[Tryz.f128]) ?_;rintro(a:Nat) e i b;simp at b;obtain⟨_,⟨h,rfl⟩,c⟩:=K5.use a e;simp[Tryz.f128,b,c,Rc]
def Ur(a:Ri)(c:List T)(b:H):Prop:=c=[a.v]/\Gr b a.v 1 (gF (a.A++[a.t]))/\ig 0 b/\IP a.A/\a.t∉a.A/\a.A.length<=10
def cvu(b:H)(a:Int)(c:0<=a)(d:a<256):Yp cx b 3 220 NP (dE a)=some (.val (.int .u64 a) b):=by
 refine Gp SU rfl ?_;rw[jF];unfold IntKind.wrap;simp[IntKind.bits,IntKind.signed];omega
def VS:(jw Ri Ur Fs).Ok Tryz.prog cx 81:=by
 refine jo (tb:=⟨pt [(128,UH.jv)],ht [(127,jw (Ri×Int) Ut Ox)]⟩) fa eQ (iR 5 [] Tryz.func81) (λ_ _=>100) (λs q c l=>by obtain⟨rfl,_⟩:=l;simp[Tryz.f81]) ?_;rintro⟨a,h,i⟩ _ c ⟨rfl,b,p,e,ht,hl⟩ u f;simp only at b e ht hl;simp at f;have g:=λk:H=>b.len (cx:=cx) k nH _ rfl;simp at g;have m:Gr (TI.hr c) i 1 (gF (a++[h])):=b.mono λj _=>gh c j;obtain⟨_,⟨o,rfl⟩,d⟩:=UH.use (a.length+1) dz;simp at d;simp[Tryz.f81,f,g,cvu,show(a.length:Int)+1<256 by omega,show(0:Int)<=(a.length:Int)+1 by omega,d];refine iq aap dA (⟨a,h,i⟩,o) ⟨dA,m,p.hr,e,ht,hl⟩ ?_;rintro t r n;simp;exact U9.out n
structure ICo where
 (l:List Int) (v:T)
def UC(a:ICo)(c:List T)(b:H):Prop:=c=[a.v]/\Gr b a.v 1 (gF a.l)/\ig 0 b/\IP a.l/\a.l.length<=1000
def OK(c:ICo)(e:List T)(a:H)(d:T)(b:H):Prop:=d=c.v/\Nb a b
def MJ:(jw ICo UC OK).Ok Tryz.prog cx 82:=by
 refine jo (tb:=⟨pt [],ht []⟩) fa eQ (iR 17596514574653 [] Tryz.func82) (λ_ _=>1005) (λi D a A=>by obtain⟨rfl,_⟩:=A;simp[Tryz.f82]) ?_;rintro⟨b,f⟩ _ a ⟨rfl,h,C,m,hl⟩ g c;simp only at h m hl;simp at c;have e:=λw:H=>h.len (cx:=cx) w nH _ rfl;rw[aG]at e;have n:Gr (TI.hr a) f 1 (gF b):=h.mono λq _=>gh a q;have o:Nb a (lO a (TI.hr a)):=(Nb.refl C.hr).out;simp[Tryz.f82,c,e];refine ee (λp=> ?_) (λp=> ?_)
 ·simp[c];exact⟨rfl,o⟩
 have G:2<=b.length:=by simp at p;omega
 simp;refine nz b.length (λk g v=>TI.hr a=v/\1<=k/\dH g 0 f/\dH g 3 (dE k)) ?_ dz (k:=1) dz (by simp[c]);rintro k g _ F ⟨rfl,E,j,l⟩;by_cases d:k<b.length
 ·have y:binop .add (dE (k:Int)) (dE 1)=some (dE ((k:Int)+1)):=ik dz dz;have B:binop .sub (dE (k:Int)) (dE 1)=some (dE ((k-1:Nat):Int)):=by rw[kF dz dz];congr 2;omega
  obtain⟨p1,r,s⟩:=(show oG (TI.hr a) 1 f _ from .inr n).idx (te:=Dw) rfl rfl (i:=k) (x:= dE b[k]) (by simp[d]) rfl;obtain⟨p2,t,u⟩:=(show oG (TI.hr a) 1 f _ from .inr n).idx (te:=Dw) rfl rfl (i:=k-1) (x:= dE b[k-1]) (by simp[show k-1<b.length by omega]) rfl;have z:¬b[k]=b[k-1]:=by
   have:=List.pairwise_iff_getElem.1 m (k-1) k dz d dz;omega
  simp[j,l,e,d,B,r,s,t,u,z,y];exact⟨k+1,dz,dz,dz,dA⟩
 ·simp[j,l,e,d];exact⟨rfl,o⟩
structure KE where
 (P Q:List Int) (t:Int) (v:T) (b:Nat) (bx:iZ)
def fnT(a:KE):T:= .func 84 [.ptr a.b 0 0 0]
def Xp(c:H)(a:KE):Prop:=c.get a.b=some (dG 1 0 [dE a.t])
def Oq(a:KE×Int)(d:List T)(c:H):Prop:=d=[dE a.2,.ptr a.1.b 0 0 0]/\Xp c a.1/\ig 0 c
def Jn(a:KE×Int)(e:List T)(b:H)(d:T)(c:H):Prop:=d= .bool (decide (a.2=a.1.t))/\Nb b c
def Pn:(jw (KE×Int) Oq Jn).Ok Tryz.prog cx 84:=by
 refine jo (tb:=⟨pt [],ht []⟩) fa eQ (iR 11 [] Tryz.func84) (λ_ _=>10) (λo m a h=>by obtain⟨rfl,_⟩:=h;simp[Tryz.f84]) ?_;rintro⟨⟨k,l,j,p,b,n⟩,r⟩ _ a ⟨rfl,f,i⟩ q c;simp at c;obtain⟨d,e⟩:=c;have g:(TI.hr a).get b=some (dG 1 0 [dE j]):=(gh a b).trans f;simp[Tryz.f84,d,e,g];exact⟨rfl,(Nb.refl i.hr).out⟩
def Uy(a:KE)(c:List T)(b:H):Prop:=c=[a.v,fnT a]/\Xp b a/\ig 0 b/\Gr b a.v 1 (gF (a.P++a.t::a.Q))/\a.t∉a.P/\a.P.length+a.Q.length<=1000
def OG(c:KE)(e:List T)(a:H)(d:T)(b:H):Prop:=d= dE c.P.length/\Nb a b
def Hy:(jw KE Uy OG).Ok Tryz.prog cx 129:=by
 refine jo (tb:=⟨pt [],ht [(84,jw (KE×Int) Oq Jn)]⟩) fa eQ (iR 66483 [] Tryz.func129) (λ_ _=>2000) (λi O p I=>by obtain⟨rfl,_⟩:=I;simp[Tryz.f129]) ?_;rintro⟨a,e,j,l,o,A⟩ _ p ⟨rfl,u,M,m,ht,hl⟩ d t;simp only at m ht hl;simp[fnT]at t;obtain⟨g,c⟩:=t;have v:=λc:H=>m.len (cx:=cx) c nH _ rfl;simp at v;have z:∀b,dS l=some b->b<p.size:=λb q=>by obtain⟨_,_,_,_,L,_⟩:=m.box q;exact H.ew L
 simp[Tryz.f129,g,v];refine nz a.length (λk d f=>Nb (TI.hr p) f/\dH d 0 l/\dH d 1 (.func 84 [.ptr o 0 0 0])/\dH d 7 (dE ((a.length:Int)+((e.length:Int)+1)))/\dH d 8 (dE k)) ?_ dz (k:=0) dz ⟨Nb.refl M.hr,by simp[g,c]⟩;rintro k d f Q ⟨h,g,c,r,s⟩;have N:ig 0 f:=⟨h.ok.hp,h.ok.low,aw _⟩;have y:=h.hr;have D:Gr f l 1 (gF (a++j::e)):=m.mono λb q=>y.get b (z b q);have E:binop .add (dE (k:Int)) (dE 1)=some (dE ((k:Int)+1)):=ik dz dz;obtain⟨x,n⟩:∃x,(a++j::e)[k]? =some x:=⟨_,az dB⟩;obtain⟨p1,B,C⟩:=(show oG f 1 l _ from .inr D).idx (te:=Dw) rfl rfl (i:=k) (x:= dE x) (by rw[aU,n];rfl) rfl;simp[g,c,r,s,show(k:Int)<(a.length:Int)+((e.length:Int)+1)by omega,B,C];refine iq Pn dA (⟨a,e,j,l,o,A⟩,x) ⟨rfl,(y.get o (H.ew u)).trans u,N⟩ ?_;rintro _ P ⟨rfl,w⟩;simp;by_cases G:k<a.length
 ·have J:¬x=j:=by
   rw[cm G]at n;rintro rfl;exact ht (ax n)
  simp[g,c,r,s,J,E];exact⟨k+1,dz,dz,h.trans w,dA⟩
 ·have F:k=a.length:=dz;subst F;have K:x=j:=by simpa using n.symm
  simp[K];exact⟨rfl,(h.trans w).out⟩
def Vv(f:H)(g j:Ty)(h:ab)(b d e a c:Nat)(k:iZ)(i:g.u= .slice h)(ht:cx.ty h=some j)(m:f.get b=some k)(o:k.sz=j.size)(n:c<=a):KR cx f g (.arr b d e a false) (some c) none none=some (.val (.arr b d (e+c) (a-c) false) f):=by
 unfold KR;have l:jr cx f g.u (.arr b d e a false)=true:=by
  rw[i];unfold jr;simp only[ht,m,o,Nat.beq_refl]
 rw[l,iu,show yG none none=true from rfl,iu,show asSlice g.u (.arr b d e a false)= .arr b d e a false by rw[i];rfl];show val f (gD (Nat.ble c a) (gD (Nat.ble a a) (dU (gY (Nat.add e c)) λq=>dU (gY (Nat.sub a c)) λp=>some (T.arr b d q p false))))=_;simp[n]
def PE{d:Nat}{b:Env}{c:H}(a:List ah)(e:af ab):jp (.call ⟨.builtin .clear,a.toArray,e⟩) cx d b c=dU (fN (fP cx d b) a) λf=>lA .clear cx c e.toList f:=by
 show(dU (p9 cx d b a) λa=>lA .clear cx c e.toList a)=_;rw[Hl]
def Xa{b:H}{c a g d:Nat}{f:Bool}{e:List T}(l:Hp b)(h:b.get c=some ⟨1,a,g,f,false,e⟩)(k:d<e.length):lA .clear cx b [38] [.arr c a d 1 false]=some (.val .undef (dY b c ⟨1,a,g+1,f,false,e.set d (dE 0)⟩)):=by
 show Di cx b 38 (.arr c a d 1 false)=_;unfold Di pM;rw[ko,dX];simp only[show nH.u= .slice 3 from rfl,nc,dX];rw[h,dX];simp only[Hg l (H.ew h)];show gD (Nat.beq a a) (gD (Nat.beq 1 1) (dU (kT e d [dE 0]) λi=>dU (gY g.succ) λm=>dU (some (dY b c ⟨1,a,m,f,false,i⟩)) λj=>some (lN.val T.undef j)))=_;rw[tM,aq dB,Nat.beq_refl,iu,show Nat.beq 1 1=true from rfl,iu,dX,iE,dX,dX,List.set_eq_take_append_cons_drop,aq k];simp
def UB(a:KE)(d:List T)(c:H):Prop:=d=[a.v,fnT a]/\Xp c a/\ig 0 c/\Gr c a.v 1 (gF (a.P++a.t::a.Q))/\a.t∉a.P/\a.t∉a.Q/\a.P.length+a.Q.length<=1000/\dS a.v≠some a.b
def OJ(b:KE)(f:List T)(c:H)(e:T)(d:H):Prop:=Gr d e 1 (gF (b.P++b.Q))/\dS e=dS b.v/\ig c.size d/\∀a,a<c.size->dS b.v≠some a->d.get a=c.get a
def Qf{P b:List Int}{t:Int}{a:Nat}(d:a<b.length):(gF (P++b.take a++(t::b).drop a)).set (P.length+a) (dE b[a])=gF (P++b.take (a+1)++(t::b).drop (a+1)):=by
 rw[<-bY,List.set_append_right _ _ dB];have c:(t::b).drop a=(t::b)[a]' dB::(t::b).drop (a+1):=aJ dB;rw[c,show P.length+a-(P++b.take a).length=0 by simp;omega,cP,aZ d];show gF _=gF _;congr 1;simp only[aI,cG,cD]
def Fy:(jw KE UB OJ).Ok Tryz.prog cx 83:=by
 refine jo (tb:=⟨pt [],ht [(84,jw (KE×Int) Oq Jn),(129,jw KE Uy OG)]⟩) fa eQ (iR 537399539 [] Tryz.func83) (λ_ _=>2000) (λi a h bC=>by obtain⟨rfl,_⟩:=bC;simp[Tryz.f83]) ?_;rintro⟨P,c,t,F,A,ae⟩ _ h ⟨rfl,T,b8,C,aN,aX,hl,Y⟩ z av;simp only at C aN aX hl Y;simp[fnT]at av;obtain⟨s,p⟩:=av;have K:=λp:H=>C.len (cx:=cx) p nH _ rfl;simp at K;have a8:∀b,dS F=some b->b<h.size:=λb g=>by obtain⟨_,_,_,_,b6,_⟩:=C.box g;exact H.ew b6
 simp[Tryz.f83,s,p];refine iq Hy dA ⟨P,c,t,F,A,ae⟩ ⟨rfl,(gh h A).trans T,b8.hr,C.mono λb _=>gh h b,aN,hl⟩ ?_;rintro _ c4 ⟨rfl,b7⟩;have bn:binop .add (dE (P.length:Int)) (dE 1)=some (dE ((P.length:Int)+1)):=ik dz dz;simp[show¬((P.length:Int)=-1)by omega,bn];have Z:=b7.hr;refine nz c.length (λd z h'=>ig h.size h'/\Gr h' F 1 (gF (P++c.take d++(t::c).drop d))/\(∀b,b<h.size->dS F≠some b->h'.get b=h.get b)/\dH z 0 F/\dH z 1 (.func 84 [.ptr A 0 0 0])/\dH z 5 (dE ((P.length+d:Nat):Int))/\dH z 6 (dE ((P.length+d+1:Nat):Int))) ?_ dz (k:=0) dz ⟨Z.ok,by simpa using C.mono λb g=>Z.get b (a8 b g),λb g _=>Z.get b g,by simp[s,p]⟩;rintro d z h' c6 ⟨w,D,Q,s,p,R,G⟩;have a6:ig 0 h':=⟨w.hp,w.low,aw _⟩;obtain⟨i,aA⟩:∃i,i=P.length+d:=⟨_,rfl⟩;obtain⟨j,u⟩:∃j,j=P.length+(c.length+1):=⟨_,rfl⟩;have bz:(P.length:Int)+((c.length:Int)+1)=j:=dz;rw[<-aA]at R G;rw[bz]at K;have S:(gF (P++c.take d++(t::c).drop d)).length=j:=dB;have bp:binop .add (dE (i:Int)) (dE 1)=some (dE ((i:Int)+1)):=ik dz dz;have bs:binop .add (dE ((i:Int)+1)) (dE 1)=some (dE ((i:Int)+1+1)):=ik dz dz;by_cases X:d<c.length
 ·have B:(P++c.take d++(t::c).drop d)[i+1]? =some c[d]:=by
   rw[cz dB,bK];rw[show d+(i+1-(P++c.take d).length)=d+1 by simp;omega];simp[X]
  obtain⟨f,bi⟩:∃f,(P++c.take d++(t::c).drop d)[i]? =some f:=⟨_,az dB⟩;obtain⟨e,m,y,q,o,n,l,J,I⟩:=D.at (x:= dE c[d]) (i:=i+1) (by rw[aU,B];rfl);obtain⟨cb,cp,c7,cX,dd,U,V,bT,aE⟩:=D.at (x:= dE f) (i:=i) (by rw[aU,bi];rfl);rw[n]at U;simp at U;obtain⟨rfl,rfl⟩:=U;rw[l]at V;simp at V;obtain⟨rfl,rfl,rfl⟩:=V;rw[S]at n I aE;have al:=Qf (P:=P) (t:=t) X;rw[<-aA]at al;generalize bN:c[d]=M at*
  have bS:¬M=t:=λk=>aX (by rw[<-k,<-bN];exact aC X);subst n;simp at Y;have ca:kj ((i:Int)+1)=some (i+1):=by have:=eK (show(0:Int)<=((i+1:Nat):Int)by omega);simpa using this
  simp[s,p,G,K,show(i:Int)+1<j by omega,ca,l,J,I];refine iq Pn dA (⟨P,c,t,.arr e m 0 j false,A,ae⟩,M) ⟨rfl,(Q A (H.ew T) (by simpa using Y)).trans T,a6⟩ ?_;rintro _ E ⟨rfl,v⟩;have W:=(v.get e (H.ew l)).trans l;have r:∀f b,(dY E e f).get b=if b=e then some f else E.get b:=λf b=>dP W f b;simp[s,p,R,G,bS,W,bT,aE,bp,bs];have L:ig h.size E:=⟨v.ok.hp,v.ok.low,aS w.sz v.ok.sz⟩;have ap:=(D.mono (h':=E) λb g=>v.get b (by simp at g;have:=H.ew l;omega)).setAt rfl W i (dE M) (h':=dY E e ⟨1,m,y+1,q,false,o.set i (dE M)⟩) (ver2:=y+1) (ex2:=q) (by rw[r,aq rfl]);rw[al,aI]at ap;have di:=w.sz;exact⟨d+1,dz,dz,L.put _ _,ap,λb g u=>by rw[r,ao (λN=>u N.symm),v.get b dz];exact Q b g (by simpa using u),dz⟩
 ·have bu:d=c.length:=dz;subst bu;obtain⟨e,m,y,q,o,n,l,J,I⟩:=D.at (x:= dE ((P++c.take c.length++(t::c).drop c.length)[i]' dB)) (i:=i) (by rw[aU,az dB];rfl);rw[S]at n I;have bX:i<o.length:=by
   rcases aF i o.length with k|k
   ·exact k
   ·rw[aM k]at J;simp at J
  have bk:o.take j=gF (P++c.take c.length++(t::c).drop c.length):=by
   rcases D with⟨rfl,_⟩|⟨ce,cL,c9,c1,de,B,O,an⟩
   ·simp at n
   ·rw[n]at B;simp at B;obtain⟨rfl,rfl,_⟩:=B;rw[l]at O;simp at O;obtain⟨_,_,rfl⟩:=O;rw[S]at an;exact an
  subst n;have r:∀f b,(dY h' e f).get b=if b=e then some f else h'.get b:=λf b=>dP l f b;have bB:j-i=1:=dz;have a7:=Vv h' nH Dw _ e m 0 j i _ rfl nc l rfl dz;rw[bB,Nat.zero_add]at a7;have b9:=KQ (cx:=cx) (h:=dY h' e ⟨1,m,y+1,q,false,o.set i (dE 0)⟩) nH Dw _ e m 0 j i false _ rfl nc (by rw[r,aq rfl]) rfl dz;simp[s,R,G,K,show¬(i:Int)+1<j by omega,a7,PE,Xa a6.hp l bX,b9];have L:=(w.put e ⟨1,m,y+1,q,false,o.set i (dE 0)⟩).out h;refine⟨.inr ⟨e,m,y+1,q,o.set i (dE 0),?_,by rw[fO,r,aq rfl],?_⟩,rfl,⟨L.hp,L.low,by simpa using w.sz⟩,λb g u=>by
   rw[fO,r,ao (λN=>u (by rw[N];rfl))];exact Q b g u⟩
  ·simp;omega
  ·have bH:(gF (P++c)).length=i:=dB;rw[bH,List.take_set_of_le (au _)];have:=bQ (List.take i) bk;rw[List.take_take,cA dz]at this;rw[this,aO];show List.take i (gF (P++c++(t::c).drop c.length))=gF (P++c);rw[gF,List.map_append,c8 dB,bJ dB]
def Q3{g i:Type}{f:g->i->Prop}:∀{b:List g} {a:List i},b.length=a.length->(∀(d:Nat) e c,b[d]? =some e->a[d]? =some c->f e c)->iB f b a:=by
 intro b;induction b with
 |nil=>intro a hl _;cases a with
  |nil=>exact .nil
  |cons c a=>simp at hl
 |cons e b l=>intro a hl h;cases a with
  |nil=>simp at hl
  |cons c a=>exact .cons (h 0 e c rfl rfl) (l (by simpa using hl) λd m n j k=>h (d+1) m n (by simpa using j) (by simpa using k))
def GI{b c:Type}{d:b->c->Prop}{f:List b}{g:List c}(k:iB d f g){e:Nat}{i:b}{j:c}(l:f[e]? =some i)(m:g[e]? =some j):d i j:=by
 obtain⟨o,a,n⟩:=k.get m;rw[l]at a;simp only[ar]at a;rw[a];exact n
structure Dv(w:d8)(t:Int)(c0 c2 c3:T)(h:H)(es:List T)(S:fH)(ver:Nat):Prop where
 sy:Bk 4 h.size h c0 c2 c3 es S
 ok:ig 0 h
 g0:h.get 0=some (dG 6 0 [w.t])
 g1:h.get 1=some (dG 4 ver [.agg [c0,dE S.tx,c2,c3]])
 g2:h.get 2=some (dG 1 0 [dE t])
 g3:h.get 3=some (dG 4 0 [.agg [dF,dE 0,dF,dF]])
section
variable {w:d8}{t:Int}{c0 c2 c3:T}{h h':H}{es:List T}{S:fH}{ver:Nat}
def Dv.put(a:Dv w t c0 c2 c3 h es S ver){b:Nat}{x:iZ}(d:h.get b=some x)(j:4<=b){g:iZ}{f:List T}{e:fH}(i:Bk 4 h.size (dY h b g) c0 c2 c3 f e)(ht:e.tx=S.tx):Dv w t c0 c2 c3 (dY h b g) f e ver:=
 ⟨by rw[fU];exact i,a.ok.put _ _,by rw[dP d,ao dz];exact a.g0,by rw[dP d,ao dz,ht];exact a.g1,by rw[dP d,ao dz];exact a.g2,by rw[dP d,ao dz];exact a.g3⟩
def Dv.ph(c:Dv w t c0 c2 c3 h es S ver){a e k:Nat}{f:Bool}{l:List T}(g:dS c3=some a)(j:h.get a=some ⟨3,e,k,f,false,l⟩){i:Nat}{me:dN}(m:S.dK[i]? =some me)(d:dN->dN):
 Dv w t c0 c2 c3 (dY h a ⟨3,e,k+1,f,false,l.set i (d me).t⟩) es {S with dK:=S.dK.modify i d} ver:=by
 have:=c.put j (c.sy.b a (.inr (.inr g))).1 (c.sy.ph g j i (d me)) rfl;rw[oq m];exact this
def Dv.qv(g:Dv w t c0 c2 c3 h es S ver){d i m:Nat}{j:Bool}{n:List T}(k:dS c0=some d)(l:h.get d=some ⟨2,i,m,j,false,n⟩){c:Nat}{f:ed}(hl:S.em[c]? =some f)(e:ed->ed){rv:T}(hr:oG h 1 rv (gF (e f).eJ))(o:∀a,dS rv=some a->4<=a/\a<h.size/\dS c0≠some a/\dS c2≠some a/\dS c3≠some a):
 Dv w t c0 c2 c3 (dY h d ⟨2,i,m+1,j,false,n.set c (.agg [dE (e f).iX,rv])⟩) (es.set c (.agg [dE (e f).iX,rv])) {S with em:=S.em.modify c e} ver:=by
 have:=g.put l (g.sy.b d (.inl k)).1 (g.sy.qv k l c hr o) rfl;rw[oq hl];exact this
def Dv.Yo(c:Dv w t c0 c2 c3 h es S ver){a f k:Nat}{g:Bool}{l:List T}(i:dS c2=some a)(j:h.get a=some ⟨1,f,k,g,false,l⟩)(d:Nat)(e:Bool):Dv w t c0 c2 c3 (dY h a ⟨1,f,k+1,g,false,l.set d (.bool e)⟩) es {S with done:=S.done.set d e} ver:=
 c.put j (c.sy.b a (.inr (.inl i))).1 (c.sy.Yo i j d e) rfl
def Dv.tx(a:Dv w t c0 c2 c3 h es S ver)(b:Int):Dv w t c0 c2 c3 (dY h 1 (dG 4 (ver+1) [.agg [c0,dE b,c2,c3]])) es {S with tx:=b} (ver+1):=
 ⟨by rw[fU];exact(a.sy.tx b).mono (au _) λc d _=>by rw[dP a.g1,ao dz],a.ok.put _ _,by rw[dP a.g1,ao dz];exact a.g0,by rw[dP a.g1,aq rfl],by rw[dP a.g1,ao dz];exact a.g2,by rw[dP a.g1,ao dz];exact a.g3⟩
def Dv.ZS(c:Dv w t c0 c2 c3 h es S ver){l:List dN}(j:Xy h h' c3 l):Dv w t c0 c2 c3 h' es {S with dK:=l} ver:=by
 have k:∀a,a<4->dS c3≠some a:=λa d f=>by have:=(c.sy.b a (.inr (.inr f))).1;omega
 have r:=j.ok.sz;have e:∀a,dS c3≠some a->a<h.size->h'.get a=h.get a:=λa f d=>j.fr a d f;refine⟨⟨c.sy.g0.mono λa d=>e a (λf=> ?_) (c.sy.b a (.inl d)).2,c.sy.g2.mono λa d=>e a (λf=> ?_) (c.sy.b a (.inr (.inl d))).2,j.g,c.sy.el.imp λp q ⟨o,m,n,i⟩=>⟨o,m,n.mono λa d=>e a (i a d).2.2.2.2 (i a d).2.1,λa d=>⟨(i a d).1,by have:=(i a d).2.1;omega,(i a d).2.2⟩⟩,λa d=>⟨(c.sy.b a d).1,by have:=(c.sy.b a d).2;omega⟩⟩,⟨j.ok.hp,j.ok.low,aw _⟩,(e 0 (k 0 dz) (H.ew c.g0)).trans c.g0,(e 1 (k 1 dz) (H.ew c.g1)).trans c.g1,(e 2 (k 2 dz) (H.ew c.g2)).trans c.g2,(e 3 (k 3 dz) (H.ew c.g3)).trans c.g3⟩
 ·exact c.sy.g0.ne c.sy.g3 dD a d f
 ·exact c.sy.g2.ne c.sy.g3 dD a d f
def Dv.aaT(d:Dv w t c0 c2 c3 h es S ver)(V:LkD es){f C K:Nat}{D:Bool}{L:List T}(p:dS c0=some f)(F:h.get f=some ⟨2,C,K,D,false,L⟩){l:Nat}{x:ed}(hl:S.em[l]? =some x){W m:T}(R:es[l]? =some (.agg [W,m]))(i:∀a,dS m=some a->4<=a/\dS c0≠some a/\dS c2≠some a/\dS c3≠some a)
 {hT:H} (R0:ig h.size hT) (z:∀a,a<h.size->dS m≠some a->hT.get a=h.get a) {s:T} (u:ed->ed) (E:Gr hT s 1 (gF (u x).eJ)) (r:∀a,dS s=some a->dS m=some a\/h.size<=a):
 Dv w t c0 c2 c3 (dY hT f ⟨2,C,K+1,D,false,L.set l (.agg [dE (u x).iX,s])⟩) (es.set l (.agg [dE (u x).iX,s])) {S with em:=S.em.modify l u} ver:=by
 have Z:=R0.sz;have Q:=H.ew F;have X:=(d.sy.b f (.inl p)).1;have I:dS m≠some f:=λc=>(i f c).2.1 p;have G:hT.get f=_:=(z f Q I).trans F;have A:∀n a,(dY hT f n).get a=if a=f then some n else hT.get a:=λn a=>dP G n a;have y:∀a,a<4->dS m≠some a:=λa p c=>by have:=(i a c).1;omega
 have o:∀n a,a<h.size->a≠f->dS m≠some a->(dY hT f n).get a=h.get a:=λn a N O P=>by rw[A,ao O];exact z a N P
 refine⟨⟨?_,d.sy.g2.mono λa c=>o _ a (d.sy.b a (.inr (.inl c))).2 (λe=> ?_) (λe=>(i a e).2.2.1 c),d.sy.g3.mono λa c=>o _ a (d.sy.b a (.inr (.inr c))).2 (λe=> ?_) (λe=>(i a e).2.2.2 c),Q3 ?_ λk Y n g j=> ?_,λa c=>⟨(d.sy.b a c).1,by have:=(d.sy.b a c).2;simp;omega⟩⟩,(⟨R0.hp,R0.low,aw _⟩:ig 0 hT).put _ _,?_,?_,?_,?_⟩
 ·exact(d.sy.g0.mono (h':=hT) λa c=>z a (d.sy.b a (.inl c)).2 (λe=>(i a e).2.1 c)).setAt p G l _ (by rw[A,aq rfl])
 ·subst e;exact d.sy.g2.ne d.sy.g0 dD a c p
 ·subst e;exact d.sy.g3.ne d.sy.g0 dD a c p
 ·rw[cS,List.length_modify];exact d.sy.el.length
 ·rw[bW]at g;rw[List.getElem?_modify]at j;by_cases v:l=k
  ·subst v;rw[hl]at j;simp at j;rw[aq rfl]at g;split at g
   ·simp only[ar]at g;subst g j;refine⟨s,rfl,.inr (E.mono λa c=> ?_),λa c=> ?_⟩
    ·rw[A,ao];rintro rfl;rcases r a c with k|k
     ·exact I k
     ·omega
    ·obtain⟨_,_,_,_,j,_⟩:=E.box c;have U:=H.ew j;refine⟨?_,by simpa using U,?_,?_,?_⟩
     ·rcases r a c with k|k
      ·exact(i a k).1
      ·omega
     ·rcases r a c with k|k
      ·exact(i a k).2.1
      ·exact λe=>by have:=(d.sy.b a (.inl e)).2;omega
     ·rcases r a c with k|k
      ·exact(i a k).2.2.1
      ·exact λe=>by have:=(d.sy.b a (.inr (.inl e))).2;omega
     ·rcases r a c with k|k
      ·exact(i a k).2.2.2
      ·exact λe=>by have:=(d.sy.b a (.inr (.inr e))).2;omega
   ·simp at g
  ·rw[ao v]at g;simp[v]at j;obtain⟨J,B,M,q⟩:=GI d.sy.el g j;refine⟨J,B,M.mono λa c=>o _ a (q a c).2.1 (λe=>(q a c).2.2.1 (by rw[e];exact p)) (λe=>v ?_),λa c=>⟨(q a c).1,by have:=(q a c).2.1;simp;omega,(q a c).2.2⟩⟩;rw[B]at g;exact V l k m J _ _ a R g e c
 ·exact(o _ 0 (H.ew d.g0) dz (y 0 dz)).trans d.g0
 ·exact(o _ 1 (H.ew d.g1) dz (y 1 dz)).trans d.g1
 ·exact(o _ 2 (H.ew d.g2) dz (y 2 dz)).trans d.g2
 ·exact(o _ 3 (H.ew d.g3) dz (y 3 dz)).trans d.g3
end
end
noncomputable section
open Go Go.TI
attribute [-simp] List.map_take List.map_drop List.map_append fG fg ei Bool.not_or Bool.not_and
attribute [simp] fF fh
attribute [-simp] size_cons
structure ApO(w:d8)(s:fH)(t k o wk:Int)(c0 c2 c3:T)(h:H)(n:Int):Prop where
 ex:∃S es ver,ff w s t k o wk=(S,n)/\Dv w t c0 c2 c3 h es S ver
structure ApF(w:d8)(s:fH)(t k o:Int):Prop where
 en:jR w s t k o=true
 cl:w.gW.length<=1000000
 sm:NW s
 r:∀l∈s.em,l.eJ.length<=10
def wz:hU:=⟨d8×fH×Int×Int×Int×Int,λa=>[a.1.t,a.2.1.t,dE a.2.2.1,dE a.2.2.2.1,dE a.2.2.2.2.1,dE a.2.2.2.2.2],λa=>ApF a.1 a.2.1 a.2.2.1 a.2.2.2.1 a.2.2.2.2.1,λa=> .tuple [(ff a.1 a.2.1 a.2.2.1 a.2.2.2.1 a.2.2.2.2.1 a.2.2.2.2.2).1.t,dE (ff a.1 a.2.1 a.2.2.1 a.2.2.2.1 a.2.2.2.2.1 a.2.2.2.2.2).2,.bool true],λa c b=>by
 obtain⟨a1,a2,a3,a4,a5,d⟩:=a;obtain⟨e,f,g,h,i,j⟩:=c;simp at b;rw[d8.inj b.1,fH.inj b.2.1,b.2.2.1,b.2.2.2.1,b.2.2.2.2.1,b.2.2.2.2.2]⟩
def PC:wz.Ok Tryz.prog cx 47:=by
 refine iv (tb:=⟨pt [(79,pA)],ht [(80,jw fH Es UE),(81,jw Ri Ur Fs),(82,jw ICo UC OK),(83,jw KE UB OJ),(85,jw IM Uv Oz),(86,jw IM Uw OB)]⟩) fa eQ (iR 772424076352653274097095092108232752774234854811365887 [(19,[(1,4)]),(21,[(1,10)]),(32,[(4,9),(5,9)]),(35,[(4,8),(5,8)])] Tryz.func47) (λ_=>1000005) (by simp[wz]) (by simp[wz,Tryz.f47]) ?_;rintro⟨w,s,t,k,o,r⟩ ⟨J,eH,⟨hl,eL,ht,hr,di⟩,c9⟩ bX eD;simp only at J eH hl eL ht hr di c9;simp[wz]at eD|-;obtain⟨fY,b9,dd,eB,E,gi⟩:=eD;unfold jR at J;simp only[aB]at J;obtain⟨⟨⟨dm,dn⟩,bn⟩,J⟩:=J;obtain⟨bp,bs,eV⟩:=oD dm;have fs:=λ{tb:fJ} (ht:tb.p 79=some pA)=>Nk ht (w:=w) (s:=s) (t:=t) (k:=k) (o:=o) ⟨dm,dn,bn,J,eH,hr⟩
 ·simp[Tryz.f47,fY,b9,dd,eB,E,fs];generalize Y:(((hE.cons _).cons _).cons _).cons _=a8;have gP:ig 0 a8:=by rw[<-Y];exact⟨dA,dA,dA⟩
  have gX:a8.size=4:=by rw[<-Y];rfl
  have e6:a8.get 0=some (dG 6 0 [w.t]):=by rw[<-Y];simp
  have e7:a8.get 1=some (dG 4 0 [s.t]):=by rw[<-Y];simp
  have e8:a8.get 2=some (dG 1 0 [dE t]):=by rw[<-Y];simp
  have I:a8.get 3=some (dG 4 0 [.agg [dF,dE 0,dF,dF]]):=by rw[<-Y];simp
  clear Y;refine iq Px dA s ⟨rfl,gP,hl,eL,ht,hr⟩ ?_;rintro _ X ⟨aN,aX,a6,ey,rfl,e4,an,eh,eR⟩;rw[gX]at e4 eh;have hv:=an.ok.sz;have gI:ig 0 X:=⟨an.ok.hp,an.ok.low,aw _⟩;have et:=(an.get 1 dz).trans e7;have fb:=(an.get 0 dz).trans e6;have fe:=(an.get 2 dz).trans e8;have fi:=(an.get 3 dz).trans I;have a7:∀v d,(dY X 1 v).get d=if d=1 then some v else X.get d:=λv d=>dP et v d;have c:Dv w t aN aX a6 (dY X 1 (dG 4 1 [.agg [aN,dE s.tx,aX,a6]])) ey s 1:=⟨by rw[fU];exact e4.mono (au _) λd q _=>by rw[a7,ao dz],gI.put _ _,by rw[a7,ao dz];exact fb,by rw[a7,aq rfl],by rw[a7,ao dz];exact fe,by rw[a7,ao dz];exact fi⟩;have eo:iB (LkG (dY X 1 (dG 4 1 [.agg [aN,dE s.tx,aX,a6]])) λd=>4<=d/\d<X.size/\dS aN≠some d/\dS aX≠some d/\dS a6≠some d) ey s.em:=eh.imp λL m ⟨rv,U,fl,eu⟩=>⟨rv,U,fl.mono λd q=>by rw[a7,ao (by have:=(eu d q).1;omega)],eu⟩;simp[NR,et,eB];generalize dY X 1 _=M at*
  have eM:=dn;rw[<-eV]at eM;obtain⟨me,G,hd⟩:=iI eM;have bz:=eK (fq.1 dn).1;refine ll (λbX bN=>∃n,ApO w s t k o r aN aX a6 bN n/\dH bX 7 (.ptr 1 0 0 0)/\dH bX 12 (.ptr 3 0 0 0)/\dH bX 15 (dE n)) (λae=> ?_) (λae=> ?_) ?_
  ·have ae:k=1:=by simpa using ae
   subst ae
   ·obtain⟨y,V,av,W,aE,A,e,l,j⟩:=c.sy.g3.at (x:=me.t) (i:=t.toNat) (by simp[G]);rw[aG]at A j;subst A;simp[c.g1,c.g2,bz,e,l,j];exact⟨_,_,_,show ff w s t 1 o r=(s.ph t (kz 2),0)by simp[ff],c.ph rfl e G (kz 2)⟩
  ·have ae:¬k=1:=by simpa using ae
   rcases uc bn with g|rfl|rfl|rfl|rfl|rfl|rfl|rfl|rfl|g|g|g|g
   ·exact absurd g ae
   ·obtain⟨y,V,av,W,aE,A,e,l,j⟩:=c.sy.g3.at (x:=me.t) (i:=t.toNat) (by simp[G]);rw[aG]at A j;subst A;simp[c.g1,c.g2,bz,e,l,j];exact⟨_,_,_,show ff w s t 2 o r=(s.ph t (kz 5),0)by simp[ff],c.ph rfl e G (kz 5)⟩
   ·simp;exact⟨_,_,_,show ff w s t 3 o r=(s,0)by simp[ff],c⟩
   ·simp;exact⟨_,_,_,show ff w s t 4 o r=(s,0)by simp[ff],c⟩
   ·simp;exact⟨_,_,_,show ff w s t 5 o r=(s,0)by simp[ff],c⟩
   ·simp[c.g1,c.g2,dZ];exact⟨_,_,_,show ff w s t 12 o r=({s with tx:=t},0)by simp[ff],c.tx t⟩
   ·simp[c.g1,dZ];exact⟨_,_,_,show ff w s t 13 o r=({s with tx:=-1},0)by simp[ff],c.tx (-1)⟩
   ·obtain⟨y,V,av,W,aE,A,e,l,j⟩:=c.sy.g3.at (x:=me.t) (i:=t.toNat) (by simp[G]);rw[aG]at A j;subst A;simp[c.g1,c.g2,bz,e,l,j];exact⟨_,_,_,show ff w s t 14 o r=(s.ph t (λx=>{x with atomic:=true}),0)by simp[ff],c.ph rfl e G (λx=>{x with atomic:=true})⟩
   ·obtain⟨y,V,av,W,aE,A,e,l,j⟩:=c.sy.g3.at (x:=me.t) (i:=t.toNat) (by simp[G]);rw[aG]at A j;subst A;simp[c.g1,c.g2,bz,e,l,j];exact⟨_,_,_,show ff w s t 15 o r=(s.ph t (λx=>{x with atomic:=false}),0)by simp[ff],c.ph rfl e G (λx=>{x with atomic:=false})⟩
   ·have F:=kV bn g;rw[<-bp]at F;obtain⟨B,C,de⟩:=iI F;have D:=eK (fq.1 F).1;obtain⟨L,Z,rv,rfl,bu,ap⟩:=c.sy.el.get C;obtain⟨y,V,av,W,aE,rfl,e,l,j⟩:=c.sy.g0.at Z;have bS:=H.ew e;have ha:=(c.sy.b y (.inl rfl)).1;have ea:(1=M.size)=False:=by have:=H.ew c.g1;simp;omega
    have hj:(y=M.size)=False:=dB;have hf:=hr B (ax C);have hg:∀d,dS rv=some d->d<M.size:=λd q=>(ap d q).2.1;rcases g with rfl|rfl|rfl|rfl|rfl|rfl
    ·simp[E,c.g1,c.g2,D,e,l,j];exact⟨_,_,_,show ff w s t 6 o r=(s.qv o (λh=>{h with iX:=t}),0)by simp[ff],c.qv rfl e C (λh=>{h with iX:=t}) bu ap⟩
    ·simp[E,c.g1,D,e,l,j];exact⟨_,_,_,show ff w s t 7 o r=(s.qv o (λh=>{h with iX:=-1}),0)by simp[ff],c.qv rfl e C (λh=>{h with iX:=-1}) bu ap⟩
    ·have bC:=di B (ax C);have ca:=c9 B (ax C);have gp:t∉B.eJ:=by
      simp[BA,de,mK]at J;exact J.2.2
     obtain⟨gQ,U,gL,K⟩:=GI eo Z C;simp at U;subst U;have b7:Gr M rv 1 (gF B.eJ):=gL;obtain⟨ef,bH,fo,aA⟩:=b7.nd (cx:=cx) (f:=T.int .i64) c.ok ko rfl nc rfl dA (λx=>rfl) t dB;have hc:=c.ok.low;have hh:(2=M.size)=False:=by have:=H.ew c.g2;simp;omega
     simp[E,c.g1,c.g2,D,e,l,j,fo];refine iq VS dA ⟨B.eJ,t,ef⟩ ⟨rfl,aA.1,⟨aA.2.2.2.hp,aA.2.2.2.low,aw _⟩,bC,gp,ca⟩ ?_;rintro _ eC al;have gV:=aA.2.2.2.sz;have hy:=al.ok.sz;have c7:∀d,d<M.size->dS rv≠some d->eC.get d=M.get d:=λd bp bs=>(al.fr d dz (λq=>(aA.2.2.1 d q).elim bs dz)).trans (aA.2.1 d bp bs);have gy:∀d,d<4->dS rv≠some d:=λd q k=>by have:=(K d k).1;omega
     have cX:=(c7 1 (H.ew c.g1) (gy 1 dz)).trans c.g1;have eW:=(c7 y bS (λk=>(K y k).2.2.1 rfl)).trans e;have gM:ig 0 eC:=⟨al.ok.hp,al.ok.low,aw _⟩;have hb:=HY B.eJ t;simp[E,cX];refine li MJ dA ⟨mf B.eJ t,ef⟩ ⟨rfl,al.g,gM,CF bC t,dC⟩ ?_;rintro O hT ⟨L,N⟩;simp only at L;rw[L];have ec:=fk (N.get 1 (H.ew cX));have t1:=(N.get 1 (H.ew cX)).trans cX;have tb:=(N.get y (H.ew eW)).trans eW;have gT:Gr hT ef 1 (gF (mf B.eJ t)):=al.g.mono λd q=>by
      obtain⟨_,_,_,_,gw,_⟩:=al.g.box q;exact N.get d (H.ew gw)
     have hA:=N.ok.sz;simp[D,tb,l,j,ec,dZ,gT.il,gT.cells];exact⟨_,_,_,show ff w s t 8 o r=(s.qv o (λh=>{h with eJ:=mf h.eJ t}),0)by simp[ff],c.aaT eR rfl e C Z (λd q=>⟨(K d q).1,(K d q).2.2⟩) (hT:=hT) ⟨N.ok.hp,N.ok.low,dz⟩ (λd bp bs=>(N.get d dz).trans (c7 d bp bs)) (λh=>{h with eJ:=mf h.eJ t}) gT aA.2.2.1⟩
    ·obtain⟨gQ,U,gL,K⟩:=GI eo Z C;simp at U;subst U;have b7:Gr M rv 1 (gF B.eJ):=gL;have bC:=di B (ax C);have ca:=c9 B (ax C);have gn:t∈B.eJ:=by
      simp[BA,de,mK]at J;exact J.2
     obtain⟨P,Q,cb⟩:=List.append_of_mem gn;have ce:t∉P/\t∉Q:=by
      rw[cb]at bC;have b9:=List.pairwise_append.1 bC;have dd:=List.pairwise_cons.1 b9.2.1;exact⟨λk=>by have:=b9.2.2 t k t dA;omega,λk=>by have:=dd.1 t k;omega⟩
     simp[E,c.g1,D,e,l,j];have gB:dS rv≠some 2:=λk=>by have:=(K 2 k).1;omega
     refine li Fy dA ⟨P,Q,t,rv,2,⟨0,0,0,false,false,[]⟩⟩ ⟨rfl,c.g2,c.ok,by rw[cb]at b7;exact b7,ce.1,ce.2,by rw[cb]at ca;simp at ca|-;omega,gB⟩ ?_;rintro O bH ⟨b8,eF,eU,b6⟩;simp only at b8 eF b6;have eA:=b6 1 (H.ew c.g1) (λk=>by have:=(K 1 k).1;omega);have fS:=b6 y bS (λk=>(K y k).2.2.1 rfl);have ec:=fk eA;have gZ:=eA.trans c.g1;have e9:=fS.trans e;have gm:B.eJ.filter (λO=> !decide (O=t))=P++Q:=by
      rw[cb,List.filter_append,List.filter_cons];simp;rw[List.filter_eq_self.2 λx l=> ?_,List.filter_eq_self.2 λx l=> ?_]
      ·simp;exact λL=>ce.2 (by rw[<-L];exact l)
      ·simp;exact λL=>ce.1 (by rw[<-L];exact l)
     have gV:=eU.sz;simp[D,e9,l,j,ec,dZ,b8.il,b8.cells];exact⟨_,_,_,show ff w s t 9 o r=(s.qv o (λh=>{h with eJ:=h.eJ.filter λO=> !decide (O=t)}),0)by simp[ff],c.aaT eR rfl e C Z (λd q=>⟨(K d q).1,(K d q).2.2⟩) (hT:=bH) eU b6 (λh=>{h with eJ:=h.eJ.filter λO=> !decide (O=t)}) (by show Gr bH O 1 (gF (B.eJ.filter _));rw[gm];exact b8) (λd q=> .inl (by rw[<-eF];exact q))⟩
    ·simp[E,c.g1,c.g2,D,e,l,j];exact⟨_,_,_,show ff w s t 10 o r=(s.qv o (λh=>{h with iX:=t}),0)by simp[ff],c.qv rfl e C (λh=>{h with iX:=t}) bu ap⟩
    ·simp[E,c.g1,D,e,l,j];exact⟨_,_,_,show ff w s t 11 o r=(s.qv o (λh=>{h with iX:=-1}),0)by simp[ff],c.qv rfl e C (λh=>{h with iX:=-1}) bu ap⟩
   ·have F:=oo bn g;obtain⟨d,dk,eI⟩:=iI F;have dv:=r7 dm dk;rw[<-bp]at dv;obtain⟨B,C,de⟩:=iI dv;have D:=eK (fq.1 F).1;have e5:=eK (fq.1 dv).1;obtain⟨L,Z,rv,rfl,bu,ap⟩:=c.sy.el.get C;obtain⟨y,V,av,W,aE,rfl,e,l,j⟩:=c.sy.g0.at Z;obtain⟨I,fv,gS,fB,c1,A,bi,cL,ds⟩:=c.sy.g3.at (x:=me.t) (i:=t.toNat) (by simp[G]);rw[aG]at A ds;subst A;have bS:=H.ew e;have eE:=H.ew bi;have ea:(1=y)=False:=by have:=(c.sy.b y (.inl rfl)).1;simp;omega
    have gz:(1=I)=False:=by have:=(c.sy.b I (.inr (.inr rfl))).1;simp;omega
    have eS:(2=y)=False:=by have:=(c.sy.b y (.inl rfl)).1;simp;omega
    have gE:(2=I)=False:=by have:=(c.sy.b I (.inr (.inr rfl))).1;simp;omega
    have eb:(I=y)=False:=by simp;rintro rfl;rw[e]at bi;simp at bi
    have eP:∀x,(c1.set t.toNat x)[t.toNat]? =some x:=λx=>by
     have:t.toNat<c1.length:=by
      rcases aF t.toNat c1.length with k|k
      ·exact k
      ·rw[aM k]at cL;simp at cL
     rw[bW];simp[this]
    have bk:∀v,(dY M y v).get I=some ⟨3,fv,gS,fB,false,c1⟩:=λv=>by rw[dP e,ao (by simpa using eb)];exact bi
    have eX:=λv z=>mW (bk v) (show 1≠I by simpa using gz) z;have e0:=λv z=>mW (bk v) (show 2≠I by simpa using gE) z;have er:=λ(f:ed->ed) (q:(f B).eJ=B.eJ)=>c.qv rfl e C f (rv:=rv) (by rw[q];exact bu) ap;rcases g with rfl|rfl|rfl|rfl
    ·have c6:=(er (λh=>{h with iX:=-1}) rfl).ph rfl (bk _) G (λx=>{x with iL:=3});have bB:=c6.ph (me:=(λx=>{x with iL:=3}) me) rfl ((dP (bk _) _ _).trans (aq rfl)) (i:=t.toNat) (by simp[G]) (λx=>{x with cond:=o});simp only[Bu,List.set_set]at bB;simp[E,c.g0,c.g1,c.g2,D,e5,bz,dk,e,bi,l,cL,j,ds,mM,c.ok.hp,bS,eE,ea,eb,eS,eP,eX,e0];exact⟨_,_,_,show ff w s t 16 o r=((s.qv d.kJ λh=>{h with iX:=-1}).ph t (λx=>{x with iL:=3,cond:=o}),0)by simp[ff,eI],bB⟩
    ·have c6:=(er (λh=>{h with iX:=t}) rfl).ph rfl (bk _) G (λx=>{x with iL:=2});have bB:=c6.ph (me:=(λx=>{x with iL:=2}) me) rfl ((dP (bk _) _ _).trans (aq rfl)) (i:=t.toNat) (by simp[G]) (λx=>{x with cond:=0});simp only[Bu,List.set_set]at bB;simp[E,c.g0,c.g1,c.g2,D,e5,bz,dk,e,bi,l,cL,j,ds,mM,c.ok.hp,bS,eE,ea,eb,eS,eP,eX,e0];exact⟨_,_,_,show ff w s t 17 o r=((s.qv d.kJ λh=>{h with iX:=t}).ph t (λx=>{x with iL:=2,cond:=0}),0)by simp[ff,eI],bB⟩
    ·simp[E,gi,c.g1];refine iq O6 dA ⟨s,_,_,_,o,r⟩ ⟨rfl,c.sy.g3,c.ok,ht⟩ ?_;rintro _ bH ⟨n,rfl,eN,bT⟩;simp only at eN bT;simp;exact⟨_,_,_,show ff w s t 18 o r=({s with dK:=if iz o s.dK 0=[]then s.dK else s.dK.modify n.toNat (kz 4)},n)by
      have eO:yj o r s.dK=n:=by rw[eN];rfl
      unfold ff;simp;by_cases q:iz o s.dK 0=[]
      ·rw[aq q,aq q,<-eO];unfold yj;rw[q];rfl
      ·rw[ao q,ao q,eO];rfl,c.ZS bT⟩
    ·simp[E,c.g1];refine iq Hu dA ⟨s,_,_,_,o,0⟩ ⟨rfl,c.sy.g3,c.ok,ht⟩ ?_;rintro _ bH ⟨rfl,bT⟩;simp only at bT;simp;exact⟨_,_,_,show ff w s t 19 o r=({s with dK:=s.dK.map (Cp o)},((iz o s.dK 0).length:Int))by
      unfold ff;simp;intro a _;rfl,c.ZS bT⟩
   ·have F:=wG bn g;rw[<-eV]at F;obtain⟨u,cp,gv⟩:=iI F;have D:=eK (fq.1 F).1;rcases g with rfl|rfl
    ·obtain⟨y,V,av,W,aE,A,e,l,j⟩:=c.sy.g3.at (x:=u.t) (i:=o.toNat) (by simp[cp]);rw[aG]at A j;subst A;simp[E,c.g1,D,e,l,j];exact⟨_,_,_,show ff w s t 20 o r=(s.ph o (kz 1),0)by simp[ff],c.ph rfl e cp (kz 1)⟩
    ·simp;exact⟨_,_,_,show ff w s t 21 o r=(s,0)by simp[ff],c⟩
   ·have F:=rx bn g;rw[<-bs]at F;obtain⟨u,cp,gv⟩:=iI F;have D:=eK (fq.1 F).1;rcases g with rfl|rfl
    ·obtain⟨y,V,av,W,aE,A,e,l,j⟩:=c.sy.g2.at (x:= .bool u) (i:=o.toNat) (by simp[cp]);rw[aG]at A j;subst A;simp[E,c.g1,D,e,l,j];exact⟨_,_,_,show ff w s t 22 o r=({s with done:=s.done.set o.toNat true},0)by simp[ff],c.Yo rfl e o.toNat true⟩
    ·simp;exact⟨_,_,_,show ff w s t 23 o r=(s,0)by simp[ff],c⟩
  ·rintro bX bN ⟨n,⟨S,fA,hn,gk,R⟩,gj,gd,gg⟩;obtain⟨ho,hq,hs⟩:=R.sy.fz;have fX:∀v,(dY bN 3 v).get 3=some v:=λv=>(dP R.g3 v _).trans (aq rfl);have c4:∀v,Bk 4 bN.size (dY bN 3 v) aN aX a6 fA S:=λv=>R.sy.mono (au _) λd q _=>by rw[dP R.g3,ao dz]
   have fC:=λv=>(c4 v).fz.1;have fE:=λv=>(c4 v).fz.2.1;have fL:=λv=>(c4 v).fz.2.2;simp[gj,gd,gg,R.g1,R.g3,fX,dZ,fC,fE,fL,gk,R.ok.hp]
end
end Go.Proofs.YtmaeadedikngoaaGreatDoor
