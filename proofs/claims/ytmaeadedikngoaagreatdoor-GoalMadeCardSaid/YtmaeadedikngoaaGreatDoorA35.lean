/- Texts WGe to ALit. -/
import Derived.Test.YtmaeadedikngoaaGreatDoorA34
set_option linter.unusedVariables false
set_option linter.unusedSimpArgs false
set_option maxRecDepth 100000
set_option maxHeartbeats 8000000
namespace Go.Proofs.YtmaeadedikngoaaGreatDoor
noncomputable section
open Go Go.TI
attribute [-simp] List.map_take List.map_drop List.map_append fi ei dT Bool.not_or Bool.not_and
attribute [simp] fh ew
attribute [-simp] size_cons
structure Fm(h h':H)(bl:Nat)(v v':T):Prop where
 ok:gh h.size h'
 fr:∀c,c<h.size->c≠bl->dE v≠some c->h'.get c=h.get c
 bx:∀c,dE v'=some c->dE v=some c\/h.size<=c
theorem Fm.nb{a b:H}{e:Nat}{d:T}(c:Nb a b):Fm a b e d d:=⟨c.ok,λf g _ _=>c.get f g,λ_ h=> .inl h⟩
theorem Fm.trans{g c d:H}{f:Nat}{h i j:T}(e:Fm g c f h i)(b:Fm c d f i j):Fm g d f h j:=by
 have l:=e.ok.sz
 have m:=b.ok.sz
 refine⟨⟨b.ok.hp,b.ok.low,by omega⟩,λa k c d=>(b.fr a (by omega) c λq=>(e.bx a q).elim d (by omega)).trans (e.fr a k c d),λa q=> ?_⟩
 rcases b.bx a q with q|q
 ·exact e.bx a q
 ·right;omega
structure Ao(h:H)(bl:Nat)(v:T)(es:List T)(gs:List fw):Prop where
 gl:∃ver,h.get bl=some ⟨1,0,ver,true,false,[v]⟩
 g:Gr h v 6 es
 a:gG (FT h (λc=>c<h.size/\c≠bl/\dE v≠some c) 4) es (gs.map fw.t)
theorem Ao.step{l b:H}{c:Nat}{m e:T}{g i:List T}{k gs2:List fw}(q:Ao l c m g k)(h:Fm l b c m e)(p:∃u,b.get c=some ⟨1,0,u,true,false,[e]⟩)(o:Gr b e 6 (g++i))(n:gG (FT b (λf=>f<b.size/\f≠c/\dE e≠some f) 4) i (gs2.map fw.t)):Ao b c e (g++i) (k++gs2):=by
 have v:=h.ok.sz
 refine⟨p,o,?_⟩
 rw[List.map_append]
 exact(q.a.imp λ_ _ r=>r.mono λj d=>⟨⟨by omega,d.2.1,λs=>(h.bx j s).elim d.2.2 (by omega)⟩,h.fr j d.1 d.2.1 d.2.2⟩).append n
theorem Ao.nb{j k:H}{f:Nat}{m:T}{h:List T}{i:List fw}(c:Ao j f m h i)(d:Nb j k):Ao k f m h i:=by
 obtain⟨p,l⟩:=c.gl
 have q:=d.ok.sz
 exact⟨⟨p,(d.get f (H.dL l)).trans l⟩,c.g.mono λe b=>by obtain⟨_,_,_,_,n,_⟩:=c.g.box b;exact d.get e (H.dL n),c.a.imp λ_ _ o=>o.mono λe b=>⟨⟨by omega,b.2⟩,d.get e b.1⟩⟩
theorem Ao.out{b:H}{d:Nat}{j:T}{f:List T}{i:List fw}(e:Ao b d j f i)(c:H):Ao (kV c b) d j f i:=by
 obtain⟨p,n⟩:=e.gl
 exact⟨⟨p,(fj c b d).trans n⟩,e.g.out c,e.a.imp λ_ _ o=>o.mono λk l=>⟨by simpa using l,fj c b k⟩⟩
def El(e:fw)(f:T):T:= .agg [.int .i64 e.kind,.int .i64 e.a,.int .i64 e.b,.int .i64 e.c,.int .i64 e.d,f]
structure IAd where
 (z:em) (g:fw) (e:T) (bx bl:Nat) (v:T) (es:List T) (gs:List fw)
def Jb(a:IAd)(d:List T)(b:H):Prop:=d=[El a.g a.e,.ptr a.bx 0 0 0,.ptr a.bl 0 0 0]/\(∃f,b.get a.bx=some ⟨16,0,f,true,false,[a.z.t]⟩)/\Ao b a.bl a.v a.es a.gs/\gh 0 b/\vK a.z/\a.es.length<=1000000/\a.g.jf.length<=1000000/\Gr b a.e 1 (fD a.g.jf)/\(∀c,dE a.e=some c->c≠a.bl)
def HL(a:IAd)(f:List T)(e:H)(h:T)(b:H):Prop:=∃c d,Ao b a.bl c d (a.gs++ig a.z.w.gx.vG a.g)/\Fm e b a.bl a.v c
theorem Jl:(jM IAd Jb HL).Ok Tryz.prog cx 22:=by
 refine iU (tb:=⟨pt [(23,tj)],ht []⟩) dX dU (iN 79 [] Tryz.func22) (λ_ _=>10) (λi a h bp=>by obtain⟨rfl,_⟩:=bp;simp[Tryz.f22]) ?_
 rintro⟨S,j,l,aE,r,A,U,bu⟩ _ h ⟨rfl,⟨bB,O⟩,I,ap,an,bn,al,C,P⟩ bz Z
 simp only at O I an bn al C P
 simp[El]at Z
 obtain⟨bi,D,E⟩:=Z
 obtain⟨R,ae⟩:=I.gl
 generalize y:(TI.hr h).cons ⟨6,0,0,true,false,[El j l]⟩=m
 have F:gh h.size m:=by rw[<-y];exact(⟨ap.hr.hp,ap.hr.low,au _⟩:gh h.size (TI.hr h)).cons _
 have bT:m.size=h.size+1:=by rw[<-y];rfl
 have z:Nb h m:=⟨F,λe f=>by rw[<-y,dH,ao (by simp;omega)];exact fU h e⟩
 have aN:=(z.get aE (H.dL O)).trans O
 have J:=(z.get r (H.dL ae)).trans ae
 have X:m.get h.size=some ⟨6,0,0,true,false,[.agg [.int .i64 j.kind,.int .i64 j.a,.int .i64 j.b,.int .i64 j.c,.int .i64 j.d,l]]⟩:=by rw[<-y];simp[El]
 have Y:Gr m l 1 (fD j.jf):=C.mono λe f=>by obtain⟨_,_,_,_,o,_⟩:=C.box f;exact z.get e (H.dL o)
 have a6:TI.fz m l=some (sl (fD j.jf)):=Y.fz (by simp)
 have aX:∀{tb:eG},tb.p 23=some tj->rl Tryz.prog cx tb 23 [S.t,j.t]=some (.bool (S.w.gx.vG j)):=λht=>QG ht S j an al
 have v:=I.nb z
 unfold El at y
 simp[Tryz.f22,bi,D,y,aN,X,a6,aX]
 refine dM (λQ=> ?_) (λQ=> ?_)
 ·have av:gh 0 m:=⟨F.hp,F.low,aw _⟩
  obtain⟨u,L,T,q⟩:=v.g.uP (cx:=cx) av Iw rfl Iv rfl (by simp) (x:=El j l) rfl (by simp only[show Tr.bytes=64 from rfl];omega)
  have bk:=H.dL J
  have M:=(q.2.1 r bk (λs=>by obtain⟨_,_,_,_,o,_⟩:=v.g.box s;rw[J]at o;simp at o)).trans J
  have bv:=av.low
  have bN:=q.2.2.2.sz
  unfold El at T
  have sv:lr A 0 [u]=some u:=Dk (nz.na (h:=m) (sz:=6) (.inr v.g))
  simp[E,J,X,T,M,sv,q.1.fT,q.1.cells,v.g.cells]
  have K:∀G e,(dI L r G).get e=if e=r then some G else L.get e:=λG e=>dy M G e
  have bs:dE u≠some r:=λs=>by obtain⟨_,_,_,_,o,_⟩:=q.1.box s;rw[M]at o;simp at o
  have W:Fm m (dI L r ⟨1,0,R+1,true,false,[u]⟩) r A u:=⟨q.2.2.2.put _ _,λe f D E=>by rw[K,ao D];exact q.2.1 e f E,q.2.2.1⟩
  have aA:=v.step (gs2:=[j]) W ⟨R+1,by rw[K,aq rfl]⟩ (q.1.mono λe s=>by rw[K,ao (λk=>bs (by rw[<-k];exact s))]) (.cons (.inr (.inr ⟨_,_,rfl,.cons (fJ ..) (.cons (fJ ..) (.cons (fJ ..) (.cons (fJ ..) (.cons (fJ ..) (.cons (?_:FT _ _ 3 l (sl (fD j.jf))) .nil))))),rfl⟩)) .nil)
  rotate_left
  ·have N:∀e,dE l=some e->e<h.size:=λe f=>by obtain⟨_,_,_,_,o,_⟩:=C.box f;exact H.dL o
   have V:∀e,dE l=some e->dE A≠some e:=λe f=>C.ne I.g (by decide) e f
   have a8:Gr (dI L r ⟨1,0,R+1,true,false,[u]⟩) l 1 (fD j.jf):=Y.mono λe f=>by
    rw[K,ao (P e f)];exact q.2.1 e (by have:=N e f;omega) (V e f)
   exact(show nz _ 1 l (fD j.jf)from .inr a8).ft (d:=1) (λG o=>by obtain⟨n,_,rfl⟩:=List.mem_map.1 o;simp) λe f=>⟨by have:=N e f;simp;omega,P e f,λs=>(q.2.2.1 e s).elim (V e f) (by have:=N e f;omega)⟩
  have a7:Fm h m r A A:=Fm.nb z
  have B:=a7.trans W
  refine⟨u,U++[El j l],?_,⟨⟨(B.ok.out h).hp,(B.ok.out h).low,by simpa using B.ok.sz⟩,λe f D E=>(fj h _ e).trans (B.fr e f D E),B.bx⟩⟩
  unfold ig;rw[Q];exact aA.out h
 ·simp
  exact⟨A,U,by
   unfold ig;rw[Q];simpa using v.out h,Fm.nb ⟨⟨(F.out h).hp,(F.out h).low,by simp;omega⟩,λe f=>(fj h m e).trans (z.get e f)⟩⟩
@[simp] theorem Z9 (b:aj) (a:List T):(T.func b a).cells=[.func b a]:=id rfl
@[simp] theorem abe (b:aj) (a:List T):(T.func b a).fT=true:=id rfl
theorem TC{h:H}(b c a:Nat)(d:iE)(f:h.get b=some d)(g:d.sz=1):I6 cx h m8 (.arr b c 0 a false) none (some a) (some a)=some (.val (.arr b c 0 a true) h):=by
 unfold I6
 have e:iQ cx h m8.u (.arr b c 0 a false)=true:=by
  unfold iQ;simp only[show m8.u= .slice 3 from rfl,mJ,f,g];rfl
 rw[e,fO,show xp (some a) (some a)=true from rfl,fO,show asSlice m8.u (.arr b c 0 a false)= .arr b c 0 a false by rw[show m8.u= .slice 3 from rfl];rfl]
 show val h (fy (Nat.ble 0 a) (fy (Nat.ble a a) (dB (fF (Nat.add 0 0)) λj=>dB (fF (Nat.sub a 0)) λi=>fy (Nat.beq a a) (some (T.arr b c j i true)))))=_
 simp
theorem Oy{h:H}{b ep n:Nat}{c:List T}(g:h.iy (.arr b ep 0 n true)=some c)(f:∀d∈c,d.cells.length=1)(hl:c.length<=1000)(a:Int):
 iu cx (h.cons ⟨1,0,0,true,false,[.int .i64 a]⟩) 38 38 (.arr b ep 0 n true) (.arr h.size 0 0 1 false)=some (.val (.arr (h.size+1) 0 0 (c.length+1) false) ((h.cons ⟨1,0,0,true,false,[.int .i64 a]⟩).cons ⟨1,0,0,false,false,c++[.int .i64 a]⟩)):=by
 unfold iu oF mf
 simp only[jQ,dD,show m8.u= .slice 3 from rfl,mJ]
 have i:(h.cons ⟨1,0,0,true,false,[.int .i64 a]⟩).iy (.arr h.size 0 0 1 false)=some [.int .i64 a]:=by rw[fH];simp
 rw[i,dD]
 show fy true (iV (dB ((h.cons ⟨1,0,0,true,false,[.int .i64 a]⟩).iy (.arr b ep 0 n true)) λc=>(h.cons ⟨1,0,0,true,false,[.int .i64 a]⟩).iA 1 8 c [.int .i64 a]))=_
 rw[fO,Bd g,dD]
 unfold H.iA
 rw[oO,dD,iX,gD,dD,lA f,lA (by simp[T.cells])]
 have e:Nat.ble (Nat.mul (c++[T.int .i64 a]).length 8) 70368744177664=true:=by
  rw[Nat.ble_eq];show(c++[T.int .i64 a]).length*8<=_;simp;omega
 rw[e]
 simp only[show Nat.ble 1 8=true from rfl,fO,H.j4,aP,List.length_singleton]
 rfl
theorem Fm.T0{a c:H}{d:Nat}{f g:T}(b:Fm a c d f g):Fm a (kV a c) d f g:=⟨⟨(b.ok.out a).hp,(b.ok.out a).low,by simpa using b.ok.sz⟩,λe j h i=>(fj a c e).trans (b.fr e j h i),b.bx⟩
def OJ(b a:Nat):T:= .func 22 [.ptr b 0 0 0,.ptr a 0 0 0]
def Qd(a b c:Nat):T:= .func 53 [.ptr a 0 0 0,.ptr b 0 0 0,.ptr c 0 0 0]
structure Xf(h:H)(z:em)(b1 b2 b3 bx bl:Nat):Prop where
 e1:∃ver,h.get b1=some ⟨1,0,ver,true,false,[OJ bx bl]⟩
 e2:∃ver,h.get b2=some ⟨16,0,ver,true,false,[z.t]⟩
 e3:∃ver,h.get b3=some ⟨1,0,ver,true,false,[Qd b1 b2 b3]⟩
 ex:∃ver,h.get bx=some ⟨16,0,ver,true,false,[z.t]⟩
theorem Ao.ne{i:H}{h:Nat}{f:T}{m:List T}{n:List fw}(l:Ao i h f m n){c:Nat}{a:iE}(j:i.get c=some a)(k:a.sz=16\/(a.sz=1/\a.dO≠ [f])):c≠h/\dE f≠some c:=by
 obtain⟨o,d⟩:=l.gl
 refine⟨?_,λq=> ?_⟩
 ·rintro rfl
  rw[j]at d;simp only[ar]at d;subst d
  rcases k with q|q
  ·simp at q
  ·exact q.2 rfl
 ·obtain⟨_,_,_,_,e,_⟩:=l.g.box q
  rw[j]at e;simp only[ar]at e;subst e
  rcases k with q|q
  ·simp at q
  ·have:=q.1;simp at this
theorem Gr.nf{f:H}{a:T}{g:Nat}{c:List T}(e:Gr f a g c){d:aj}{b:List T}: [T.func d b]≠ [a]:=by
 rcases e with⟨rfl,_⟩|⟨_,_,_,_,_,rfl,_⟩<;>simp
theorem Xf.fm{j o:H}{u:em}{k l m n b:Nat}{t x:T}{v:List T}{w:List fw}(c:Xf j u k l m n b)(a:Ao j b t v w)(d:Fm j o b t x):Xf o u k l m n b:=by
 obtain⟨y,e⟩:=c.e1
 obtain⟨z,f⟩:=c.e2
 obtain⟨A,h⟩:=c.e3
 obtain⟨B,i⟩:=c.ex
 have p:=a.ne e (.inr ⟨rfl,Gr.nf a.g⟩)
 have q:=a.ne f (.inl rfl)
 have r:=a.ne h (.inr ⟨rfl,Gr.nf a.g⟩)
 have s:=a.ne i (.inl rfl)
 exact⟨⟨y,(d.fr _ (H.dL e) p.1 p.2).trans e⟩,⟨z,(d.fr _ (H.dL f) q.1 q.2).trans f⟩,⟨A,(d.fr _ (H.dL h) r.1 r.2).trans h⟩,⟨B,(d.fr _ (H.dL i) s.1 s.2).trans i⟩⟩
structure Xb where
 (z:em) (p:List Int) (pv:T) (b1 b2 b3 bx bl:Nat) (v:T) (es:List T) (gs:List fw)
def Z1(b:em)(a:List Int):List (List Int):=w7 b.w.gx.ev.length (λa=>decide (2<=a.length)&&b.w.gx.vG (gC a)) (λa c=>b.w.gx.pI c (ks a)) (4-a.length) a
def Me(a:Xb)(d:List T)(b:H):Prop:=d=[a.pv,.ptr a.b1 0 0 0,.ptr a.b2 0 0 0,.ptr a.b3 0 0 0]/\Xf b a.z a.b1 a.b2 a.b3 a.bx a.bl/\Ao b a.bl a.v a.es a.gs/\gh 0 b/\vK a.z/\Gr b a.pv 1 (fD a.p)/\(∀c,dE a.pv=some c->c≠a.bl)/\1<=a.p.length/\a.p.length<=4/\(∀e∈a.p,iI e a.z.w.dw.length=true)/\a.gs.length+(Z1 a.z a.p).length<=1000000
def HG(a:Xb)(f:List T)(e:H)(g:T)(b:H):Prop:=∃c d,Ao b a.bl c d (a.gs++(Z1 a.z a.p).map gC)/\Fm e b a.bl a.v c
theorem T9(k:Nat):(jM Xb (λi a h=>Me i a h/\5-i.p.length<k) HG).Ok Tryz.prog cx 53:=by
 refine tX (λi:Xb=>5-i.p.length) (λm eR=> ?_) k
 refine iU (tb:=⟨pt [(55,nN)],ht [(22,jM IAd Jb HL),(54,jM OT (xi 1) (tF 1)),(53,jM Xb (λi a h=>Me i a h/\5-i.p.length<m) HG)]⟩) dX dU (iN 137506128175 [(1,[(0,2)]),(7,[(0,9)])] Tryz.func53) (λ_ _=>100) (λi a h eL=>by obtain⟨⟨rfl,_⟩,_⟩:=eL;simp[Tryz.f53]) ?_
 rintro⟨d,c,z,R,a7,C,b9,o,L,es,V⟩ _ h ⟨⟨rfl,bi,A,bX,Y,N,bN,eM,eN,av,bu⟩,eH⟩ l cp
 simp only at bi A Y N bN eM eN av bu eH
 simp at cp
 obtain⟨f,v,t,F⟩:=cp
 have de:Nb h (TI.hr h):=⟨⟨bX.hr.hp,bX.hr.low,au _⟩,λe _=>fU h e⟩
 have bp:Fm h (TI.hr h) o L L:=Fm.nb de
 have aE:=A.nb de
 have ce:=bi.fm A bp
 have eS:∀b,dE z=some b->b<h.size:=λb eC=>by obtain⟨_,_,_,_,S,_⟩:=N.box eC;exact H.dL S
 have di:∀e,dE z=some e->dE L≠some e:=λe u=>N.ne A.g (by decide) e u
 have Z:=λv:H=>N.len (cx:=cx) v m8 _ rfl
 rw[aH]at Z
 have e9:es.length=V.length:=by have:=A.a.length;simpa using this
 obtain⟨fL,E⟩:=ce.e1
 simp[Tryz.f53,f,Z]
 refine m6 (λl h'=>∃j q,Ao h' o j q (V++(if(decide (2<=c.length)&&d.w.gx.vG (gC c))=true then [c]else []).map gC)/\Fm h h' o L j/\TI.dt l 0=some z/\TI.dt l 1=some (.ptr R 0 0 0)/\TI.dt l 2=some (.ptr a7 0 0 0)/\TI.dt l 3=some (.ptr C 0 0 0)) (λP=> ?_) (λP=> ?_) ?_
 ·have ey:2<=c.length:=by have:=of_decide_eq_true P;omega
  have et:Gr (TI.hr h) z 1 (fD c):=N.mono λe _=>fU h e
  simp[f,v,E,OJ]
  refine kA FF (by simp) ⟨z,fD c⟩ ⟨rfl,et.iy,by simp[T.cells],by simp;omega,bX.hr⟩ ?_
  rintro r e6 ⟨ap,J,eU⟩
  simp only at ap
  have aN:=aE.nb J
  have ef:=ce.fm aE (Fm.nb J)
  have dn:o<h.size:=by obtain⟨ver,bz⟩:=A.gl;exact H.dL bz
  have eV:=ee (J.get R (H.dL E))
  simp[ap.fT,ap.cells,eV]
  refine kA Jl (by simp) ⟨d,gC c,r,b9,o,L,es,V⟩ ⟨rfl,ef.ex,aN,⟨J.ok.hp,J.ok.low,aw _⟩,Y,by simp only;omega,by simp[gC];omega,ap,λe u=>by have:=eU e u;simp at this;show e≠o;omega⟩ ?_
  rintro _ e7 ⟨j,q,dm,al⟩
  have eo:=(bp.trans (Fm.nb J)).trans al
  have c9:=aN.ne ((J.get R (H.dL E)).trans E) (.inr ⟨rfl,Gr.nf aN.g⟩)
  have eW:=ee (al.fr R (bD (H.dL E) J.ok.sz) c9.1 c9.2)
  have fo:=al.ok.low
  have gg:=al.ok.sz
  simp[f,v,t,F,eW]
  refine⟨j,⟨q,?_⟩,eo⟩
  have:ig d.w.gx.vG (gC c)=List.map gC (if 2<=c.length/\d.w.gx.vG (gC c)=true then [c]else []):=by
   unfold ig
   by_cases K:d.w.gx.vG (gC c)=true
   ·rw[aq K,aq ⟨ey,K⟩];rfl
   ·rw[ao K,ao (λk=>K k.2)];rfl
  rw[<-this];exact dm
 ·have:¬2<=c.length:=by simp at P;omega
  simp[f,v,t,F,this]
  exact⟨L,⟨es,aE⟩,bp⟩
 rintro l h' ⟨j,q,B,s,f,v,t,F⟩
 have b6:∀{t:H} {dk:T},Fm h t o L dk->Gr t z 1 (fD c):=λM=>N.mono λe u=>M.fr e (eS e u) (bN e u) (di e u)
 have O:Z1 d c=w7 d.w.dw.length (λc=>decide (2<=c.length)&&d.w.gx.vG (gC c)) (λc I=>d.w.gx.pI I (ks c)) (4-c.length) c:=rfl
 simp[f,Z]
 refine dM (λP=> ?_) (λP=> ?_)
 ·simp at P
  rw[show 4-c.length=0 by omega,w7]at O
  simp
  refine⟨j,q,?_,s.T0⟩
  simp only
  rw[O]
  exact B.out h
 simp at P
 obtain⟨U,eA⟩:∃U,4-c.length=U+1:=⟨3-c.length,by omega⟩
 rw[eA,w7]at O
 obtain⟨p0,bB⟩:∃p0:Nat,c[0]? =some (p0:Int)/\p0<d.w.dw.length:=by
  have:=ed.1 (av c[0] (aF (by omega)))
  exact⟨c[0].toNat,by rw[aB (by omega)];congr 1;omega,by omega⟩
 have fl:=Y.w.ok.len
 have eD:(c.getD 0 0).toNat=p0:=by simp[List.getD,bB.1]
 rw[eD]at O
 have bT:c.length-1<c.length:=by omega
 have c6:ks c=c[c.length-1]:=by simp[ks,List.getD,bT]
 have eI:iI (ks c) d.w.dw.length=true:=by rw[c6];exact av _ (aF bT)
 obtain⟨D,bn,fX,e5,fY,G,c4,_,_⟩:=N.at (x:= .int .i64 p0) (i:=0) (by rw[aT,bB.1];rfl)
 rw[aH]at G
 obtain⟨fC,E,ca⟩:=(show nz h' 1 z _ from .inr (b6 s)).idx (te:=Dj) rfl rfl (i:=0) (x:= .int .i64 p0) (by simp[bB.1]) rfl
 have eB:binop .add (.int .i64 (p0:Int)) (.int .i64 1)=some (.int .i64 ((p0:Int)+1)):=fQ (by omega) (by omega)
 have eO:binop .sub (.int .i64 (c.length:Int)) (.int .i64 1)=some (.int .i64 ((c.length-1:Nat):Int)):=by rw[kl (by omega) (by omega)];congr 2;omega
 generalize c1:(λ(I:Nat)=>if d.w.gx.pI I (ks c)=true then w7 d.w.dw.length (λc=>decide (2<=c.length)&&d.w.gx.vG (gC c)) (λc I=>d.w.gx.pI I (ks c)) U (c++[(I:Int)])else [])=M at O
 generalize(if(decide (2<=c.length)&&d.w.gx.vG (gC c))=true then [c]else [])=b7 at*
 simp[f,E,ca,eB]
 clear E ca
 refine mF d.w.dw.length (λk l h'=>p0+1<=k/\∃j q,Ao h' o j q (V++(b7++(List.range' (p0+1) (k-(p0+1))).flatMap M).map gC)/\Fm h h' o L j/\TI.dt l 0=some z/\TI.dt l 1=some (.ptr R 0 0 0)/\TI.dt l 2=some (.ptr a7 0 0 0)/\TI.dt l 3=some (.ptr C 0 0 0)/\TI.dt l 5=some (.int .i64 k)) ?_ (by omega) (k:=p0+1) (by omega) ?_
 ·rintro k l h' fe ⟨fb,j,q,B,s,f,v,t,F,W⟩
  have bk:=bi.fm A s
  obtain⟨dk,cb⟩:=bk.e2
  obtain⟨fS,ae⟩:=bk.e3
  by_cases c7:k<d.w.dw.length
  ·have cL:binop .add (.int .i64 (k:Int)) (.int .i64 1)=some (.int .i64 ((k:Int)+1)):=fQ (by omega) (by omega)
   obtain⟨fE,ds,dv⟩:=(show nz h' 1 z _ from .inr (b6 s)).idx (te:=Dj) rfl rfl (i:=c.length-1) (x:= .int .i64 (ks c)) (by rw[c6];simp[bT]) rfl
   have ea:=λ{tb:eG} (ht:tb.p 55=some nN)=>GR ht d k (ks c) Y (ed.2 ⟨by omega,by omega⟩) eI
   simp[f,t,W,c7,cb,Z,eO,ds,dv,ea]
   refine dM (λK=> ?_) (λK=> ?_)
   ·have eu:=b6 s
    have eF:h'.iy (.arr D bn 0 c.length true)=some (fD c):=by
     have:=eu.iy;rw[G]at this;rw[fH]at this|-;exact this
    have fB:∀e,dE z=some e->e=D:=λe u=>by rw[G]at u;simpa using u.symm
    have eE:h'.get D=_:=(s.fr D (H.dL c4) (bN D (by rw[G];rfl)) (di D (by rw[G];rfl))).trans c4
    have eb:=TC (h:=h') D bn c.length _ eE rfl
    have a8:=Oy (h:=h') (b:=D) (ep:=bn) (n:=c.length) eF (by simp[T.cells]) (by simp;omega) (k:Int)
    rw[aH]at a8
    have aA:gh h.size h':=s.ok
    generalize bs:(h'.cons ⟨1,0,0,true,false,[.int .i64 k]⟩).cons ⟨1,0,0,false,false,fD c++[.int .i64 k]⟩=X at a8
    have gi:X.size=h'.size+1+1:=by rw[<-bs];rfl
    have Q:Nb h' X:=by rw[<-bs];exact((Nb.refl ⟨aA.hp,aA.low,aw _⟩).cons _).cons _
    have er:Gr X (.arr (h'.size+1) 0 0 (c.length+1) false) 1 (fD (c++[(k:Int)])):=by
     have:=Gr.new (h:=X) (b:=h'.size+1) (sz:=1) (ep:=0) (ver:=0) (ex:=false) (es:=fD (c++[(k:Int)])) (by rw[<-bs,show fD (c++[(k:Int)])=fD c++[.int .i64 k]from List.map_append ..];simp)
     simpa using this
    have aX:=B.nb Q
    have eh:=bk.fm B (Fm.nb Q)
    have fv:=aA.low
    have b8:=H.dL ae
    have gk:=aA.sz
    have fA:(C=h'.size)=False:=by simp;omega
    have eX:=ee (h:=h'.cons ⟨1,0,0,true,false,[.int .i64 k]⟩) (h':=X) (b:=C) (by rw[Q.get C b8,dH,ao (by omega)])
    have dn:o<h.size:=by obtain⟨ver,bz⟩:=A.gl;exact H.dL bz
    simp only[Qd]at ae
    rw[G]at f
    simp[f,F,W,ae,G▸Z,eb,a8,eX]
    have bv:M k=w7 d.w.dw.length (λc=>decide (2<=c.length)&&d.w.gx.vG (gC c)) (λc I=>d.w.gx.pI I (ks c)) U (c++[(k:Int)]):=by rw[<-c1];simp only;rw[aq K]
    have cX:Z1 d (c++[(k:Int)])=M k:=by rw[bv];unfold Z1;simp only[aP,List.length_singleton];rw[show 4-(c.length+1)=U by omega];rfl
    have eP:fV (p0+1) d.w.dw.length=List.range' (p0+1) (k-(p0+1))++k::List.range' (k+1) (d.w.dw.length-(k+1)):=by
     unfold fV
     rw[show d.w.dw.length-(p0+1)=(k-(p0+1))+(d.w.dw.length-k)by omega,<-List.range'_append_1,show p0+1+(k-(p0+1))=k by omega,show d.w.dw.length-k=(d.w.dw.length-(k+1))+1 by omega,List.range'_succ]
    refine kA eR (by simp) ⟨d,c++[(k:Int)],.arr (h'.size+1) 0 0 (c.length+1) false,R,a7,C,b9,o,j,q,V++(b7++(List.range' (p0+1) (k-(p0+1))).flatMap M).map gC⟩ ⟨⟨rfl,eh,aX,⟨Q.ok.hp,Q.ok.low,aw _⟩,Y,er,λe u=> ?_,by simp,by simp;omega,λy S=> ?_,?_⟩,by simp;omega⟩ ?_
    ·simp at u;show e≠o;omega
    ·simp at S
     rcases S with S|rfl
     ·exact av y S
     ·show iI (k:Int) d.w.dw.length=true
      exact ed.2 ⟨by omega,by omega⟩
    ·simp only[cX]
     rw[O,eP]at bu
     simp only[aP,cM,aO,aH]at bu|-
     omega
    rintro _ e8 ⟨e4,es3,a6,an⟩
    simp only[cX]at a6
    have dd:=aX.ne ((Q.get C b8).trans ae) (.inr ⟨rfl,Gr.nf aX.g⟩)
    have e0:=ee (an.fr C (by omega) dd.1 dd.2)
    have fs:=an.ok.low
    have gj:=an.ok.sz
    simp[f,v,t,F,W,cL,e0]
    refine⟨k+1,by omega,by omega,by omega,e4,⟨es3,?_⟩,(s.trans (Fm.nb Q)).trans an,by rw[G],by simp⟩
    rw[show k+1-(p0+1)=(k-(p0+1))+1 by omega,List.range'_concat,show p0+1+1*(k-(p0+1))=k by omega,cM]
    simp only[aO,cg,bL,List.map_append,<-aI]at a6|-
    exact a6
   ·simp[f,v,t,F,W,cL]
    have bv:M k=[]:=by rw[<-c1];simp only;rw[ao (by rw[K];simp)]
    refine⟨k+1,by omega,by omega,by omega,j,⟨q,?_⟩,s,by simp⟩
    rw[show k+1-(p0+1)=(k-(p0+1))+1 by omega,List.range'_concat,show p0+1+1*(k-(p0+1))=k by omega,cM]
    simpa[bv]using B
  ·simp[t,W,c7,cb]
   refine⟨j,q,?_,s.T0⟩
   simp only
   rw[O]
   unfold fV
   rw[show k=d.w.dw.length by omega]at B
   exact B.out h
 ·exact⟨by omega,j,q,by simpa using B,s,by simp[f,v,t,F]⟩
theorem Hx(a:T):lr .j3 0 [a]=some a:=Dk (by simp)
structure IDl where
 (z:em) (bx bl:Nat) (v:T) (es:List T) (gs:List fw)
def yJ(a:em)(c:Nat):List fw:=(fV c a.w.dw.length).flatMap λ(b:Nat)=>(a.w.gx.Iu b).map gC
def Sw(a:IDl)(c:List T)(b:H):Prop:=c=[a.z.t,OJ a.bx a.bl]/\(∃d,b.get a.bx=some ⟨16,0,d,true,false,[a.z.t]⟩)/\Ao b a.bl a.v a.es a.gs/\gh 0 b/\vK a.z/\a.gs.length+(yJ a.z 0).length<=1000000
def Mr(a:IDl)(f:List T)(e:H)(g:T)(b:H):Prop:=∃c d,Ao b a.bl c d (a.gs++yJ a.z 0)/\Fm e b a.bl a.v c
theorem DC:(jM IDl Sw Mr).Ok Tryz.prog cx 24:=by
 refine iU (tb:=⟨pt [],ht [(53,jM Xb (λI h a=>Me I h a/\5-I.p.length<6) HG)]⟩) dX dU (iN 7231 [] Tryz.func24) (λ_ _=>100) (λI h a ap=>by obtain⟨rfl,_⟩:=ap;simp[Tryz.f24]) ?_
 rintro⟨b,s,d,T,X,O⟩ _ a ⟨rfl,⟨aN,F⟩,v,o,G,R⟩ r Q
 simp only at F v G R
 simp at Q
 obtain⟨Y,Z⟩:=Q
 have a7:=G.w.ok.len
 have aA:(TI.hr a).low<=a.size:=by have:=o.hr.low;simp
 have aE:∀h y e u,dI ((((TI.hr a).cons h).cons y).cons e) (a.size+1+1) u=(((TI.hr a).cons h).cons y).cons u:=λh y e u=>AM _ _ _ _ rfl (by simp;omega)
 simp[Tryz.f24,Y,Z,aE,OJ,Hx]
 generalize f:H.cons _ _=m
 have S:gh a.size m:=by rw[<-f];exact(((⟨o.hr.hp,o.hr.low,au _⟩:gh a.size (TI.hr a)).cons _).cons _).cons _
 have bn:m.size=a.size+1+1+1:=by rw[<-f];rfl
 have J:Nb a m:=by rw[<-f];exact⟨((((Nb.refl o.hr).cons _).cons _).cons _).ok,λe C=>(((((Nb.refl o.hr).cons _).cons _).cons _).get e C).trans (fU a e)⟩
 have V:Xf m b (a.size+1) a.size (a.size+1+1) s d:=⟨⟨0,by rw[<-f];simp[OJ]⟩,⟨0,by rw[<-f];simp⟩,⟨1,by rw[<-f];simp[Qd]⟩,⟨aN,(J.get s (H.dL F)).trans F⟩⟩
 clear f
 refine mF b.w.dw.length (λk r c=>∃q t i,Ao c d q t i/\i++yJ b k=O++yJ b 0/\Xf c b (a.size+1) a.size (a.size+1+1) s d/\Fm m c d T q/\TI.dt r 4=some (.ptr (a.size+1+1) 0 0 0)/\TI.dt r 10=some (.int .i64 b.w.dw.length)/\TI.dt r 11=some (.int .i64 k)) ?_ (by omega) (k:=0) (by omega) ⟨T,X,O,v.nb J,rfl,V,Fm.nb ⟨⟨S.hp,S.low,au _⟩,λ_ _=>rfl⟩,by simp⟩
 rintro k r c a6 ⟨q,t,i,j,g,z,l,P,A,B⟩
 have K:gh 0 c:=⟨l.ok.hp,l.ok.low,aw _⟩
 obtain⟨bi,L⟩:=z.e3
 by_cases D:k<b.w.dw.length
 ·have al:binop .add (.int .i64 (k:Int)) (.int .i64 1)=some (.int .i64 ((k:Int)+1)):=fQ (by omega) (by omega)
  have E:yJ b k=(b.w.gx.Iu k).map gC++yJ b (k+1):=by unfold yJ;rw[ji D];rfl
  rw[E]at g
  have an:i.length+(b.w.gx.Iu k).length<=1000000:=by
   have:=bO List.length g
   simp at this R;omega
  have bp:=l.ok.sz
  have M:=L
  simp only[Qd]at M
  have a8:(a.size+1+1=c.size)=False:=by have:=H.dL L;simp;omega
  have aA:=K.low
  simp[P,A,B,D,M]
  have n:Nb c (c.cons ⟨1,0,0,true,false,[.int .i64 k]⟩):=(Nb.refl K).cons _
  have aX:d<a.size:=by obtain⟨bk,g⟩:=v.gl;exact H.dL g
  refine gd (T9 6) (by simp) ⟨b,[(k:Int)],.arr c.size 0 0 1 false,a.size+1,a.size,a.size+1+1,s,d,q,t,i⟩ ⟨⟨rfl,z.fm j (Fm.nb n),j.nb n,K.cons _,G,.inr ⟨c.size,0,0,true,[.int .i64 k],rfl,by simp,rfl⟩,λe C=> ?_,by simp,by simp,λu av=> ?_,an⟩,by simp⟩ ?_
  ·simp at C;show e≠d;omega
  ·rw[List.mem_singleton.1 av];exact ed.2 ⟨by omega,by simp only;omega⟩
  rintro _ ae ⟨U,vD,x,N⟩
  have W:=(z.fm j (Fm.nb n)).fm (j.nb n) N
  have x:Ao ae d U vD (i++(b.w.gx.Iu k).map gC):=x
  simp[P,A,B,al]
  exact⟨k+1,by omega,by omega,U,vD,_,x,by rw[aI];exact g,W,(l.trans (Fm.nb n)).trans N,by simp⟩
 ·have E:yJ b k=[]:=by unfold yJ;rw[jL (by omega)];rfl
  rw[E,bL]at g
  subst g
  simp[A,B,D]
  exact⟨q,t,j.out a,((Fm.nb J).trans l).T0⟩
def yg:fK:=⟨dZ,λa=>[a.t],λa=>jV a,λa=>sl (a.gx.mI.map fw.t),λc d b=>by simp at b;rw[dZ.inj b]⟩
theorem Oo{b:eG}(ht:b.p 21=some so)(a:dZ)(c:jV a):rl Tryz.prog cx b 21 [a.t]=some (.tuple [em.t ⟨a,a.gx.st⟩,.bool true]):=fR ht KP a c
structure IP(w:dZ)(h:H)(v:T)(es:List T)(gs:List fw):Prop where
 ac:Ao h 2 v es gs
 ok:gh 3 h
 b0:h.get 0=some ⟨15,0,0,true,false,[w.t]⟩
 b1:h.get 1=some ⟨16,0,1,true,false,[em.t ⟨w,w.gx.st⟩]⟩
theorem IP.fm{k:dZ}{i c:H}{d e:T}{m f:List T}{n h:List fw}(a:IP k i d m n)(b:Fm i c 2 d e)(l:Ao c 2 e f h):IP k c e f h:=by
 have r:=a.ok.sz
 have p:=a.ac.ne a.b1 (.inl rfl)
 have o:dE d≠some 0:=λq=>by
  obtain⟨_,_,_,_,j,_⟩:=a.ac.g.box q
  rw[a.b0]at j;simp at j
 exact⟨l,⟨b.ok.hp,b.ok.low,by have:=b.ok.sz;omega⟩,(b.fr 0 (by omega) (by omega) o).trans a.b0,(b.fr 1 (by omega) (by omega) p.2).trans a.b1⟩
theorem IP.len{b:dZ}{g:H}{l:T}{e:List T}{c d:List fw}(k:IP b g l e c)(j:jV b)(i:c++d=b.gx.mI):e.length<=1000000/\c.length+d.length<=1000000:=by
 have h:=k.ac.a.length
 have f:=yt b.gx j.ok.len
 rw[<-GX.DG,<-i]at f
 simp at h f;omega
theorem jV.Vz{a:dZ}(b:jV a):vK ⟨a,a.gx.st⟩:=⟨b,rfl⟩
theorem IP.pre{b:dZ}{e:H}{i:T}{d:List T}{c j:List fw}(a:IP b e i d c)(h:jV b)(k:c++j=b.gx.mI){g:fw}(f:g.jf=[]):Jb ⟨⟨b,b.gx.st⟩,g,.dq [] false,1,2,i,d,c⟩ [El g (.dq [] false),.ptr 1 0 0 0,.ptr 2 0 0 0] e:=
 ⟨rfl,⟨1,a.b1⟩,a.ac,⟨a.ok.hp,a.ok.low,aw _⟩,h.Vz,(a.len h k).1,by simp[f],by simp[f];exact Gr.nil _ _,λm l=>by simp at l⟩
theorem PL:yg.Ok Tryz.prog cx 10:=by
 refine f8 (tb:=⟨pt [(21,so),(25,rm)],ht [(22,jM IAd Jb HL),(24,jM IDl Sw Mr)]⟩) dX dU (iN 40953575029616206113996799 [] Tryz.func10) (λ_=>100) (by simp[yg]) (by simp[yg,Tryz.f10]) ?_
 rintro(d:dZ) G b a7
 replace G:jV d:=G
 simp[yg]at a7|-
 have cL:=G.ok.len
 obtain⟨c,bn⟩:∃c,c=d.dw.length:=⟨_,rfl⟩
 have T:d.gx.mI=((fV 0 c).flatMap λ(j:Nat)=>(fV (j+1) c).flatMap λ(r:Nat)=>ig d.gx.vG (gR j r))++(yJ ⟨d,d.gx.st⟩ 0++(((fV 0 c).flatMap λ(j:Nat)=>(fV 0 j).flatMap λ(r:Nat)=>ig d.gx.vG (gL j r))++
  ((fV 0 c).flatMap λ(j:Nat)=>(fV (j+1) c).flatMap λ(r:Nat)=>if d.gx.GT j r=true then(fV 0 c).flatMap λ(l:Nat)=>(fV l c).flatMap λ(v:Nat)=>ig d.gx.vG (gA j r l v)else []))):=by
  unfold GX.mI yJ
  rw[show d.gx.n=c from bn.symm]
  simp only[Aw,aI,<-bn]
 generalize bN:((fV 0 c).flatMap λ(j:Nat)=>(fV (j+1) c).flatMap λ(r:Nat)=>if d.gx.GT j r=true then(fV 0 c).flatMap λ(l:Nat)=>(fV l c).flatMap λ(v:Nat)=>ig d.gx.vG (gA j r l v)else [])=W at T
 generalize bB:((fV 0 c).flatMap λ(j:Nat)=>(fV 0 j).flatMap λ(r:Nat)=>ig d.gx.vG (gL j r))++W=bp at T
 generalize bz:yJ ⟨d,d.gx.st⟩ 0++bp=an at T
 have b8:(d.dw.length:Int)=c:=by omega
 simp[Tryz.f10,a7,b8,Oo,G]
 refine mF c (λk b y=>∃o m f,IP d y o m f/\f++(((fV k c).flatMap λ(j:Nat)=>(fV (j+1) c).flatMap λ(r:Nat)=>ig d.gx.vG (gR j r))++an)=d.gx.mI/\TI.dt b 1=some (.ptr 0 0 0 0)/\TI.dt b 3=some (.ptr 1 0 0 0)/\TI.dt b 5=some (.ptr 2 0 0 0)/\TI.dt b 6=some (.func 22 [.ptr 1 0 0 0,.ptr 2 0 0 0])/\TI.dt b 7=some (.int .i64 c)/\TI.dt b 27=some (.int .i64 c)/\TI.dt b 28=some (.int .i64 k)) ?_ (by omega) (k:=0) (by omega) ?_
 ·rintro k b y bk ⟨o,m,f,h,e,z,w,x,u,s,J,K⟩
  by_cases A:k<c
  ·have N:=jW A (by omega)
   rw[ji A,aO,aI]at e
   simp[J,K,A,N]
   refine mF c (λi b y=>∃o m f,IP d y o m f/\f++(((fV i c).flatMap λ(r:Nat)=>ig d.gx.vG (gR k r))++(((fV (k+1) c).flatMap λ(j:Nat)=>(fV (j+1) c).flatMap λ(r:Nat)=>ig d.gx.vG (gR j r))++an))=d.gx.mI/\TI.dt b 1=some (.ptr 0 0 0 0)/\TI.dt b 3=some (.ptr 1 0 0 0)/\TI.dt b 5=some (.ptr 2 0 0 0)/\TI.dt b 6=some (.func 22 [.ptr 1 0 0 0,.ptr 2 0 0 0])/\TI.dt b 7=some (.int .i64 c)/\TI.dt b 8=some (.int .i64 k)/\TI.dt b 27=some (.int .i64 c)/\TI.dt b 28=some (.int .i64 k)/\TI.dt b 9=some (.int .i64 i)) ?_ (by omega) (k:=k+1) (by omega) ⟨o,m,f,h,e,by simp[z,w,x,u,s,J,K]⟩
   rintro i b y bi ⟨o,m,f,h,e,z,w,x,u,s,aX,J,K,ae⟩
   by_cases D:i<c
   ·have R:=jW D (by omega)
    rw[ji D,aO]at e
    have S:=h.pre G e (g:=gR k i) rfl
    rw[aI,<-aI]at e
    simp[u,s,aX,ae,D]
    refine gd Jl (by simp) _ S ?_
    rintro _ aN ⟨O,vD,H,I⟩
    simp[z,w,x,u,s,aX,ae,J,K,R]
    exact⟨i+1,by omega,by omega,O,vD,_,h.fm I H,e,by simp⟩
   ·rw[jL (show c<=i by omega)]at e
    simp[z,w,x,u,s,ae,J,K,D,N]
    exact⟨k+1,by omega,by omega,o,m,f,h,e,by simp⟩
  ·rw[jL (show c<=k by omega)]at e
   simp[w,u,J,K,A,h.b1]
   clear A J K
   rw[<-bz,cg,cy]at e
   have a8:=h.len G e
   refine gd DC (by simp) ⟨⟨d,d.gx.st⟩,1,2,o,m,f⟩ ⟨rfl,⟨1,h.b1⟩,h.ac,⟨h.ok.hp,h.ok.low,aw _⟩,G.Vz,by have:=a8.2;simp at this|-;omega⟩ ?_
   rintro _ ca ⟨O,vD,H,I⟩
   have al:=h.fm I H
   rw[<-aI]at e
   simp only at al
   clear h H I a8
   simp[s]
   rw[<-bB]at e
   generalize f++yJ ⟨d,d.gx.st⟩ 0=bv at*
   refine mF c (λk b y=>∃o m f,IP d y o m f/\f++(((fV k c).flatMap λ(j:Nat)=>(fV 0 j).flatMap λ(r:Nat)=>ig d.gx.vG (gL j r))++W)=d.gx.mI/\TI.dt b 1=some (.ptr 0 0 0 0)/\TI.dt b 3=some (.ptr 1 0 0 0)/\TI.dt b 5=some (.ptr 2 0 0 0)/\TI.dt b 6=some (.func 22 [.ptr 1 0 0 0,.ptr 2 0 0 0])/\TI.dt b 7=some (.int .i64 c)/\TI.dt b 47=some (.int .i64 c)/\TI.dt b 48=some (.int .i64 k)) ?_ (by omega) (k:=0) (by omega) ⟨O,vD,bv,al,e,by simp[z,w,x,u,s]⟩
   rintro k b y bk ⟨o,m,f,h,e,z,w,x,u,s,L,M⟩
   by_cases A:k<c
   ·have N:=jW A (by omega)
    rw[ji A,aO,aI]at e
    simp[L,M,A]
    refine mF k (λi b y=>∃o m f,IP d y o m f/\f++(((fV i k).flatMap λ(r:Nat)=>ig d.gx.vG (gL k r))++(((fV (k+1) c).flatMap λ(j:Nat)=>(fV 0 j).flatMap λ(r:Nat)=>ig d.gx.vG (gL j r))++W))=d.gx.mI/\TI.dt b 1=some (.ptr 0 0 0 0)/\TI.dt b 3=some (.ptr 1 0 0 0)/\TI.dt b 5=some (.ptr 2 0 0 0)/\TI.dt b 6=some (.func 22 [.ptr 1 0 0 0,.ptr 2 0 0 0])/\TI.dt b 7=some (.int .i64 c)/\TI.dt b 10=some (.int .i64 k)/\TI.dt b 47=some (.int .i64 c)/\TI.dt b 48=some (.int .i64 k)/\TI.dt b 51=some (.int .i64 k)/\TI.dt b 52=some (.int .i64 i)) ?_ (by omega) (k:=0) (by omega) ⟨o,m,f,h,e,by simp[z,w,x,u,s,L,M]⟩
    rintro i b y bi ⟨o,m,f,h,e,z,w,x,u,s,aA,L,M,Y,Z⟩
    by_cases D:i<k
    ·have R:=jW (show i<c by omega) (by omega)
     rw[ji D,aO]at e
     have S:=h.pre G e (g:=gL k i) rfl
     rw[aI,<-aI]at e
     simp[u,aA,Y,Z,D]
     refine gd Jl (by simp) _ S ?_
     rintro _ aN ⟨O,vD,H,I⟩
     simp[z,w,x,u,s,aA,L,M,Y,Z,R]
     exact⟨i+1,by omega,by omega,O,vD,_,h.fm I H,e,by simp⟩
    ·rw[jL (show k<=i by omega)]at e
     simp[z,w,x,u,s,L,M,Y,Z,D,N]
     exact⟨k+1,by omega,by omega,o,m,f,h,e,by simp⟩
   ·rw[jL (show c<=k by omega)]at e
    simp[s,L,M,A]
    clear A L M
    rw[<-bN,cg,cy]at e
    refine mF c (λk b y=>∃o m f,IP d y o m f/\f++((fV k c).flatMap λ(j:Nat)=>(fV (j+1) c).flatMap λ(r:Nat)=>if d.gx.GT j r=true then(fV 0 c).flatMap λ(l:Nat)=>(fV l c).flatMap λ(v:Nat)=>ig d.gx.vG (gA j r l v)else [])=d.gx.mI/\TI.dt b 1=some (.ptr 0 0 0 0)/\TI.dt b 3=some (.ptr 1 0 0 0)/\TI.dt b 5=some (.ptr 2 0 0 0)/\TI.dt b 6=some (.func 22 [.ptr 1 0 0 0,.ptr 2 0 0 0])/\TI.dt b 7=some (.int .i64 c)/\TI.dt b 62=some (.int .i64 c)/\TI.dt b 63=some (.int .i64 k)) ?_ (by omega) (k:=0) (by omega) ⟨o,m,f,h,e,by simp[z,w,x,u,s]⟩
    rintro k b y bk ⟨o,m,f,h,e,z,w,x,u,s,B,C⟩
    by_cases A:k<c
    ·have N:=jW A (by omega)
     rw[ji A,aO]at e
     simp[B,C,A,N]
     generalize bX:((fV (k+1) c).flatMap λ(j:Nat)=>(fV (j+1) c).flatMap λ(r:Nat)=>if d.gx.GT j r=true then(fV 0 c).flatMap λ(l:Nat)=>(fV l c).flatMap λ(v:Nat)=>ig d.gx.vG (gA j r l v)else [])=av at e
     refine mF c (λi b y=>k<i/\∃o m f,IP d y o m f/\f++(((fV i c).flatMap λ(r:Nat)=>if d.gx.GT k r=true then(fV 0 c).flatMap λ(l:Nat)=>(fV l c).flatMap λ(v:Nat)=>ig d.gx.vG (gA k r l v)else [])++av)=d.gx.mI/\TI.dt b 1=some (.ptr 0 0 0 0)/\TI.dt b 3=some (.ptr 1 0 0 0)/\TI.dt b 5=some (.ptr 2 0 0 0)/\TI.dt b 6=some (.func 22 [.ptr 1 0 0 0,.ptr 2 0 0 0])/\TI.dt b 7=some (.int .i64 c)/\TI.dt b 12=some (.int .i64 k)/\TI.dt b 13=some (.int .i64 i)/\TI.dt b 62=some (.int .i64 c)/\TI.dt b 63=some (.int .i64 k)) ?_ (by omega) (k:=k+1) (by omega) ⟨by omega,o,m,f,h,e,by simp[z,w,x,u,s,B,C]⟩
     rintro i b y bi ⟨cp,o,m,f,h,e,z,w,x,u,s,F,E,B,C⟩
     by_cases D:i<c
     ·have R:=jW D (by omega)
      rw[ji D,aO,aI]at e
      generalize a6:((fV (i+1) c).flatMap λ(r:Nat)=>if d.gx.GT k r=true then(fV 0 c).flatMap λ(l:Nat)=>(fV l c).flatMap λ(v:Nat)=>ig d.gx.vG (gA k r l v)else [])++av=ap at e
      have bu:∀{tb:eG},tb.p 25=some rm->rl Tryz.prog cx tb 25 [em.t ⟨d,d.gx.st⟩,.int .i64 k,.int .i64 i]=some (.bool (d.gx.GT k i)):=λht=>fR ht FG (⟨d,d.gx.st⟩,(k:Int),(i:Int)) ⟨G.Vz,(ed.2 ⟨by omega,by omega⟩:iI (k:Int) d.dw.length=true),(ed.2 ⟨by omega,by omega⟩:iI (i:Int) d.dw.length=true)⟩
      simp[w,s,F,E,D,h.b1,bu]
      refine dM (λq=> ?_) (λq=> ?_)
      ·rw[ao (by rw[show d.gx.GT k i=false by simpa using q];simp),cy,<-a6]at e
       simp[z,w,x,u,s,F,E,B,C,R]
       exact⟨i+1,by omega,by omega,by omega,o,m,f,h,e,by simp⟩
      ·rw[aq (by simpa using q)]at e
       simp[s]
       refine mF c (λl b y=>∃o m f,IP d y o m f/\f++(((fV l c).flatMap λ(l:Nat)=>(fV l c).flatMap λ(v:Nat)=>ig d.gx.vG (gA k i l v))++ap)=d.gx.mI/\TI.dt b 1=some (.ptr 0 0 0 0)/\TI.dt b 3=some (.ptr 1 0 0 0)/\TI.dt b 5=some (.ptr 2 0 0 0)/\TI.dt b 6=some (.func 22 [.ptr 1 0 0 0,.ptr 2 0 0 0])/\TI.dt b 7=some (.int .i64 c)/\TI.dt b 12=some (.int .i64 k)/\TI.dt b 13=some (.int .i64 i)/\TI.dt b 62=some (.int .i64 c)/\TI.dt b 63=some (.int .i64 k)/\TI.dt b 78=some (.int .i64 c)/\TI.dt b 79=some (.int .i64 l)) ?_ (by omega) (k:=0) (by omega) ⟨o,m,f,h,e,by simp[z,w,x,u,s,F,E,B,C]⟩
       rintro l b y cb ⟨o,m,f,h,e,z,w,x,u,s,F,E,B,C,P,Q⟩
       by_cases U:l<c
       ·have b6:=jW U (by omega)
        rw[ji U,aO,aI]at e
        simp[P,Q,U]
        generalize bT:((fV (l+1) c).flatMap λ(l:Nat)=>(fV l c).flatMap λ(v:Nat)=>ig d.gx.vG (gA k i l v))++ap=bs at e
        refine mF c (λv b y=>∃o m f,IP d y o m f/\f++(((fV v c).flatMap λ(v:Nat)=>ig d.gx.vG (gA k i l v))++bs)=d.gx.mI/\TI.dt b 1=some (.ptr 0 0 0 0)/\TI.dt b 3=some (.ptr 1 0 0 0)/\TI.dt b 5=some (.ptr 2 0 0 0)/\TI.dt b 6=some (.func 22 [.ptr 1 0 0 0,.ptr 2 0 0 0])/\TI.dt b 7=some (.int .i64 c)/\TI.dt b 12=some (.int .i64 k)/\TI.dt b 13=some (.int .i64 i)/\TI.dt b 14=some (.int .i64 l)/\TI.dt b 15=some (.int .i64 v)/\TI.dt b 62=some (.int .i64 c)/\TI.dt b 63=some (.int .i64 k)/\TI.dt b 78=some (.int .i64 c)/\TI.dt b 79=some (.int .i64 l)) ?_ (by omega) (k:=l) (by omega) ⟨o,m,f,h,e,by simp[z,w,x,u,s,F,E,B,C,P,Q]⟩
        rintro v b y ce ⟨o,m,f,h,e,z,w,x,u,s,F,E,aE,X,B,C,P,Q⟩
        by_cases V:v<c
        ·have b7:=jW V (by omega)
         rw[ji V,aO]at e
         have S:=h.pre G e (g:=gA k i l v) rfl
         rw[aI,<-aI]at e
         simp[u,s,F,E,aE,X,V]
         refine gd Jl (by simp) _ S ?_
         rintro _ aN ⟨O,vD,H,I⟩
         simp[z,w,x,u,s,F,E,aE,X,B,C,P,Q,b7]
         exact⟨v+1,by omega,by omega,O,vD,_,h.fm I H,e,by simp⟩
        ·rw[jL (show c<=v by omega)]at e
         simp[z,w,x,u,s,F,E,X,B,C,P,Q,V,b6]
         exact⟨l+1,by omega,by omega,o,m,f,h,by rw[bT];exact e,by simp⟩
       ·rw[jL (show c<=l by omega)]at e
        simp[z,w,x,u,s,F,E,B,C,P,Q,U,R]
        exact⟨i+1,by omega,by omega,by omega,o,m,f,h,by rw[a6];exact e,by simp⟩
     ·rw[jL (show c<=i by omega)]at e
      simp[z,w,x,u,s,E,B,C,D,N]
      exact⟨k+1,by omega,by omega,o,m,f,h,by rw[bX];exact e,by simp⟩
    ·rw[jL (show c<=k by omega)]at e
     rw[cg,bL]at e
     obtain⟨cX,b9⟩:=h.ac.gl
     simp[x,B,C,A,b9,h.ac.g.cells,h.ac.g.fT]
     exact⟨h.ok.hp,by rw[Gr.ZN h.ac.g (by omega) h.ac.a,e]⟩
 ·refine⟨.dq [] false,[],[],⟨⟨⟨0,by simp⟩,Gr.nil _ _,.nil⟩,by exact⟨by simp,by simp,by simp⟩,by simp,by simp⟩,T.symm,by simp⟩
end
noncomputable section
open Go Go.TI
noncomputable abbrev gN(a:Func)(b:Nat):pk:=gq cx a b false
noncomputable abbrev gK(a:Func)(b:Nat):pk:=gq cx a b true
theorem gO{b:aj}{a:Func}{d:Nat}{c:Bool}(e:Tryz.prog.funcs[b]? =some a)(f:vY ⟨a,d,c,none⟩=true:=by kernel_rfl):lV Tryz.prog cx b (gq cx a d c):=adX dX dU e f
def ZF:pk:=λ_ _ a b=>AP ((.clone 1 1)) a b
theorem P9:lV Tryz.prog cx 125 ZF:=wB (uM (fn:=Tryz.f125) (t:=33) (tb:=4) (te:=ty4) dU Tryz.func125 (by kernel_rfl) (by kernel_rfl) (by kernel_rfl) (by kernel_rfl) (by kernel_rfl) (by kernel_rfl) (by kernel_rfl))
def ZE:pk:=λ_ _ a b=>AP ((.clone 3 24)) a b
theorem P8:lV Tryz.prog cx 126 ZE:=wB (uM (fn:=Tryz.f126) (t:=34) (tb:=4) (te:=EW) dU Tryz.func126 (by kernel_rfl) (by kernel_rfl) (by kernel_rfl) (by kernel_rfl) (by kernel_rfl) (by kernel_rfl) (by kernel_rfl))
def ZD:pk:=λ_ _ a b=>AP (.mY) a b
theorem UK:(Tryz.f237.name== "runtime.NumGoroutine")=false:=by kernel_rfl
theorem UJ:Tryz.f237.body.isNone=true:=by kernel_rfl
theorem UH:Extern.findNext Tryz.f237=none:=by kernel_rfl
theorem UI:Extern.find Tryz.f237=some Extern.BytealgIndexByte.indexByte:=by kernel_rfl
theorem UG:B1 Tryz.prog cx 237 .mY:= @DO Tryz.prog cx 237 Tryz.f237 Tryz.func237 UK UJ UH UI
theorem P7:lV Tryz.prog cx 237 ZD:=wB UG
def qs:Tree pk:=(.node (.node (.node (.node (.node (.node (.node (.node .nil 10 (gN Tryz.f10 40953575029616206113996799) .nil) 12 (gN Tryz.f12 7) .nil) 14 (gN Tryz.f14 127) (.node .nil 20 (gN Tryz.f20 138478519) .nil)) 21 (gN Tryz.f21 9223389645163727807) (.node (.node .nil 22 (gN Tryz.f22 79) .nil) 23 (gN Tryz.f23 2417851783344448572752095) (.node .nil 24 (gN Tryz.f24 7231) .nil))) 25 (gN Tryz.f25 18463641368405213903) (.node (.node (.node (.node .nil 29 (gN Tryz.f29 17179869843) .nil) 41 (gN Tryz.f41 1048607) .nil) 45 (gN Tryz.f45 9223372036871623167) (.node .nil 46 (gN Tryz.f46 4215) .nil)) 47 (gN Tryz.f47 772424076352653274097095092108232752774234854811365887) (.node (.node .nil 48 (gN Tryz.f48 67109327) .nil) 50 (gN Tryz.f50 1238093369775042453301102031) (.node .nil 51 (gN Tryz.f51 4196311) .nil)))) 53 (gN Tryz.f53 137506128175) (.node (.node (.node (.node (.node .nil 55 (gN Tryz.f55 36051629065113551) .nil) 58 (gN Tryz.f58 8796093286397) .nil) 59 (gN Tryz.f59 19808249554385699031857790975) (.node .nil 60 (gN Tryz.f60 8864829278711) .nil)) 66 (gN Tryz.f66 6434029281764525972148499167221040878727244754944919609542655) (.node (.node .nil 67 (gN Tryz.f67 95827739445721067874190659254502973333984266632037375) .nil) 68 (gN Tryz.f68 31) (.node .nil 73 (gN Tryz.f73 9071038046463) .nil))) 74 (gN Tryz.f74 17184194575) (.node (.node (.node (.node .nil 75 (gK Tryz.f75 68723687231) .nil) 76 (gN Tryz.f76 4504699140047487) .nil) 78 (gN Tryz.f78 576460753379335951) (.node .nil 79 (gN Tryz.f79 4605278686335) .nil)) 80 (gK Tryz.f80 30783) (.node (.node .nil 87 (gN Tryz.f87 463) .nil) 88 (gN Tryz.f88 29) (.node .nil 90 (gN Tryz.f90 9224506733391652861) .nil))))) 91 (gN Tryz.f91 4432473883133) (.node (.node (.node (.node (.node (.node .nil 93 (gN Tryz.f93 19342850151455133005856767) .nil) 94 (gN Tryz.f94 316913254556860716756833993695) .nil) 95 (gN Tryz.f95 275) (.node .nil 96 (gN Tryz.f96 11) .nil)) 97 (gN Tryz.f97 8934607822903) (.node (.node .nil 98 (gN Tryz.f98 479) .nil) 103 (gN Tryz.f103 19) (.node .nil 104 (gN Tryz.f104 13215461614728367217751695970865548304603543200842114553566203007) .nil))) 105 (gN Tryz.f105 1099511628339) (.node (.node (.node (.node .nil 106 (gN Tryz.f106 18889470444974887141823) .nil) 107 (gN Tryz.f107 829180818552508142370930303613581122868418894632663968482586879) .nil) 108 (gN Tryz.f108 332312079452150195464880550324504575) (.node .nil 109 (gN Tryz.f109 4330618893) .nil)) 110 (gN Tryz.f110 131635) (.node (.node .nil 111 (gN Tryz.f111 2147484735) .nil) 115 (gN Tryz.f115 348794743007212715313826391199890521722863) (.node .nil 116 (gN Tryz.f116 12259964349774246101165194645239424850975965214878597119) .nil)))) 121 (gN Tryz.f121 35315368591455) (.node (.node (.node (.node (.node .nil 122 (gN Tryz.f122 19) .nil) 123 (gN Tryz.f123 606826398900554784047567) .nil) 124 (gN Tryz.f124 5868843906288553182383292937158044313155908148351) (.node .nil 125 (ZF) .nil)) 126 (ZE) (.node (.node .nil 131 (gN Tryz.f131 7) .nil) 133 (gN Tryz.f133 19) (.node .nil 135 (gN Tryz.f135 33587517) .nil))) 136 (gN Tryz.f136 4101) (.node (.node (.node (.node .nil 137 (gN Tryz.f137 21853) .nil) 138 (gN Tryz.f138 37396817117309) .nil) 139 (gN Tryz.f139 51) (.node .nil 140 (gN Tryz.f140 40536831200067837) .nil)) 141 (gN Tryz.f141 72128100255664255) (.node (.node .nil 142 (gN Tryz.f142 1242795222330225588904675325) .nil) 143 (gN Tryz.f143 1237940043933112819970491391) (.node .nil 144 (gN Tryz.f144 1053) .nil)))))) 145 (gN Tryz.f145 151115745466229840684019) (.node (.node (.node (.node (.node (.node (.node .nil 147 (gK Tryz.f147 18191) .nil) 148 (gN Tryz.f148 365376106316094180278949616271352870286206697499) .nil) 149 (gN Tryz.f149 10633824283312870803151638865622599647) (.node .nil 151 (gN Tryz.f151 19) .nil)) 152 (gN Tryz.f152 606826398900554784047567) (.node (.node .nil 154 (gK Tryz.f154 1048607) .nil) 157 (gN Tryz.f157 5) (.node .nil 158 (gN Tryz.f158 131613) .nil))) 159 (gN Tryz.f159 5) (.node (.node (.node (.node .nil 160 (gN Tryz.f160 11161304336780981658631819976322344575566047) .nil) 161 (gN Tryz.f161 4362601011) .nil) 162 (gN Tryz.f162 19) (.node .nil 163 (gK Tryz.f163 2097183) .nil)) 164 (gN Tryz.f164 1182933510117985879039) (.node (.node .nil 177 (gN Tryz.f177 19) .nil) 178 (gN Tryz.f178 19) (.node .nil 179 (gN Tryz.f179 5) .nil)))) 180 (gN Tryz.f180 35500589085) (.node (.node (.node (.node (.node .nil 181 (gN Tryz.f181 5) .nil) 182 (gN Tryz.f182 1125908496810045) .nil) 183 (gN Tryz.f183 262565) (.node .nil 184 (gN Tryz.f184 541) .nil)) 185 (gN Tryz.f185 328307) (.node (.node .nil 186 (gN Tryz.f186 1574131) .nil) 187 (gN Tryz.f187 275) (.node .nil 188 (gN Tryz.f188 529021) .nil))) 189 (gN Tryz.f189 1125902054326279) (.node (.node (.node (.node .nil 190 (gN Tryz.f190 32909) .nil) 191 (gN Tryz.f191 262707) .nil) 192 (gN Tryz.f192 262707) (.node .nil 193 (gN Tryz.f193 14474012017383023515249485065460760621927424225494418519668988771800801378299) .nil)) 194 (gN Tryz.f194 36893488147419136123) (.node (.node .nil 198 (gN Tryz.f198 20282409606012871684182924853463) .nil) 199 (gN Tryz.f199 158456325028530997355645763711) (.node .nil 200 (gN Tryz.f200 1037) .nil))))) 201 (gN Tryz.f201 1099578740959) (.node (.node (.node (.node (.node (.node .nil 203 (gN Tryz.f203 1) .nil) 206 (gN Tryz.f206 5) .nil) 207 (gK Tryz.f207 262175) (.node .nil 208 (gK Tryz.f208 9904163146420522906957187071) .nil)) 220 (gN Tryz.f220 19) (.node (.node .nil 221 (gN Tryz.f221 2293) .nil) 222 (gN Tryz.f222 2149585011) (.node .nil 223 (gN Tryz.f223 526461) .nil))) 224 (gN Tryz.f224 8606909437) (.node (.node (.node (.node .nil 225 (gN Tryz.f225 182687706027492332498828539273953093013162958911) .nil) 226 (gN Tryz.f226 70368744310543) .nil) 227 (gN Tryz.f227 83) (.node .nil 228 (gN Tryz.f228 33688639) .nil)) 229 (gN Tryz.f229 4196847) (.node (.node .nil 231 (gN Tryz.f231 1049655) .nil) 237 (ZD) (.node .nil 238 (gN Tryz.f238 8211) .nil)))) 242 (gN Tryz.f242 131527) (.node (.node (.node (.node (.node .nil 243 (gN Tryz.f243 563501857374451) .nil) 244 (gN Tryz.f244 2863311549) .nil) 245 (gN Tryz.f245 18483898770635358239) (.node .nil 246 (gN Tryz.f246 7) .nil)) 247 (gN Tryz.f247 99132251962343631) (.node (.node .nil 248 (gN Tryz.f248 8703) .nil) 249 (gN Tryz.f249 8590200303) (.node .nil 254 (gN Tryz.f254 594912002450663878599) .nil))) 256 (gN Tryz.f256 13) (.node (.node (.node (.node .nil 261 (gN Tryz.f261 32819) .nil) 264 (gN Tryz.f264 132109) .nil) 267 (gN Tryz.f267 749019592093908130998168547243562859198691857383367) (.node .nil 272 (gN Tryz.f272 72339071195682803) .nil)) 281 (gN Tryz.f281 8407165) (.node (.node .nil 282 (gN Tryz.f282 2101491) .nil) 284 (gN Tryz.f284 9224502335110254589) (.node .nil 285 (gN Tryz.f285 715827901) .nil)))))))
theorem Yd:qs.Q6 λa b=>lV Tryz.prog cx a b:=(.node (.node (.node (.node (.node (.node (.node (.node .nil (gO Tryz.func10) .nil) (gO Tryz.func12) .nil) (gO Tryz.func14) (.node .nil (gO Tryz.func20) .nil)) (gO Tryz.func21) (.node (.node .nil (gO Tryz.func22) .nil) (gO Tryz.func23) (.node .nil (gO Tryz.func24) .nil))) (gO Tryz.func25) (.node (.node (.node (.node .nil (gO Tryz.func29) .nil) (gO Tryz.func41) .nil) (gO Tryz.func45) (.node .nil (gO Tryz.func46) .nil)) (gO Tryz.func47) (.node (.node .nil (gO Tryz.func48) .nil) (gO Tryz.func50) (.node .nil (gO Tryz.func51) .nil)))) (gO Tryz.func53) (.node (.node (.node (.node (.node .nil (gO Tryz.func55) .nil) (gO Tryz.func58) .nil) (gO Tryz.func59) (.node .nil (gO Tryz.func60) .nil)) (gO Tryz.func66) (.node (.node .nil (gO Tryz.func67) .nil) (gO Tryz.func68) (.node .nil (gO Tryz.func73) .nil))) (gO Tryz.func74) (.node (.node (.node (.node .nil (gO Tryz.func75) .nil) (gO Tryz.func76) .nil) (gO Tryz.func78) (.node .nil (gO Tryz.func79) .nil)) (gO Tryz.func80) (.node (.node .nil (gO Tryz.func87) .nil) (gO Tryz.func88) (.node .nil (gO Tryz.func90) .nil))))) (gO Tryz.func91) (.node (.node (.node (.node (.node (.node .nil (gO Tryz.func93) .nil) (gO Tryz.func94) .nil) (gO Tryz.func95) (.node .nil (gO Tryz.func96) .nil)) (gO Tryz.func97) (.node (.node .nil (gO Tryz.func98) .nil) (gO Tryz.func103) (.node .nil (gO Tryz.func104) .nil))) (gO Tryz.func105) (.node (.node (.node (.node .nil (gO Tryz.func106) .nil) (gO Tryz.func107) .nil) (gO Tryz.func108) (.node .nil (gO Tryz.func109) .nil)) (gO Tryz.func110) (.node (.node .nil (gO Tryz.func111) .nil) (gO Tryz.func115) (.node .nil (gO Tryz.func116) .nil)))) (gO Tryz.func121) (.node (.node (.node (.node (.node .nil (gO Tryz.func122) .nil) (gO Tryz.func123) .nil) (gO Tryz.func124) (.node .nil P9 .nil)) P8 (.node (.node .nil (gO Tryz.func131) .nil) (gO Tryz.func133) (.node .nil (gO Tryz.func135) .nil))) (gO Tryz.func136) (.node (.node (.node (.node .nil (gO Tryz.func137) .nil) (gO Tryz.func138) .nil) (gO Tryz.func139) (.node .nil (gO Tryz.func140) .nil)) (gO Tryz.func141) (.node (.node .nil (gO Tryz.func142) .nil) (gO Tryz.func143) (.node .nil (gO Tryz.func144) .nil)))))) (gO Tryz.func145) (.node (.node (.node (.node (.node (.node (.node .nil (gO Tryz.func147) .nil) (gO Tryz.func148) .nil) (gO Tryz.func149) (.node .nil (gO Tryz.func151) .nil)) (gO Tryz.func152) (.node (.node .nil (gO Tryz.func154) .nil) (gO Tryz.func157) (.node .nil (gO Tryz.func158) .nil))) (gO Tryz.func159) (.node (.node (.node (.node .nil (gO Tryz.func160) .nil) (gO Tryz.func161) .nil) (gO Tryz.func162) (.node .nil (gO Tryz.func163) .nil)) (gO Tryz.func164) (.node (.node .nil (gO Tryz.func177) .nil) (gO Tryz.func178) (.node .nil (gO Tryz.func179) .nil)))) (gO Tryz.func180) (.node (.node (.node (.node (.node .nil (gO Tryz.func181) .nil) (gO Tryz.func182) .nil) (gO Tryz.func183) (.node .nil (gO Tryz.func184) .nil)) (gO Tryz.func185) (.node (.node .nil (gO Tryz.func186) .nil) (gO Tryz.func187) (.node .nil (gO Tryz.func188) .nil))) (gO Tryz.func189) (.node (.node (.node (.node .nil (gO Tryz.func190) .nil) (gO Tryz.func191) .nil) (gO Tryz.func192) (.node .nil (gO Tryz.func193) .nil)) (gO Tryz.func194) (.node (.node .nil (gO Tryz.func198) .nil) (gO Tryz.func199) (.node .nil (gO Tryz.func200) .nil))))) (gO Tryz.func201) (.node (.node (.node (.node (.node (.node .nil (gO Tryz.func203) .nil) (gO Tryz.func206) .nil) (gO Tryz.func207) (.node .nil (gO Tryz.func208) .nil)) (gO Tryz.func220) (.node (.node .nil (gO Tryz.func221) .nil) (gO Tryz.func222) (.node .nil (gO Tryz.func223) .nil))) (gO Tryz.func224) (.node (.node (.node (.node .nil (gO Tryz.func225) .nil) (gO Tryz.func226) .nil) (gO Tryz.func227) (.node .nil (gO Tryz.func228) .nil)) (gO Tryz.func229) (.node (.node .nil (gO Tryz.func231) .nil) P7 (.node .nil (gO Tryz.func238) .nil)))) (gO Tryz.func242) (.node (.node (.node (.node (.node .nil (gO Tryz.func243) .nil) (gO Tryz.func244) .nil) (gO Tryz.func245) (.node .nil (gO Tryz.func246) .nil)) (gO Tryz.func247) (.node (.node .nil (gO Tryz.func248) .nil) (gO Tryz.func249) (.node .nil (gO Tryz.func254) .nil))) (gO Tryz.func256) (.node (.node (.node (.node .nil (gO Tryz.func261) .nil) (gO Tryz.func264) .nil) (gO Tryz.func267) (.node .nil (gO Tryz.func272) .nil)) (gO Tryz.func281) (.node (.node .nil (gO Tryz.func282) .nil) (gO Tryz.func284) (.node .nil (gO Tryz.func285) .nil)))))))
theorem HD:∀a b,(λa=>qs.find a) a=some b->lV Tryz.prog cx a b:=λa b c=>Yd.find c
def l0:T:= .agg [(.dq [(.agg [(.int .i64 1),(.int .i64 1),(.str [120]),(.int .i64 0),(.int .i64 0),(.str [])])] false),(.dq [(.agg [(.str [116]),(.int .i64 1),(.dq [] false),(.dq [(.agg [(.int .i64 12),(.int .i64 1),(.str [117]),(.str []),(.dq [] false),(.int .i64 0),(.int .i64 0),(.str []),(.dq [] false),(.dq [] false),(.dq [] false)]),(.agg [(.int .i64 1),(.int .i64 1),(.str [120]),(.str []),(.dq [] false),(.int .i64 1),(.int .i64 1),(.str []),(.dq [] false),(.dq [] false),(.dq [] false)])] false)]),(.agg [(.str [117]),(.int .i64 1),(.dq [] false),(.dq [(.agg [(.int .i64 1),(.int .i64 1),(.str [120]),(.str []),(.dq [] false),(.int .i64 1),(.int .i64 2),(.str []),(.dq [] false),(.dq [] false),(.dq [] false)])] false)])] false)]
def l1:T:= .dq [(.agg [(.str [120]),(.int .i64 0),(.int .i64 0),(.bool false),(.int .i64 0)])] false
def l2:T:= .dq [(.agg [(.int .i64 0),(.int .i64 0),(.int .i64 1)]),(.agg [(.int .i64 0),(.int .i64 1),(.int .i64 1)]),(.agg [(.int .i64 1),(.int .i64 0),(.int .i64 1)])] false
def l3:T:= .agg [(.int .i64 28),(.int .i64 0),(.int .i64 0),(.int .i64 0),(.int .i64 0),(.int .i64 (.negSucc 0))]
def l4:T:= .agg [l1,(.dq [] false),(.dq [] false),(.dq [] false),(.dq [(.str [116]),(.str [117])] false),l2,(.dq [(.agg [(.int .i64 1),(.dq [(.agg [(.int .i64 24),(.int .i64 1),(.int .i64 0),(.int .i64 0),(.int .i64 0),(.int .i64 0)]),(.agg [(.int .i64 1),(.int .i64 0),(.int .i64 0),(.int .i64 0),(.int .i64 1),(.int .i64 1)]),(.agg [(.int .i64 8),(.int .i64 0),(.int .i64 0),(.int .i64 0),(.int .i64 0),(.int .i64 1)]),l3] false)]),(.agg [(.int .i64 1),(.dq [(.agg [(.int .i64 1),(.int .i64 0),(.int .i64 0),(.int .i64 0),(.int .i64 2),(.int .i64 2)]),(.agg [(.int .i64 8),(.int .i64 0),(.int .i64 0),(.int .i64 0),(.int .i64 0),(.int .i64 2)]),l3] false)])] false)]
def l5:T:= .dq [(.agg [(.int .i64 0),(.int .i64 1),(.int .i64 (.negSucc 0)),(.int .i64 0),(.int .i64 (.negSucc 0)),(.dq [] false),(.dq [] false)]),(.agg [(.int .i64 0),(.int .i64 20),(.int .i64 1),(.int .i64 0),(.int .i64 0),(.dq [] false),(.dq [] false)]),(.agg [(.int .i64 0),(.int .i64 4),(.int .i64 0),(.int .i64 1),(.int .i64 1),(.dq [] false),(.dq [] false)]),(.agg [(.int .i64 0),(.int .i64 2),(.int .i64 (.negSucc 0)),(.int .i64 0),(.int .i64 (.negSucc 0)),(.dq [] false),(.dq [] false)]),(.agg [(.int .i64 1),(.int .i64 1),(.int .i64 (.negSucc 0)),(.int .i64 0),(.int .i64 (.negSucc 0)),(.dq [] false),(.dq [] false)]),(.agg [(.int .i64 1),(.int .i64 4),(.int .i64 0),(.int .i64 2),(.int .i64 2),(.dq [] false),(.dq [] false)]),(.agg [(.int .i64 1),(.int .i64 2),(.int .i64 (.negSucc 0)),(.int .i64 0),(.int .i64 (.negSucc 0)),(.dq [] false),(.dq [] false)])] false
def l6:T:= .agg [(.int .i64 5),(.int .i64 0),(.bool false)]
end
end Go.Proofs.YtmaeadedikngoaaGreatDoor
