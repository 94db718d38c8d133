/- Texts WGe to ALit. -/
import Derived.Test.YtmaeadedikngoaaGreatDoorA36
set_option linter.all false
set_option maxRecDepth 100000
set_option maxHeartbeats 8000000
namespace Go.Proofs.YtmaeadedikngoaaGreatDoor
noncomputable section
open Go Go.TI
attribute [-simp] List.map_take List.map_drop List.map_append fG fg ei Bool.not_or Bool.not_and
attribute [simp] fF fh
attribute [-simp] size_cons
structure Fm(h h':H)(bl:Nat)(v v':T):Prop where
 ok:ig h.size h'
 fr:∀c,c<h.size->c≠bl->dS v≠some c->h'.get c=h.get c
 bx:∀c,dS v'=some c->dS v=some c\/h.size<=c
def Fm.nb{a b:H}{e:Nat}{d:T}(c:Nb a b):Fm a b e d d:=⟨c.ok,λf g _ _=>c.get f g,λ_ h=> .inl h⟩
def Fm.trans{g c d:H}{f:Nat}{h i j:T}(e:Fm g c f h i)(b:Fm c d f i j):Fm g d f h j:=by
 have l:=e.ok.sz;have m:=b.ok.sz;refine⟨⟨b.ok.hp,b.ok.low,dz⟩,λa k c d=>(b.fr a dz c λq=>(e.bx a q).elim d dz).trans (e.fr a k c d),λa q=> ?_⟩;rcases b.bx a q with q|q
 ·exact e.bx a q
 ·right;omega
structure BJ(h:H)(bl:Nat)(v:T)(es:List T)(gs:List f6):Prop where
 gl:∃ver,h.get bl=some (dG 1 ver [v])
 g:Gr h v 6 es
 a:iB (FT h (λc=>c<h.size/\c≠bl/\dS v≠some c) 4) es (gs.map f6.t)
def BJ.step{l b:H}{c:Nat}{m e:T}{g i:List T}{k gs2:List f6}(q:BJ l c m g k)(h:Fm l b c m e)(p:∃u,b.get c=some (dG 1 u [e]))(o:Gr b e 6 (g++i))(n:iB (FT b (λf=>f<b.size/\f≠c/\dS e≠some f) 4) i (gs2.map f6.t)):BJ b c e (g++i) (k++gs2):=by
 have v:=h.ok.sz;refine⟨p,o,?_⟩;rw[List.map_append];exact(q.a.imp λ_ _ r=>r.mono λj d=>⟨⟨dz,d.2.1,λs=>(h.bx j s).elim d.2.2 dz⟩,h.fr j d.1 d.2.1 d.2.2⟩).append n
def BJ.nb{j k:H}{f:Nat}{m:T}{h:List T}{i:List f6}(c:BJ j f m h i)(d:Nb j k):BJ k f m h i:=by
 obtain⟨p,l⟩:=c.gl;have q:=d.ok.sz;exact⟨⟨p,(d.get f (H.ew l)).trans l⟩,c.g.mono λe b=>by obtain⟨_,_,_,_,n,_⟩:=c.g.box b;exact d.get e (H.ew n),c.a.imp λ_ _ o=>o.mono λe b=>⟨⟨dz,b.2⟩,d.get e b.1⟩⟩
def BJ.out{b:H}{d:Nat}{j:T}{f:List T}{i:List f6}(e:BJ b d j f i)(c:H):BJ (lO c b) d j f i:=by
 obtain⟨p,n⟩:=e.gl;exact⟨⟨p,(fO c b d).trans n⟩,e.g.out c,e.a.imp λ_ _ o=>o.mono λk l=>⟨by simpa using l,fO c b k⟩⟩
def Ga(e:f6)(f:T):T:= .agg [dE e.kind,dE e.a,dE e.b,dE e.c,dE e.d,f]
structure IAd where
 (z:fI) (g:f6) (e:T) (bx bl:Nat) (v:T) (es:List T) (gs:List f6)
def KX(a:IAd)(d:List T)(b:H):Prop:=d=[Ga a.g a.e,.ptr a.bx 0 0 0,.ptr a.bl 0 0 0]/\(∃f,b.get a.bx=some (dG 16 f [a.z.t]))/\BJ b a.bl a.v a.es a.gs/\ig 0 b/\wX a.z/\a.es.length<=1000000/\a.g.jJ.length<=1000000/\Gr b a.e 1 (gF a.g.jJ)/\(∀c,dS a.e=some c->c≠a.bl)
def Js(a:IAd)(f:List T)(e:H)(h:T)(b:H):Prop:=∃c d,BJ b a.bl c d (a.gs++iN a.z.w.gx.vG a.g)/\Fm e b a.bl a.v c
def K9:(jw IAd KX Js).Ok Tryz.prog cx 22:=by
 refine jo (tb:=⟨pt [(23,uy)],ht []⟩) fa eQ (iR 79 [] Tryz.func22) (λ_ _=>10) (λi a h bp=>by obtain⟨rfl,_⟩:=bp;simp[Tryz.f22]) ?_;rintro⟨S,j,l,aE,r,A,U,bu⟩ _ h ⟨rfl,⟨bC,O⟩,I,ap,an,bn,al,C,P⟩ bB Z;simp only at O I an bn al C P;simp[Ga]at Z;obtain⟨bi,D,E⟩:=Z;obtain⟨R,ae⟩:=I.gl;generalize y:(TI.hr h).cons (dG 6 0 [Ga j l])=m;have F:ig h.size m:=by rw[<-y];exact(⟨ap.hr.hp,ap.hr.low,au _⟩:ig h.size (TI.hr h)).cons _
 have bN:m.size=h.size+1:=by rw[<-y];rfl
 have z:Nb h m:=⟨F,λe f=>by rw[<-y,dV,ao dB];exact gh h e⟩;have aN:=(z.get aE (H.ew O)).trans O;have J:=(z.get r (H.ew ae)).trans ae;have X:m.get h.size=some (dG 6 0 [.agg [dE j.kind,dE j.a,dE j.b,dE j.c,dE j.d,l]]):=by rw[<-y];simp[Ga]
 have Y:Gr m l 1 (gF j.jJ):=C.mono λe f=>by obtain⟨_,_,_,_,o,_⟩:=C.box f;exact z.get e (H.ew o)
 have a6:TI.fz m l=some (sl (gF j.jJ)):=Y.fz dA;have aX:∀{tb:fJ},tb.p 23=some uy->rl Tryz.prog cx tb 23 [S.t,j.t]=some (.bool (S.w.gx.vG j)):=λht=>To ht S j an al;have v:=I.nb z;unfold Ga at y;simp[Tryz.f22,bi,D,y,aN,X,a6,aX];refine ee (λQ=> ?_) (λQ=> ?_)
 ·have av:ig 0 m:=⟨F.hp,F.low,aw _⟩;obtain⟨u,L,T,q⟩:=v.g.wh (cx:=cx) av Kj rfl Ki rfl dA (x:=Ga j l) rfl (by simp only[show Vm.bytes=64 from rfl];omega);have bk:=H.ew J;have M:=(q.2.1 r bk (λs=>by obtain⟨_,_,_,_,o,_⟩:=v.g.box s;rw[J]at o;simp at o)).trans J;have bz:=av.low;have bH:=q.2.2.2.sz;unfold Ga at T;have sv:mr A 0 [u]=some u:=BZ (oG.na (h:=m) (sz:=6) (.inr v.g));simp[E,J,X,T,M,sv,q.1.il,q.1.cells,v.g.cells];have K:∀G e,(dY L r G).get e=if e=r then some G else L.get e:=λG e=>dP M G e;have bs:dS u≠some r:=λs=>by obtain⟨_,_,_,_,o,_⟩:=q.1.box s;rw[M]at o;simp at o
  have W:Fm m (dY L r (dG 1 (R+1) [u])) r A u:=⟨q.2.2.2.put _ _,λe f D E=>by rw[K,ao D];exact q.2.1 e f E,q.2.2.1⟩;have aA:=v.step (gs2:=[j]) W ⟨R+1,by rw[K,aq rfl]⟩ (q.1.mono λe s=>by rw[K,ao (λk=>bs (by rw[<-k];exact s))]) (.cons (.inr (.inr ⟨_,_,rfl,.cons (fQ ..) (.cons (fQ ..) (.cons (fQ ..) (.cons (fQ ..) (.cons (fQ ..) (.cons (?_:FT _ _ 3 l (sl (gF j.jJ))) .nil))))),rfl⟩)) .nil);rotate_left
  ·have N:∀e,dS l=some e->e<h.size:=λe f=>by obtain⟨_,_,_,_,o,_⟩:=C.box f;exact H.ew o
   have V:∀e,dS l=some e->dS A≠some e:=λe f=>C.ne I.g dD e f;have a8:Gr (dY L r (dG 1 (R+1) [u])) l 1 (gF j.jJ):=Y.mono λe f=>by
    rw[K,ao (P e f)];exact q.2.1 e (by have:=N e f;omega) (V e f)
   exact(show oG _ 1 l (gF j.jJ)from .inr a8).ft (d:=1) (λG o=>by obtain⟨n,_,rfl⟩:=List.mem_map.1 o;simp) λe f=>⟨by have:=N e f;simp;omega,P e f,λs=>(q.2.2.1 e s).elim (V e f) (by have:=N e f;omega)⟩
  have a7:Fm h m r A A:=Fm.nb z;have B:=a7.trans W;refine⟨u,U++[Ga j l],?_,⟨⟨(B.ok.out h).hp,(B.ok.out h).low,by simpa using B.ok.sz⟩,λe f D E=>(fO h _ e).trans (B.fr e f D E),B.bx⟩⟩;unfold iN;rw[Q];exact aA.out h
 ·simp;exact⟨A,U,by
   unfold iN;rw[Q];simpa using v.out h,Fm.nb ⟨⟨(F.out h).hp,(F.out h).low,dB⟩,λe f=>(fO h m e).trans (z.get e f)⟩⟩
@[simp] theorem abG (b:aj) (a:List T):(T.func b a).cells=[.func b a]:=id rfl
@[simp] theorem acH (b:aj) (a:List T):(T.func b a).il=true:=id rfl
def Vu{h:H}(b c a:Nat)(d:iZ)(f:h.get b=some d)(g:d.sz=1):KR cx h nH (.arr b c 0 a false) none (some a) (some a)=some (.val (.arr b c 0 a true) h):=by
 unfold KR;have e:jr cx h nH.u (.arr b c 0 a false)=true:=by
  unfold jr;simp only[show nH.u= .slice 3 from rfl,nc,f,g];rfl
 rw[e,iu,show yG (some a) (some a)=true from rfl,iu,show asSlice nH.u (.arr b c 0 a false)= .arr b c 0 a false by rw[show nH.u= .slice 3 from rfl];rfl];show val h (gD (Nat.ble 0 a) (gD (Nat.ble a a) (dU (gY (Nat.add 0 0)) λj=>dU (gY (Nat.sub a 0)) λi=>gD (Nat.beq a a) (some (T.arr b c j i true)))))=_;simp
def QY{h:H}{b ep n:Nat}{c:List T}(g:h.jf (.arr b ep 0 n true)=some c)(f:∀d∈c,d.cells.length=1)(hl:c.length<=1000)(a:Int):
 iO cx (h.cons (dG 1 0 [dE a])) 38 38 (.arr b ep 0 n true) (.arr h.size 0 0 1 false)=some (.val (.arr (h.size+1) 0 0 (c.length+1) false) ((h.cons (dG 1 0 [dE a])).cons ⟨1,0,0,false,false,c++[dE a]⟩)):=by
 unfold iO pM mV;simp only[ko,dX,show nH.u= .slice 3 from rfl,nc];have i:(h.cons (dG 1 0 [dE a])).jf (.arr h.size 0 0 1 false)=some [dE a]:=by rw[gH];simp
 rw[i,dX];show gD true (jA (dU ((h.cons (dG 1 0 [dE a])).jf (.arr b ep 0 n true)) λc=>(h.cons (dG 1 0 [dE a])).jc 1 8 c [dE a]))=_;rw[iu,CD g,dX];unfold H.jc;rw[pT,dX,jE,iE,dX,my f,my (by simp[T.cells])];have e:Nat.ble (Nat.mul (c++[T.int .i64 a]).length 8) 70368744177664=true:=by
  rw[Nat.ble_eq];show(c++[T.int .i64 a]).length*8<=_;simp;omega
 rw[e];simp only[show Nat.ble 1 8=true from rfl,iu,H.kI,aT,List.length_singleton];rfl
def Fm.VQ{a c:H}{d:Nat}{f g:T}(b:Fm a c d f g):Fm a (lO a c) d f g:=⟨⟨(b.ok.out a).hp,(b.ok.out a).low,by simpa using b.ok.sz⟩,λe j h i=>(fO a c e).trans (b.fr e j h i),b.bx⟩
def Q6(b a:Nat):T:= .func 22 [.ptr b 0 0 0,.ptr a 0 0 0]
def SN(a b c:Nat):T:= .func 53 [.ptr a 0 0 0,.ptr b 0 0 0,.ptr c 0 0 0]
structure YK(h:H)(z:fI)(b1 b2 b3 bx bl:Nat):Prop where
 e1:∃ver,h.get b1=some (dG 1 ver [Q6 bx bl])
 e2:∃ver,h.get b2=some (dG 16 ver [z.t])
 e3:∃ver,h.get b3=some (dG 1 ver [SN b1 b2 b3])
 ex:∃ver,h.get bx=some (dG 16 ver [z.t])
def BJ.ne{i:H}{h:Nat}{f:T}{m:List T}{n:List f6}(l:BJ i h f m n){c:Nat}{a:iZ}(j:i.get c=some a)(k:a.sz=16\/(a.sz=1/\a.eY≠ [f])):c≠h/\dS f≠some c:=by
 obtain⟨o,d⟩:=l.gl;refine⟨?_,λq=> ?_⟩
 ·rintro rfl;rw[j]at d;simp only[ar]at d;subst d;rcases k with q|q
  ·simp at q
  ·exact q.2 rfl
 ·obtain⟨_,_,_,_,e,_⟩:=l.g.box q;rw[j]at e;simp only[ar]at e;subst e;rcases k with q|q
  ·simp at q
  ·have:=q.1;simp at this
def Gr.nf{f:H}{a:T}{g:Nat}{c:List T}(e:Gr f a g c){d:aj}{b:List T}: [T.func d b]≠ [a]:=by
 rcases e with⟨rfl,_⟩|⟨_,_,_,_,_,rfl,_⟩<;>simp
def YK.fm{j o:H}{u:fI}{k l m n b:Nat}{t x:T}{v:List T}{w:List f6}(c:YK j u k l m n b)(a:BJ j b t v w)(d:Fm j o b t x):YK o u k l m n b:=by
 obtain⟨y,e⟩:=c.e1;obtain⟨z,f⟩:=c.e2;obtain⟨A,h⟩:=c.e3;obtain⟨B,i⟩:=c.ex;have p:=a.ne e (.inr ⟨rfl,Gr.nf a.g⟩);have q:=a.ne f (.inl rfl);have r:=a.ne h (.inr ⟨rfl,Gr.nf a.g⟩);have s:=a.ne i (.inl rfl);exact⟨⟨y,(d.fr _ (H.ew e) p.1 p.2).trans e⟩,⟨z,(d.fr _ (H.ew f) q.1 q.2).trans f⟩,⟨A,(d.fr _ (H.ew h) r.1 r.2).trans h⟩,⟨B,(d.fr _ (H.ew i) s.1 s.2).trans i⟩⟩
structure YI where
 (z:fI) (p:List Int) (pv:T) (b1 b2 b3 bx bl:Nat) (v:T) (es:List T) (gs:List f6)
def cyG(b:fI)(a:List Int):List (List Int):=yi b.w.gx.ev.length (λa=>decide (2<=a.length)&&b.w.gx.vG (gC a)) (λa c=>b.w.gx.qB c (kX a)) (4-a.length) a
def Oo(a:YI)(d:List T)(b:H):Prop:=d=[a.pv,.ptr a.b1 0 0 0,.ptr a.b2 0 0 0,.ptr a.b3 0 0 0]/\YK b a.z a.b1 a.b2 a.b3 a.bx a.bl/\BJ b a.bl a.v a.es a.gs/\ig 0 b/\wX a.z/\Gr b a.pv 1 (gF a.p)/\(∀c,dS a.pv=some c->c≠a.bl)/\1<=a.p.length/\a.p.length<=4/\(∀e∈a.p,je e a.z.w.dO.length=true)/\a.gs.length+(cyG a.z a.p).length<=1000000
def Jm(a:YI)(f:List T)(e:H)(g:T)(b:H):Prop:=∃c d,BJ b a.bl c d (a.gs++(cyG a.z a.p).map gC)/\Fm e b a.bl a.v c
def V2(k:Nat):(jw YI (λi a h=>Oo i a h/\5-i.p.length<k) Jm).Ok Tryz.prog cx 53:=by
 refine uY (λi:YI=>5-i.p.length) (λm eN=> ?_) k;refine jo (tb:=⟨pt [(55,oP)],ht [(22,jw IAd KX Js),(54,jw Rj (yx 1) (uG 1)),(53,jw YI (λi a h=>Oo i a h/\5-i.p.length<m) Jm)]⟩) fa eQ (iR 137506128175 [(1,[(0,2)]),(7,[(0,9)])] Tryz.func53) (λ_ _=>100) (λi a h eF=>by obtain⟨⟨rfl,_⟩,_⟩:=eF;simp[Tryz.f53]) ?_;rintro⟨d,c,z,R,a7,C,b7,o,L,es,V⟩ _ h ⟨⟨rfl,bi,A,bS,Y,N,bH,eH,eI,av,bu⟩,eD⟩ l cb;simp only at bi A Y N bH eH eI av bu eD;simp at cb;obtain⟨f,v,t,F⟩:=cb;have c9:Nb h (TI.hr h):=⟨⟨bS.hr.hp,bS.hr.low,au _⟩,λe _=>gh h e⟩;have bp:Fm h (TI.hr h) o L L:=Fm.nb c9;have aE:=A.nb c9;have ca:=bi.fm A bp;have eO:∀b,dS z=some b->b<h.size:=λb ey=>by obtain⟨_,_,_,_,S,_⟩:=N.box ey;exact H.ew S
 have dd:∀e,dS z=some e->dS L≠some e:=λe u=>N.ne A.g dD e u;have Z:=λv:H=>N.len (cx:=cx) v nH _ rfl;rw[aG]at Z;have e6:es.length=V.length:=by have:=A.a.length;simpa using this
 obtain⟨fA,E⟩:=ca.e1;simp[Tryz.f53,f,Z];refine ll (λl h'=>∃j q,BJ h' o j q (V++(if(decide (2<=c.length)&&d.w.gx.vG (gC c))=true then [c]else []).map gC)/\Fm h h' o L j/\dH l 0 z/\dH l 1 (.ptr R 0 0 0)/\dH l 2 (.ptr a7 0 0 0)/\dH l 3 (.ptr C 0 0 0)) (λP=> ?_) (λP=> ?_) ?_
 ·have er:2<=c.length:=by have:=of_decide_eq_true P;omega
  have eh:Gr (TI.hr h) z 1 (gF c):=N.mono λe _=>gh h e;simp[f,v,E,Q6];refine li HG dA ⟨z,gF c⟩ ⟨rfl,eh.jf,by simp[T.cells],dB,bS.hr⟩ ?_;rintro r e0 ⟨ap,J,eP⟩;simp only at ap;have aN:=aE.nb J;have ea:=ca.fm aE (Fm.nb J);have dk:o<h.size:=by obtain⟨ver,bB⟩:=A.gl;exact H.ew bB
  have eR:=fk (J.get R (H.ew E));simp[ap.il,ap.cells,eR];refine li K9 dA ⟨d,gC c,r,b7,o,L,es,V⟩ ⟨rfl,ea.ex,aN,⟨J.ok.hp,J.ok.low,aw _⟩,Y,dC,by simp[gC];omega,ap,λe u=>by have:=eP e u;simp at this;show e≠o;omega⟩ ?_;rintro _ e4 ⟨j,q,di,al⟩;have ec:=(bp.trans (Fm.nb J)).trans al;have c6:=aN.ne ((J.get R (H.ew E)).trans E) (.inr ⟨rfl,Gr.nf aN.g⟩);have eS:=fk (al.fr R (bE (H.ew E) J.ok.sz) c6.1 c6.2);have fb:=al.ok.low;have fL:=al.ok.sz;simp[f,v,t,F,eS];refine⟨j,⟨q,?_⟩,ec⟩;have:iN d.w.gx.vG (gC c)=List.map gC (if 2<=c.length/\d.w.gx.vG (gC c)=true then [c]else []):=by
   unfold iN;by_cases K:d.w.gx.vG (gC c)=true
   ·rw[aq K,aq ⟨er,K⟩];rfl
   ·rw[ao K,ao (λk=>K k.2)];rfl
  rw[<-this];exact di
 ·have:¬2<=c.length:=by simp at P;omega
  simp[f,v,t,F,this];exact⟨L,⟨es,aE⟩,bp⟩
 rintro l h' ⟨j,q,B,s,f,v,t,F⟩;have bT:∀{t:H} {de:T},Fm h t o L de->Gr t z 1 (gF c):=λM=>N.mono λe u=>M.fr e (eO e u) (bH e u) (dd e u);have O:cyG d c=yi d.w.dO.length (λc=>decide (2<=c.length)&&d.w.gx.vG (gC c)) (λc I=>d.w.gx.qB I (kX c)) (4-c.length) c:=rfl;simp[f,Z];refine ee (λP=> ?_) (λP=> ?_)
 ·simp at P;rw[show 4-c.length=0 by omega,yi]at O;simp;refine⟨j,q,?_,s.VQ⟩;simp only;rw[O];exact B.out h
 simp at P;obtain⟨U,et⟩:∃U,4-c.length=U+1:=⟨3-c.length,dz⟩;rw[et,yi]at O;obtain⟨p0,bC⟩:∃p0:Nat,c[0]? =some (p0:Int)/\p0<d.w.dO.length:=by
  have:=fq.1 (av c[0] (aC dz));exact⟨c[0].toNat,by rw[az dz];congr 1;omega,dz⟩
 have e9:=Y.w.ok.len;have eA:(c.getD 0 0).toNat=p0:=by simp[List.getD,bC.1]
 rw[eA]at O;have bN:c.length-1<c.length:=dz;have c1:kX c=c[c.length-1]:=by simp[kX,List.getD,bN]
 have eE:je (kX c) d.w.dO.length=true:=by rw[c1];exact av _ (aC bN)
 obtain⟨D,bn,fC,eX,fE,G,cX,_,_⟩:=N.at (x:= dE p0) (i:=0) (by rw[aU,bC.1];rfl);rw[aG]at G;obtain⟨fs,E,b8⟩:=(show oG h' 1 z _ from .inr (bT s)).idx (te:=Dw) rfl rfl (i:=0) (x:= dE p0) (by simp[bC.1]) rfl;have eu:binop .add (dE (p0:Int)) (dE 1)=some (dE ((p0:Int)+1)):=ik dz dz;have eL:binop .sub (dE (c.length:Int)) (dE 1)=some (dE ((c.length-1:Nat):Int)):=by rw[kF dz dz];congr 2;omega
 generalize cL:(λ(I:Nat)=>if d.w.gx.qB I (kX c)=true then yi d.w.dO.length (λc=>decide (2<=c.length)&&d.w.gx.vG (gC c)) (λc I=>d.w.gx.qB I (kX c)) U (c++[(I:Int)])else [])=M at O;generalize(if(decide (2<=c.length)&&d.w.gx.vG (gC c))=true then [c]else [])=bX at*
 simp[f,E,b8,eu];clear E b8;refine nz d.w.dO.length (λk l h'=>p0+1<=k/\∃j q,BJ h' o j q (V++(bX++(List.range' (p0+1) (k-(p0+1))).flatMap M).map gC)/\Fm h h' o L j/\dH l 0 z/\dH l 1 (.ptr R 0 0 0)/\dH l 2 (.ptr a7 0 0 0)/\dH l 3 (.ptr C 0 0 0)/\dH l 5 (dE k)) ?_ dz (k:=p0+1) dz ?_
 ·rintro k l h' e8 ⟨e7,j,q,B,s,f,v,t,F,W⟩;have bk:=bi.fm A s;obtain⟨de,b9⟩:=bk.e2;obtain⟨fB,ae⟩:=bk.e3;by_cases c4:k<d.w.dO.length
  ·have ce:binop .add (dE (k:Int)) (dE 1)=some (dE ((k:Int)+1)):=ik dz dz;obtain⟨fv,dm,dn⟩:=(show oG h' 1 z _ from .inr (bT s)).idx (te:=Dw) rfl rfl (i:=c.length-1) (x:= dE (kX c)) (by rw[c1];simp[bN]) rfl;have ds:=λ{tb:fJ} (ht:tb.p 55=some oP)=>Ix ht d k (kX c) Y (fq.2 ⟨dz,dz⟩) eE;simp[f,t,W,c4,b9,Z,eL,dm,dn,ds];refine ee (λK=> ?_) (λK=> ?_)
   ·have eo:=bT s;have eC:h'.jf (.arr D bn 0 c.length true)=some (gF c):=by
     have:=eo.jf;rw[G]at this;rw[gH]at this|-;exact this
    have fo:∀e,dS z=some e->e=D:=λe u=>by rw[G]at u;simpa using u.symm
    have eB:h'.get D=_:=(s.fr D (H.ew cX) (bH D (by rw[G];rfl)) (dd D (by rw[G];rfl))).trans cX;have dv:=Vu (h:=h') D bn c.length _ eB rfl;have a8:=QY (h:=h') (b:=D) (ep:=bn) (n:=c.length) eC (by simp[T.cells]) dB (k:Int);rw[aG]at a8;have aA:ig h.size h':=s.ok;generalize bs:(h'.cons (dG 1 0 [dE k])).cons ⟨1,0,0,false,false,gF c++[dE k]⟩=X at a8;have fS:X.size=h'.size+1+1:=by rw[<-bs];rfl
    have Q:Nb h' X:=by rw[<-bs];exact((Nb.refl ⟨aA.hp,aA.low,aw _⟩).cons _).cons _
    have ef:Gr X (.arr (h'.size+1) 0 0 (c.length+1) false) 1 (gF (c++[(k:Int)])):=by
     have:=Gr.new (h:=X) (b:=h'.size+1) (sz:=1) (ep:=0) (ver:=0) (ex:=false) (es:=gF (c++[(k:Int)])) (by rw[<-bs,show gF (c++[(k:Int)])=gF c++[dE k]from List.map_append ..];simp);simpa using this
    have aX:=B.nb Q;have eb:=bk.fm B (Fm.nb Q);have fi:=aA.low;have b6:=H.ew ae;have fY:=aA.sz;have fl:(C=h'.size)=False:=dB;have eU:=fk (h:=h'.cons (dG 1 0 [dE k])) (h':=X) (b:=C) (by rw[Q.get C b6,dV,ao dz]);have dk:o<h.size:=by obtain⟨ver,bB⟩:=A.gl;exact H.ew bB
    simp only[SN]at ae;rw[G]at f;simp[f,F,W,ae,G▸Z,dv,a8,eU];have bz:M k=yi d.w.dO.length (λc=>decide (2<=c.length)&&d.w.gx.vG (gC c)) (λc I=>d.w.gx.qB I (kX c)) U (c++[(k:Int)]):=by rw[<-cL];simp only;rw[aq K]
    have cp:cyG d (c++[(k:Int)])=M k:=by rw[bz];unfold cyG;simp only[aT,List.length_singleton];rw[show 4-(c.length+1)=U by omega];rfl
    have eM:iw (p0+1) d.w.dO.length=List.range' (p0+1) (k-(p0+1))++k::List.range' (k+1) (d.w.dO.length-(k+1)):=by
     unfold iw;rw[show d.w.dO.length-(p0+1)=(k-(p0+1))+(d.w.dO.length-k)by omega,<-List.range'_append_1,show p0+1+(k-(p0+1))=k by omega,show d.w.dO.length-k=(d.w.dO.length-(k+1))+1 by omega,List.range'_succ]
    refine li eN dA ⟨d,c++[(k:Int)],.arr (h'.size+1) 0 0 (c.length+1) false,R,a7,C,b7,o,j,q,V++(bX++(List.range' (p0+1) (k-(p0+1))).flatMap M).map gC⟩ ⟨⟨rfl,eb,aX,⟨Q.ok.hp,Q.ok.low,aw _⟩,Y,ef,λe u=> ?_,dA,dB,λy S=> ?_,?_⟩,dB⟩ ?_
    ·simp at u;show e≠o;omega
    ·simp at S;rcases S with S|rfl
     ·exact av y S
     ·show je (k:Int) d.w.dO.length=true;exact fq.2 ⟨dz,dz⟩
    ·simp only[cp];rw[O,eM]at bu;simp only[aT,cQ,aQ,aG]at bu|-;omega
    rintro _ e5 ⟨eW,es3,a6,an⟩;simp only[cp]at a6;have c7:=aX.ne ((Q.get C b6).trans ae) (.inr ⟨rfl,Gr.nf aX.g⟩);have eV:=fk (an.fr C dz c7.1 c7.2);have fe:=an.ok.low;have fX:=an.ok.sz;simp[f,v,t,F,W,ce,eV];refine⟨k+1,dz,dz,dz,eW,⟨es3,?_⟩,(s.trans (Fm.nb Q)).trans an,by rw[G],dA⟩;rw[show k+1-(p0+1)=(k-(p0+1))+1 by omega,List.range'_concat,show p0+1+1*(k-(p0+1))=k by omega,cQ];simp only[aQ,cj,bL,List.map_append,<-aI]at a6|-;exact a6
   ·simp[f,v,t,F,W,ce];have bz:M k=[]:=by rw[<-cL];simp only;rw[ao (by rw[K];simp)]
    refine⟨k+1,dz,dz,dz,j,⟨q,?_⟩,s,dA⟩;rw[show k+1-(p0+1)=(k-(p0+1))+1 by omega,List.range'_concat,show p0+1+1*(k-(p0+1))=k by omega,cQ];simpa[bz]using B
  ·simp[t,W,c4,b9];refine⟨j,q,?_,s.VQ⟩;simp only;rw[O];unfold iw;rw[show k=d.w.dO.length by omega]at B;exact B.out h
 ·exact⟨dz,j,q,by simpa using B,s,by simp[f,v,t,F]⟩
def Jb(a:T):mr .kN 0 [a]=some a:=BZ dA 
structure IDl where
 (z:fI) (bx bl:Nat) (v:T) (es:List T) (gs:List f6)
def Av(a:fI)(c:Nat):List f6:=(iw c a.w.dO.length).flatMap λ(b:Nat)=>(a.w.gx.Kh b).map gC
def UA(a:IDl)(c:List T)(b:H):Prop:=c=[a.z.t,Q6 a.bx a.bl]/\(∃d,b.get a.bx=some (dG 16 d [a.z.t]))/\BJ b a.bl a.v a.es a.gs/\ig 0 b/\wX a.z/\a.gs.length+(Av a.z 0).length<=1000000
def OI(a:IDl)(f:List T)(e:H)(g:T)(b:H):Prop:=∃c d,BJ b a.bl c d (a.gs++Av a.z 0)/\Fm e b a.bl a.v c
def FA:(jw IDl UA OI).Ok Tryz.prog cx 24:=by
 refine jo (tb:=⟨pt [],ht [(53,jw YI (λI h a=>Oo I h a/\5-I.p.length<6) Jm)]⟩) fa eQ (iR 7231 [] Tryz.func24) (λ_ _=>100) (λI h a ap=>by obtain⟨rfl,_⟩:=ap;simp[Tryz.f24]) ?_;rintro⟨b,s,d,T,X,O⟩ _ a ⟨rfl,⟨aN,F⟩,v,o,G,R⟩ r Q;simp only at F v G R;simp at Q;obtain⟨Y,Z⟩:=Q;have a7:=G.w.ok.len;have aA:(TI.hr a).low<=a.size:=by have:=o.hr.low;simp
 have aE:∀h y e u,dY ((((TI.hr a).cons h).cons y).cons e) (a.size+1+1) u=(((TI.hr a).cons h).cons y).cons u:=λh y e u=>B9 _ _ _ _ rfl dB;simp[Tryz.f24,Y,Z,aE,Q6,Jb];generalize f:H.cons _ _=m;have S:ig a.size m:=by rw[<-f];exact(((⟨o.hr.hp,o.hr.low,au _⟩:ig a.size (TI.hr a)).cons _).cons _).cons _
 have bn:m.size=a.size+1+1+1:=by rw[<-f];rfl
 have J:Nb a m:=by rw[<-f];exact⟨((((Nb.refl o.hr).cons _).cons _).cons _).ok,λe C=>(((((Nb.refl o.hr).cons _).cons _).cons _).get e C).trans (gh a e)⟩
 have V:YK m b (a.size+1) a.size (a.size+1+1) s d:=⟨⟨0,by rw[<-f];simp[Q6]⟩,⟨0,by rw[<-f];simp⟩,⟨1,by rw[<-f];simp[SN]⟩,⟨aN,(J.get s (H.ew F)).trans F⟩⟩;clear f;refine nz b.w.dO.length (λk r c=>∃q t i,BJ c d q t i/\i++Av b k=O++Av b 0/\YK c b (a.size+1) a.size (a.size+1+1) s d/\Fm m c d T q/\dH r 4 (.ptr (a.size+1+1) 0 0 0)/\dH r 10 (dE b.w.dO.length)/\dH r 11 (dE k)) ?_ dz (k:=0) dz ⟨T,X,O,v.nb J,rfl,V,Fm.nb ⟨⟨S.hp,S.low,au _⟩,λ_ _=>rfl⟩,dA⟩;rintro k r c a6 ⟨q,t,i,j,g,z,l,P,A,B⟩;have K:ig 0 c:=⟨l.ok.hp,l.ok.low,aw _⟩;obtain⟨bi,L⟩:=z.e3;by_cases D:k<b.w.dO.length
 ·have al:binop .add (dE (k:Int)) (dE 1)=some (dE ((k:Int)+1)):=ik dz dz;have E:Av b k=(b.w.gx.Kh k).map gC++Av b (k+1):=by unfold Av;rw[jN D];rfl
  rw[E]at g;have an:i.length+(b.w.gx.Kh k).length<=1000000:=by
   have:=bQ List.length g;simp at this R;omega
  have bp:=l.ok.sz;have M:=L;simp only[SN]at M;have a8:(a.size+1+1=c.size)=False:=by have:=H.ew L;simp;omega
  have aA:=K.low;simp[P,A,B,D,M];have n:Nb c (c.cons (dG 1 0 [dE k])):=(Nb.refl K).cons _;have aX:d<a.size:=by obtain⟨bk,g⟩:=v.gl;exact H.ew g
  refine iq (V2 6) dA ⟨b,[(k:Int)],.arr c.size 0 0 1 false,a.size+1,a.size,a.size+1+1,s,d,q,t,i⟩ ⟨⟨rfl,z.fm j (Fm.nb n),j.nb n,K.cons _,G,.inr ⟨c.size,0,0,true,[dE k],rfl,dA,rfl⟩,λe C=> ?_,dA,dA,λu av=> ?_,an⟩,dA⟩ ?_
  ·simp at C;show e≠d;omega
  ·rw[List.mem_singleton.1 av];exact fq.2 ⟨dz,dC⟩
  rintro _ ae ⟨U,wU,x,N⟩;have W:=(z.fm j (Fm.nb n)).fm (j.nb n) N;have x:BJ ae d U wU (i++(b.w.gx.Kh k).map gC):=x;simp[P,A,B,al];exact⟨k+1,dz,dz,U,wU,_,x,by rw[aI];exact g,W,(l.trans (Fm.nb n)).trans N,dA⟩
 ·have E:Av b k=[]:=by unfold Av;rw[kr dz];rfl
  rw[E,bL]at g;subst g;simp[A,B,D];exact⟨q,t,j.out a,((Fm.nb J).trans l).VQ⟩
def zG:hU:=⟨eZ,λa=>[a.t],λa=>kq a,λa=>sl (a.gx.nG.map f6.t),λc d b=>by simp at b;rw[eZ.inj b]⟩
def QR{b:fJ}(ht:b.p 21=some tX)(a:eZ)(c:kq a):rl Tryz.prog cx b 21 [a.t]=some (.tuple [fI.t ⟨a,a.gx.st⟩,.bool true]):=im ht MO a c
structure KB(w:eZ)(h:H)(v:T)(es:List T)(gs:List f6):Prop where
 ac:BJ h 2 v es gs
 ok:ig 3 h
 b0:h.get 0=some (dG 15 0 [w.t])
 b1:h.get 1=some (dG 16 1 [fI.t ⟨w,w.gx.st⟩])
def KB.fm{k:eZ}{i c:H}{d e:T}{m f:List T}{n h:List f6}(a:KB k i d m n)(b:Fm i c 2 d e)(l:BJ c 2 e f h):KB k c e f h:=by
 have r:=a.ok.sz;have p:=a.ac.ne a.b1 (.inl rfl);have o:dS d≠some 0:=λq=>by
  obtain⟨_,_,_,_,j,_⟩:=a.ac.g.box q;rw[a.b0]at j;simp at j
 exact⟨l,⟨b.ok.hp,b.ok.low,by have:=b.ok.sz;omega⟩,(b.fr 0 dz dz o).trans a.b0,(b.fr 1 dz dz p.2).trans a.b1⟩
def KB.len{b:eZ}{g:H}{l:T}{e:List T}{c d:List f6}(k:KB b g l e c)(j:kq b)(i:c++d=b.gx.nG):e.length<=1000000/\c.length+d.length<=1000000:=by
 have h:=k.ac.a.length;have f:=Ab b.gx j.ok.len;rw[<-GX.FG,<-i]at f;simp at h f;omega
def kq.Xw{a:eZ}(b:kq a):wX ⟨a,a.gx.st⟩:=⟨b,rfl⟩
def KB.pre{b:eZ}{e:H}{i:T}{d:List T}{c j:List f6}(a:KB b e i d c)(h:kq b)(k:c++j=b.gx.nG){g:f6}(f:g.jJ=[]):KX ⟨⟨b,b.gx.st⟩,g,dF,1,2,i,d,c⟩ [Ga g dF,.ptr 1 0 0 0,.ptr 2 0 0 0] e:=
 ⟨rfl,⟨1,a.b1⟩,a.ac,⟨a.ok.hp,a.ok.low,aw _⟩,h.Xw,(a.len h k).1,by simp[f],by simp[f];exact Gr.nil _ _,λm l=>by simp at l⟩
def Sd:zG.Ok Tryz.prog cx 10:=by
 refine iv (tb:=⟨pt [(21,tX),(25,sK)],ht [(22,jw IAd KX Js),(24,jw IDl UA OI)]⟩) fa eQ (iR 40953575029616206113996799 [] Tryz.func10) (λ_=>100) (by simp[zG]) (by simp[zG,Tryz.f10]) ?_;rintro(d:eZ) G b a7;replace G:kq d:=G;simp[zG]at a7|-;have ce:=G.ok.len;obtain⟨c,bn⟩:∃c,c=d.dO.length:=⟨_,rfl⟩;have T:d.gx.nG=((iw 0 c).flatMap λ(j:Nat)=>(iw (j+1) c).flatMap λ(r:Nat)=>iN d.gx.vG (gR j r))++(Av ⟨d,d.gx.st⟩ 0++(((iw 0 c).flatMap λ(j:Nat)=>(iw 0 j).flatMap λ(r:Nat)=>iN d.gx.vG (gL j r))++
  ((iw 0 c).flatMap λ(j:Nat)=>(iw (j+1) c).flatMap λ(r:Nat)=>if d.gx.Iz j r=true then(iw 0 c).flatMap λ(l:Nat)=>(iw l c).flatMap λ(v:Nat)=>iN d.gx.vG (gA j r l v)else []))):=by
  unfold GX.nG Av;rw[show d.gx.n=c from bn.symm];simp only[BR,aI,<-bn]
 generalize bH:((iw 0 c).flatMap λ(j:Nat)=>(iw (j+1) c).flatMap λ(r:Nat)=>if d.gx.Iz j r=true then(iw 0 c).flatMap λ(l:Nat)=>(iw l c).flatMap λ(v:Nat)=>iN d.gx.vG (gA j r l v)else [])=W at T;generalize bC:((iw 0 c).flatMap λ(j:Nat)=>(iw 0 j).flatMap λ(r:Nat)=>iN d.gx.vG (gL j r))++W=bp at T;generalize bB:Av ⟨d,d.gx.st⟩ 0++bp=an at T;have b6:(d.dO.length:Int)=c:=dz;simp[Tryz.f10,a7,b6,QR,G];refine nz c (λk b y=>∃o m f,KB d y o m f/\f++(((iw k c).flatMap λ(j:Nat)=>(iw (j+1) c).flatMap λ(r:Nat)=>iN d.gx.vG (gR j r))++an)=d.gx.nG/\dH b 1 (.ptr 0 0 0 0)/\dH b 3 (.ptr 1 0 0 0)/\dH b 5 (.ptr 2 0 0 0)/\dH b 6 (.func 22 [.ptr 1 0 0 0,.ptr 2 0 0 0])/\dH b 7 (dE c)/\dH b 27 (dE c)/\dH b 28 (dE k)) ?_ dz (k:=0) dz ?_
 ·rintro k b y bk ⟨o,m,f,h,e,z,w,x,u,s,J,K⟩;by_cases A:k<c
  ·have N:=ky A dz;rw[jN A,aQ,aI]at e;simp[J,K,A,N];refine nz c (λi b y=>∃o m f,KB d y o m f/\f++(((iw i c).flatMap λ(r:Nat)=>iN d.gx.vG (gR k r))++(((iw (k+1) c).flatMap λ(j:Nat)=>(iw (j+1) c).flatMap λ(r:Nat)=>iN d.gx.vG (gR j r))++an))=d.gx.nG/\dH b 1 (.ptr 0 0 0 0)/\dH b 3 (.ptr 1 0 0 0)/\dH b 5 (.ptr 2 0 0 0)/\dH b 6 (.func 22 [.ptr 1 0 0 0,.ptr 2 0 0 0])/\dH b 7 (dE c)/\dH b 8 (dE k)/\dH b 27 (dE c)/\dH b 28 (dE k)/\dH b 9 (dE i)) ?_ dz (k:=k+1) dz ⟨o,m,f,h,e,by simp[z,w,x,u,s,J,K]⟩;rintro i b y bi ⟨o,m,f,h,e,z,w,x,u,s,aX,J,K,ae⟩;by_cases D:i<c
   ·have R:=ky D dz;rw[jN D,aQ]at e;have S:=h.pre G e (g:=gR k i) rfl;rw[aI,<-aI]at e;simp[u,s,aX,ae,D];refine iq K9 dA _ S ?_;rintro _ aN ⟨O,wU,H,I⟩;simp[z,w,x,u,s,aX,ae,J,K,R];exact⟨i+1,dz,dz,O,wU,_,h.fm I H,e,dA⟩
   ·rw[kr (show c<=i by omega)]at e;simp[z,w,x,u,s,ae,J,K,D,N];exact⟨k+1,dz,dz,o,m,f,h,e,dA⟩
  ·rw[kr (show c<=k by omega)]at e;simp[w,u,J,K,A,h.b1];clear A J K;rw[<-bB,cj,cD]at e;have a8:=h.len G e;refine iq FA dA ⟨⟨d,d.gx.st⟩,1,2,o,m,f⟩ ⟨rfl,⟨1,h.b1⟩,h.ac,⟨h.ok.hp,h.ok.low,aw _⟩,G.Xw,by have:=a8.2;simp at this|-;omega⟩ ?_;rintro _ b8 ⟨O,wU,H,I⟩;have al:=h.fm I H;rw[<-aI]at e;simp only at al;clear h H I a8;simp[s];rw[<-bC]at e;generalize f++Av ⟨d,d.gx.st⟩ 0=bz at*
   refine nz c (λk b y=>∃o m f,KB d y o m f/\f++(((iw k c).flatMap λ(j:Nat)=>(iw 0 j).flatMap λ(r:Nat)=>iN d.gx.vG (gL j r))++W)=d.gx.nG/\dH b 1 (.ptr 0 0 0 0)/\dH b 3 (.ptr 1 0 0 0)/\dH b 5 (.ptr 2 0 0 0)/\dH b 6 (.func 22 [.ptr 1 0 0 0,.ptr 2 0 0 0])/\dH b 7 (dE c)/\dH b 47 (dE c)/\dH b 48 (dE k)) ?_ dz (k:=0) dz ⟨O,wU,bz,al,e,by simp[z,w,x,u,s]⟩;rintro k b y bk ⟨o,m,f,h,e,z,w,x,u,s,L,M⟩;by_cases A:k<c
   ·have N:=ky A dz;rw[jN A,aQ,aI]at e;simp[L,M,A];refine nz k (λi b y=>∃o m f,KB d y o m f/\f++(((iw i k).flatMap λ(r:Nat)=>iN d.gx.vG (gL k r))++(((iw (k+1) c).flatMap λ(j:Nat)=>(iw 0 j).flatMap λ(r:Nat)=>iN d.gx.vG (gL j r))++W))=d.gx.nG/\dH b 1 (.ptr 0 0 0 0)/\dH b 3 (.ptr 1 0 0 0)/\dH b 5 (.ptr 2 0 0 0)/\dH b 6 (.func 22 [.ptr 1 0 0 0,.ptr 2 0 0 0])/\dH b 7 (dE c)/\dH b 10 (dE k)/\dH b 47 (dE c)/\dH b 48 (dE k)/\dH b 51 (dE k)/\dH b 52 (dE i)) ?_ dz (k:=0) dz ⟨o,m,f,h,e,by simp[z,w,x,u,s,L,M]⟩;rintro i b y bi ⟨o,m,f,h,e,z,w,x,u,s,aA,L,M,Y,Z⟩;by_cases D:i<k
    ·have R:=ky (show i<c by omega) dz;rw[jN D,aQ]at e;have S:=h.pre G e (g:=gL k i) rfl;rw[aI,<-aI]at e;simp[u,aA,Y,Z,D];refine iq K9 dA _ S ?_;rintro _ aN ⟨O,wU,H,I⟩;simp[z,w,x,u,s,aA,L,M,Y,Z,R];exact⟨i+1,dz,dz,O,wU,_,h.fm I H,e,dA⟩
    ·rw[kr (show k<=i by omega)]at e;simp[z,w,x,u,s,L,M,Y,Z,D,N];exact⟨k+1,dz,dz,o,m,f,h,e,dA⟩
   ·rw[kr (show c<=k by omega)]at e;simp[s,L,M,A];clear A L M;rw[<-bH,cj,cD]at e;refine nz c (λk b y=>∃o m f,KB d y o m f/\f++((iw k c).flatMap λ(j:Nat)=>(iw (j+1) c).flatMap λ(r:Nat)=>if d.gx.Iz j r=true then(iw 0 c).flatMap λ(l:Nat)=>(iw l c).flatMap λ(v:Nat)=>iN d.gx.vG (gA j r l v)else [])=d.gx.nG/\dH b 1 (.ptr 0 0 0 0)/\dH b 3 (.ptr 1 0 0 0)/\dH b 5 (.ptr 2 0 0 0)/\dH b 6 (.func 22 [.ptr 1 0 0 0,.ptr 2 0 0 0])/\dH b 7 (dE c)/\dH b 62 (dE c)/\dH b 63 (dE k)) ?_ dz (k:=0) dz ⟨o,m,f,h,e,by simp[z,w,x,u,s]⟩;rintro k b y bk ⟨o,m,f,h,e,z,w,x,u,s,B,C⟩;by_cases A:k<c
    ·have N:=ky A dz;rw[jN A,aQ]at e;simp[B,C,A,N];generalize bS:((iw (k+1) c).flatMap λ(j:Nat)=>(iw (j+1) c).flatMap λ(r:Nat)=>if d.gx.Iz j r=true then(iw 0 c).flatMap λ(l:Nat)=>(iw l c).flatMap λ(v:Nat)=>iN d.gx.vG (gA j r l v)else [])=av at e;refine nz c (λi b y=>k<i/\∃o m f,KB d y o m f/\f++(((iw i c).flatMap λ(r:Nat)=>if d.gx.Iz k r=true then(iw 0 c).flatMap λ(l:Nat)=>(iw l c).flatMap λ(v:Nat)=>iN d.gx.vG (gA k r l v)else [])++av)=d.gx.nG/\dH b 1 (.ptr 0 0 0 0)/\dH b 3 (.ptr 1 0 0 0)/\dH b 5 (.ptr 2 0 0 0)/\dH b 6 (.func 22 [.ptr 1 0 0 0,.ptr 2 0 0 0])/\dH b 7 (dE c)/\dH b 12 (dE k)/\dH b 13 (dE i)/\dH b 62 (dE c)/\dH b 63 (dE k)) ?_ dz (k:=k+1) dz ⟨dz,o,m,f,h,e,by simp[z,w,x,u,s,B,C]⟩;rintro i b y bi ⟨cb,o,m,f,h,e,z,w,x,u,s,F,E,B,C⟩;by_cases D:i<c
     ·have R:=ky D dz;rw[jN D,aQ,aI]at e;generalize a6:((iw (i+1) c).flatMap λ(r:Nat)=>if d.gx.Iz k r=true then(iw 0 c).flatMap λ(l:Nat)=>(iw l c).flatMap λ(v:Nat)=>iN d.gx.vG (gA k r l v)else [])++av=ap at e;have bu:∀{tb:fJ},tb.p 25=some sK->rl Tryz.prog cx tb 25 [fI.t ⟨d,d.gx.st⟩,dE k,dE i]=some (.bool (d.gx.Iz k i)):=λht=>im ht HH (⟨d,d.gx.st⟩,(k:Int),(i:Int)) ⟨G.Xw,(fq.2 ⟨dz,dz⟩:je (k:Int) d.dO.length=true),(fq.2 ⟨dz,dz⟩:je (i:Int) d.dO.length=true)⟩;simp[w,s,F,E,D,h.b1,bu];refine ee (λq=> ?_) (λq=> ?_)
      ·rw[ao (by rw[show d.gx.Iz k i=false by simpa using q];simp),cD,<-a6]at e;simp[z,w,x,u,s,F,E,B,C,R];exact⟨i+1,dz,dz,dz,o,m,f,h,e,dA⟩
      ·rw[aq (by simpa using q)]at e;simp[s];refine nz c (λl b y=>∃o m f,KB d y o m f/\f++(((iw l c).flatMap λ(l:Nat)=>(iw l c).flatMap λ(v:Nat)=>iN d.gx.vG (gA k i l v))++ap)=d.gx.nG/\dH b 1 (.ptr 0 0 0 0)/\dH b 3 (.ptr 1 0 0 0)/\dH b 5 (.ptr 2 0 0 0)/\dH b 6 (.func 22 [.ptr 1 0 0 0,.ptr 2 0 0 0])/\dH b 7 (dE c)/\dH b 12 (dE k)/\dH b 13 (dE i)/\dH b 62 (dE c)/\dH b 63 (dE k)/\dH b 78 (dE c)/\dH b 79 (dE l)) ?_ dz (k:=0) dz ⟨o,m,f,h,e,by simp[z,w,x,u,s,F,E,B,C]⟩;rintro l b y b9 ⟨o,m,f,h,e,z,w,x,u,s,F,E,B,C,P,Q⟩;by_cases U:l<c
       ·have bT:=ky U dz;rw[jN U,aQ,aI]at e;simp[P,Q,U];generalize bN:((iw (l+1) c).flatMap λ(l:Nat)=>(iw l c).flatMap λ(v:Nat)=>iN d.gx.vG (gA k i l v))++ap=bs at e;refine nz c (λv b y=>∃o m f,KB d y o m f/\f++(((iw v c).flatMap λ(v:Nat)=>iN d.gx.vG (gA k i l v))++bs)=d.gx.nG/\dH b 1 (.ptr 0 0 0 0)/\dH b 3 (.ptr 1 0 0 0)/\dH b 5 (.ptr 2 0 0 0)/\dH b 6 (.func 22 [.ptr 1 0 0 0,.ptr 2 0 0 0])/\dH b 7 (dE c)/\dH b 12 (dE k)/\dH b 13 (dE i)/\dH b 14 (dE l)/\dH b 15 (dE v)/\dH b 62 (dE c)/\dH b 63 (dE k)/\dH b 78 (dE c)/\dH b 79 (dE l)) ?_ dz (k:=l) dz ⟨o,m,f,h,e,by simp[z,w,x,u,s,F,E,B,C,P,Q]⟩;rintro v b y ca ⟨o,m,f,h,e,z,w,x,u,s,F,E,aE,X,B,C,P,Q⟩;by_cases V:v<c
        ·have bX:=ky V dz;rw[jN V,aQ]at e;have S:=h.pre G e (g:=gA k i l v) rfl;rw[aI,<-aI]at e;simp[u,s,F,E,aE,X,V];refine iq K9 dA _ S ?_;rintro _ aN ⟨O,wU,H,I⟩;simp[z,w,x,u,s,F,E,aE,X,B,C,P,Q,bX];exact⟨v+1,dz,dz,O,wU,_,h.fm I H,e,dA⟩
        ·rw[kr (show c<=v by omega)]at e;simp[z,w,x,u,s,F,E,X,B,C,P,Q,V,bT];exact⟨l+1,dz,dz,o,m,f,h,by rw[bN];exact e,dA⟩
       ·rw[kr (show c<=l by omega)]at e;simp[z,w,x,u,s,F,E,B,C,P,Q,U,R];exact⟨i+1,dz,dz,dz,o,m,f,h,by rw[a6];exact e,dA⟩
     ·rw[kr (show c<=i by omega)]at e;simp[z,w,x,u,s,E,B,C,D,N];exact⟨k+1,dz,dz,o,m,f,h,by rw[bS];exact e,dA⟩
    ·rw[kr (show c<=k by omega)]at e;rw[cj,bL]at e;obtain⟨cp,b7⟩:=h.ac.gl;simp[x,B,C,A,b7,h.ac.g.cells,h.ac.g.il];exact⟨h.ok.hp,by rw[Gr.abq h.ac.g dz h.ac.a,e]⟩
 ·refine⟨dF,[],[],⟨⟨⟨0,dA⟩,Gr.nil _ _,.nil⟩,by exact⟨dA,dA,dA⟩,dA,dA⟩,T.symm,dA⟩
end
noncomputable section
open Go Go.TI
def l0:T:= .agg [(.dM [(.agg [(dE 1),(dE 1),(.str [120]),(dE 0),(dE 0),(.str [])])] false),(.dM [(.agg [(.str [116]),(dE 1),dF,(.dM [(.agg [(dE 12),(dE 1),(.str [117]),(.str []),dF,(dE 0),(dE 0),(.str []),dF,dF,dF]),(.agg [(dE 1),(dE 1),(.str [120]),(.str []),dF,(dE 1),(dE 1),(.str []),dF,dF,dF])] false)]),(.agg [(.str [117]),(dE 1),dF,(.dM [(.agg [(dE 1),(dE 1),(.str [120]),(.str []),dF,(dE 1),(dE 2),(.str []),dF,dF,dF])] false)])] false)]
def l1:T:= .dM [(.agg [(.str [120]),(dE 0),(dE 0),(.bool false),(dE 0)])] false
def l2:T:= .dM [(.agg [(dE 0),(dE 0),(dE 1)]),(.agg [(dE 0),(dE 1),(dE 1)]),(.agg [(dE 1),(dE 0),(dE 1)])] false
def l3:T:= .agg [(dE 28),(dE 0),(dE 0),(dE 0),(dE 0),(dE (.negSucc 0))]
def l4:T:= .agg [l1,dF,dF,dF,(.dM [(.str [116]),(.str [117])] false),l2,(.dM [(.agg [(dE 1),(.dM [(.agg [(dE 24),(dE 1),(dE 0),(dE 0),(dE 0),(dE 0)]),(.agg [(dE 1),(dE 0),(dE 0),(dE 0),(dE 1),(dE 1)]),(.agg [(dE 8),(dE 0),(dE 0),(dE 0),(dE 0),(dE 1)]),l3] false)]),(.agg [(dE 1),(.dM [(.agg [(dE 1),(dE 0),(dE 0),(dE 0),(dE 2),(dE 2)]),(.agg [(dE 8),(dE 0),(dE 0),(dE 0),(dE 0),(dE 2)]),l3] false)])] false)]
def l5:T:= .dM [(.agg [(dE 0),(dE 1),(dE (.negSucc 0)),(dE 0),(dE (.negSucc 0)),dF,dF]),(.agg [(dE 0),(dE 20),(dE 1),(dE 0),(dE 0),dF,dF]),(.agg [(dE 0),(dE 4),(dE 0),(dE 1),(dE 1),dF,dF]),(.agg [(dE 0),(dE 2),(dE (.negSucc 0)),(dE 0),(dE (.negSucc 0)),dF,dF]),(.agg [(dE 1),(dE 1),(dE (.negSucc 0)),(dE 0),(dE (.negSucc 0)),dF,dF]),(.agg [(dE 1),(dE 4),(dE 0),(dE 2),(dE 2),dF,dF]),(.agg [(dE 1),(dE 2),(dE (.negSucc 0)),(dE 0),(dE (.negSucc 0)),dF,dF])] false
def l6:T:= .agg [(dE 5),(dE 0),(.bool false)]
end
end Go.Proofs.YtmaeadedikngoaaGreatDoor
