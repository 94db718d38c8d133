/- Texts X15 to X19. -/
import Derived.Test.YtmaeadedikngoaaGreatDoorA41
set_option linter.all false
set_option maxRecDepth 100000
set_option maxHeartbeats 8000000
namespace Go.Proofs.YtmaeadedikngoaaGreatDoor
noncomputable section
open Go Go.TI
attribute [-simp] List.map_take List.map_drop List.map_append fH fh ej Bool.not_or Bool.not_and
attribute [simp] fG fj
def sJ:iq:=⟨fF×ik,λa=>[a.1.t,a.2.t],λa=>ny a.1/\a.2.jD.length<=1000000,λa=> .bool (a.1.gx.vR a.2),λa c b=>by simp at b;rw[fF.inj b.1,ik.inj b.2]⟩
def M3{b:fN}(ht:b.p 21=some pV)(a:fF)(c:ny a):rl Tryz.prog cx b 21 [a.t]=some (.tuple [fJ.t ⟨a,a.gx.st⟩,.bool true]):=iv ht EB a c
def OH:sJ.Ok Tryz.prog cx 14:=by
 refine iC (tb:=⟨pt [(21,pV),(23,sK)],ht []⟩) fc fa (je 127 [] Tryz.func14) (λ_=>100) (by simp[sJ]) (by simp[sJ,Tryz.f14]) ?_;rintro⟨c,d⟩ ⟨a,hl⟩ g b;simp only at a hl;simp[sJ]at b|-;obtain⟨e,f⟩:=b;simp[Tryz.f14,e,f,M3,a,Ls,(⟨a,rfl⟩:wm ⟨c,c.gx.st⟩),hl];exact GX.Rr _ d
def Lr{c:fN}(ht:c.p 14=some sJ)(b:fF)(a:ik)(d:ny b)(hl:a.jD.length<=1000000):rl Tryz.prog cx c 14 [b.t,a.t]=some (.bool (b.gx.vR a)):=iv ht OH (b,a) ⟨d,hl⟩
end
noncomputable section
open Go Go.TI
attribute [-simp] List.map_take List.map_drop List.map_append fH fh ej Bool.not_or Bool.not_and
attribute [simp] fG fj
attribute [-simp] size_cons
def xC:iq:=⟨List Int×List Int,λa=>[sl (a.1.map (T.int .i64)),sl (a.2.map (T.int .i64))],λa=>a.1.length<=1000000/\a.2.length<=1000000,λa=> .bool (lexB a.1 a.2),λa c b=>by
 simp at b;rw[jy dC b.1,jy dC b.2]⟩
def PA(a b:List Int)(c:a=[]\/b=[]):lexB a b=decide (a.length<b.length):=by
 rcases c with rfl|rfl
 ·cases b<;>simp[lexB]
 ·cases a<;>simp[lexB]
def RU:xC.Ok Tryz.prog cx 35:=by
 refine iC (tb:=⟨pt [],ht []⟩) fc fa (je 67141683 [] Tryz.func35) (λt=>1000005) (by simp[xC]) (by simp[xC,Tryz.f35]) ?_;rintro⟨a,b⟩ ⟨hl,r⟩ i n;simp only at hl r;simp[xC]at n|-;obtain⟨e,f⟩:=n;simp[Tryz.f35];obtain⟨c,w⟩:∃c,c=min a.length b.length:=⟨_,rfl⟩;refine fI c dB (λd i k=>k=hE/\dJ i 0 (sl (a.map (T.int .i64)))/\dJ i 1 (sl (b.map (T.int .i64)))/\dJ i 5 (dG d)/\lexB (a.drop d) (b.drop d)=lexB a b) ?_ ?_ dB (by simp[e,f])
 ·rintro d i k v p ⟨rfl,e,f,j,g⟩;have l:d<a.length:=dB;have m:d<b.length:=dB;rw[aI l,aI m,lexB]at g;by_cases h:a[d]=b[d]
  ·rw[aq h]at g;simp[e,f,j,l,m,h,p,g]
  ·rw[ao h]at g;simp[e,f,j,l,m,h,g]
 ·rintro i k ⟨rfl,e,f,j,g⟩;have h:a.drop c=[]\/b.drop c=[]:=by
   rcases Nat.le_total a.length b.length with q|q
   ·exact .inl (List.drop_eq_nil_of_le dB)
   ·exact .inr (List.drop_eq_nil_of_le dB)
  have o:lexB a b=decide (a.length<b.length):=by
   rw[<-g,PA _ _ h];simp;omega
  have u:¬((c:Int)<a.length/\(c:Int)<b.length):=dB;by_cases q:(c:Int)<a.length
  ·have s:¬(c:Int)<b.length:=dB;simp[e,f,j,q,s,o]
  ·simp[e,f,j,q,o]
def WS{c:fN}(ht:c.p 35=some xC)(a b:List Int)(hl:a.length<=1000000)(d:b.length<=1000000):rl Tryz.prog cx c 35 [sl (a.map (T.int .i64)),sl (b.map (T.int .i64))]=some (.bool (lexB a b)):=iv ht RU (a,b) ⟨hl,d⟩
def xx:iq:=⟨ik×ik,λa=>[a.1.t,a.2.t],λa=>a.1.jD.length<=1000000/\a.2.jD.length<=1000000,λa=> .bool (decide (a.1=a.2)),λa c b=>by simp at b;rw[ik.inj b.1,ik.inj b.2]⟩
def RO:xx.Ok Tryz.prog cx 17:=by
 refine iC (tb:=⟨pt [(36,pk)],ht []⟩) fc fa (je 31 [] Tryz.func17) (λ_=>10) (by simp[xx]) (by simp[xx,Tryz.f17]) ?_;rintro⟨a,b⟩ ⟨e,f⟩ i c;simp only at e f;simp[xx]at c|-;obtain⟨g,h⟩:=c;have d:=λ{tb:fN} (ht:tb.p 36=some pk)=>M0 ht a.jD b.jD dB dB;simp[Tryz.f17,g,h,d];cases a;cases b;simp[Bool.and_assoc]
def xD:iq:=⟨ik×ik,λa=>[a.1.t,a.2.t],λa=>a.1.jD.length<=1000/\a.2.jD.length<=1000,λa=> .bool (uZ a.1 a.2),λa c b=>by simp at b;rw[ik.inj b.1,ik.inj b.2]⟩
def LB{a:H}{c:T}{f:List Int}(g:Gr a c 1 (f.map (T.int .i64)))(i:ij 0 a)(b:List Int)(o:f.length+b.length<=1000000):∃e d,iM cx a 38 38 c (sl (b.map (T.int .i64)))=some (.val e d)/\Xt a c 1 ((f++b).map (T.int .i64)) e d:=by
 by_cases hl:b=[]
 ·subst hl;refine⟨c,a,?_,by simpa using Xt.refl g i⟩;have k:iM cx a 38 38 c (sl (([]:List Int).map (T.int .i64)))=jz (a.append 1 8 c []):=by
   unfold iM oP mh;rw[kz,dY,dY];simp only[show nL.u= .slice 3 from rfl,mM,dY];rfl
  rw[k];rcases g with⟨rfl,_⟩|⟨l,m,p,n,xs,rfl,_⟩<;>rfl
 ·obtain⟨e,d,j,h⟩:=Gr.app (cx:=cx) g i (x:=sl (b.map (T.int .i64))) (xs:=b.map (T.int .i64)) kz rfl mM kz rfl rfl dC dC (by simp[T.cells]) (by simpa using hl) dD;rw[<-List.map_append]at h;exact⟨e,d,j,h.xt⟩
def RV:xD.Ok Tryz.prog cx 16:=by
 refine iC (tb:=⟨pt [(35,xC)],ht []⟩) fc fa (je 31 [(1,[(13,15),(13,17),(13,19),(13,21),(13,23),(13,24),(13,26)])] Tryz.func16) (λ_=>10) (by simp[xD]) (by simp[xD,Tryz.f16]) ?_;rintro⟨e,f⟩ ⟨C,D⟩ R n;simp only at C D;simp[xD]at n|-;obtain⟨E,F⟩:=n;obtain⟨g,i⟩:∃g,((hE.cons (dI 6 0 [e.t])).cons (dI 6 0 [f.t])).cons (dI 1 0 [dG e.kind,dG e.a,dG e.b,dG e.c,dG e.d])=g:=⟨_,rfl⟩;have U:g.size=3:=by rw[<-i];rfl
 have L:ij 0 g:=by rw[<-i];exact⟨dC,by simp[size_cons],dC⟩
 have A:Gr g (.arr 2 0 0 5 false) 1 ([e.kind,e.a,e.b,e.c,e.d].map (T.int .i64)):= .inr ⟨2,0,0,true,[dG e.kind,dG e.a,dG e.b,dG e.c,dG e.d],rfl,by rw[<-i];simp[size_cons],rfl⟩;have q:g.get 0=some (dI 6 0 [e.t]):=by rw[<-i];simp[size_cons]
 have l:g.get 1=some (dI 6 0 [f.t]):=by rw[<-i];simp[size_cons]
 obtain⟨P,h,s,j⟩:=LB A L e.jD dD;have S:=j.2.2.2.sz;have J:ij 0 h:=⟨j.2.2.2.hp,j.2.2.2.low,aw _⟩;have m:=(j.2.1 1 dB dC).trans l;have B:Gr (h.cons (dI 1 0 [dG f.kind,dG f.a,dG f.b,dG f.c,dG f.d])) (.arr h.size 0 0 5 false) 1 ([f.kind,f.a,f.b,f.c,f.d].map (T.int .i64)):= .inr ⟨h.size,0,0,true,[dG f.kind,dG f.a,dG f.b,dG f.c,dG f.d],rfl,by rw[dW,aq rfl],rfl⟩;obtain⟨Q,o,u,k⟩:=LB B (J.cons _) f.jD dD;have y:Gr o P 1 ((F0 e).map (T.int .i64)):=j.1.mono λr G=>by
  obtain⟨_,_,_,_,M,_⟩:=j.1.box G;have hl:=H.eJ M;exact(k.2.1 r (by rw[size_cons];omega) dD).trans (by rw[dW,ao dB])
 have z:Gr o Q 1 ((F0 f).map (T.int .i64)):=k.1;have w:=y.rn dC;have x:=z.rn dC;have v:=λ{tb:fN} (ht:tb.p 35=some xC)=>WS ht (F0 e) (F0 f) (by simp[F0];omega) (by simp[F0];omega);have K:=k.2.2.2;have N:ff g h 1=true:=fk (m.trans l.symm);have O:ff g h h.size=true:=jc (ll _ dB);have I:(1=h.size)=False:=dD;simp[Tryz.f16,E,F,i,q,s,m,N,O,I,u,w,x,v,uZ,K.hp]
 done
def pQ{a b:Nat}(c:a<b)(d:b<=16):binop .add (dG (a:Int)) (dG 1)=some (dG ((a:Int)+1)):=iy dB dB 
def Gr.aet{a:H}{h:Nat->Prop}{g:T}{j c:Nat}{d e:List T}(f:Gr a g j d)(i:c<=11)(b:iG (FT a h c) d e):TI.rn a g=some (sl e):=by
 have:=f.H6 i b;rcases f with⟨rfl,rfl⟩|⟨k,l,p,m,q,rfl,n,o⟩
 ·cases b;rfl
 ·rwa[F2]
structure Fm(h h':H)(bl:Nat)(v v':T):Prop where
 ok:ij h.size h'
 fr:∀c,c<h.size->c≠bl->dU v≠some c->h'.get c=h.get c
 bx:∀c,dU v'=some c->dU v=some c\/h.size<=c
def Fm.nb{a b:H}{e:Nat}{d:T}(c:Nb a b):Fm a b e d d:=⟨c.ok,λf g _ _=>c.get f g,λ_ h=> .inl h⟩
def Fm.trans{g c d:H}{f:Nat}{h i j:T}(e:Fm g c f h i)(b:Fm c d f i j):Fm g d f h j:=by
 have l:=e.ok.sz;have m:=b.ok.sz;refine⟨⟨b.ok.hp,b.ok.low,dB⟩,λa k c d=>(b.fr a dB c λq=>(e.bx a q).elim d dB).trans (e.fr a k c d),λa q=> ?_⟩;rcases b.bx a q with q|q
 ·exact e.bx a q
 ·right;omega
structure By(h:H)(bl:Nat)(v:T)(es:List T)(gs:List ik):Prop where
 gl:∃ver,h.get bl=some (dI 1 ver [v])
 g:Gr h v 6 es
 a:iG (FT h (λc=>c<h.size/\c≠bl/\dU v≠some c) 4) es (gs.map ik.t)
def By.step{l b:H}{c:Nat}{m e:T}{g i:List T}{k gs2:List ik}(q:By l c m g k)(h:Fm l b c m e)(p:∃u,b.get c=some (dI 1 u [e]))(o:Gr b e 6 (g++i))(n:iG (FT b (λf=>f<b.size/\f≠c/\dU e≠some f) 4) i (gs2.map ik.t)):By b c e (g++i) (k++gs2):=by
 have v:=h.ok.sz;refine⟨p,o,?_⟩;rw[List.map_append];exact(q.a.imp λ_ _ r=>r.mono λj d=>⟨⟨dB,d.2.1,λs=>(h.bx j s).elim d.2.2 dB⟩,h.fr j d.1 d.2.1 d.2.2⟩).append n
def By.nb{j k:H}{f:Nat}{m:T}{h:List T}{i:List ik}(c:By j f m h i)(d:Nb j k):By k f m h i:=by
 obtain⟨p,l⟩:=c.gl;have q:=d.ok.sz;exact⟨⟨p,(d.get f (H.eJ l)).trans l⟩,c.g.mono λe b=>by obtain⟨_,_,_,_,n,_⟩:=c.g.box b;exact d.get e (H.eJ n),c.a.imp λ_ _ o=>o.mono λe b=>⟨⟨dB,b.2⟩,d.get e b.1⟩⟩
def By.out{b:H}{d:Nat}{j:T}{f:List T}{i:List ik}(e:By b d j f i)(c:H):By (lM c b) d j f i:=by
 obtain⟨p,n⟩:=e.gl;exact⟨⟨p,(fQ c b d).trans n⟩,e.g.out c,e.a.imp λ_ _ o=>o.mono λk l=>⟨by simpa using l,fQ c b k⟩⟩
def F1(e:ik)(f:T):T:= .agg [dG e.kind,dG e.a,dG e.b,dG e.c,dG e.d,f]
structure IAd where
 (z:fJ) (g:ik) (e:T) (bx bl:Nat) (v:T) (es:List T) (gs:List ik)
def KL(a:IAd)(d:List T)(b:H):Prop:=d=[F1 a.g a.e,.ptr a.bx 0 0 0,.ptr a.bl 0 0 0]/\(∃f,b.get a.bx=some (dI 16 f [a.z.t]))/\By b a.bl a.v a.es a.gs/\ij 0 b/\wm a.z/\a.es.length<=1000000/\a.g.jD.length<=1000000/\Gr b a.e 1 (gD a.g.jD)/\(∀c,dU a.e=some c->c≠a.bl)
def Ji(a:IAd)(f:List T)(e:H)(h:T)(b:H):Prop:=∃c d,By b a.bl c d (a.gs++jr a.z.w.gx.vG a.g)/\Fm e b a.bl a.v c
def KX:(jF IAd KL Ji).Ok Tryz.prog cx 22:=by
 refine jv (tb:=⟨pt [(23,sK)],ht []⟩) fc fa (je 79 [] Tryz.func22) (λ_ _=>10) (λi a h bp=>by obtain⟨rfl,_⟩:=bp;simp[Tryz.f22]) ?_;rintro⟨S,j,l,aE,r,A,U,bu⟩ _ h ⟨rfl,⟨bC,O⟩,I,ap,an,bn,al,C,P⟩ bB Z;simp only at O I an bn al C P;simp[F1]at Z;obtain⟨bi,D,E⟩:=Z;obtain⟨R,ae⟩:=I.gl;generalize y:(TI.hr h).cons (dI 6 0 [F1 j l])=m;have F:ij h.size m:=by rw[<-y];exact(⟨ap.hr.hp,ap.hr.low,au _⟩:ij h.size (TI.hr h)).cons _
 have bN:m.size=h.size+1:=by rw[<-y];rfl
 have z:Nb h m:=⟨F,λe f=>by rw[<-y,dW,ao dD];exact gF h e⟩;have aN:=(z.get aE (H.eJ O)).trans O;have J:=(z.get r (H.eJ ae)).trans ae;have X:m.get h.size=some (dI 6 0 [.agg [dG j.kind,dG j.a,dG j.b,dG j.c,dG j.d,l]]):=by rw[<-y];simp[F1]
 have Y:Gr m l 1 (gD j.jD):=C.mono λe f=>by obtain⟨_,_,_,_,o,_⟩:=C.box f;exact z.get e (H.eJ o)
 have a6:TI.fz m l=some (sl (gD j.jD)):=Y.fz dC;have aX:∀{tb:fN},tb.p 23=some sK->rl Tryz.prog cx tb 23 [S.t,j.t]=some (.bool (S.w.gx.vG j)):=λht=>Ls ht S j an al;have v:=I.nb z;unfold F1 at y;simp[Tryz.f22,bi,D,y,aN,X,a6,aX];refine em (λQ=> ?_) (λQ=> ?_)
 ·have av:ij 0 m:=⟨F.hp,F.low,aw _⟩;obtain⟨u,L,T,q⟩:=v.g.Dc (cx:=cx) av Wv rfl J7 rfl dC (x:=F1 j l) rfl (by simp only[show U4.bytes=64 from rfl];omega);have bk:=H.eJ J;have M:=(q.2.1 r bk (λs=>by obtain⟨_,_,_,_,o,_⟩:=v.g.box s;rw[J]at o;simp at o)).trans J;have bz:=av.low;have bH:=q.2.2.2.sz;unfold F1 at T;have sv:ml A 0 [u]=some u:=BQ (oX.na (h:=m) (sz:=6) (.inr v.g));simp[E,J,X,T,M,sv,q.1.im,q.1.cells,v.g.cells];have K:∀G e,(d8 L r G).get e=if e=r then some G else L.get e:=λG e=>dQ M G e;have bs:dU u≠some r:=λs=>by obtain⟨_,_,_,_,o,_⟩:=q.1.box s;rw[M]at o;simp at o
  have W:Fm m (d8 L r (dI 1 (R+1) [u])) r A u:=⟨q.2.2.2.put _ _,λe f D E=>by rw[K,ao D];exact q.2.1 e f E,q.2.2.1⟩;have aA:=v.step (gs2:=[j]) W ⟨R+1,by rw[K,aq rfl]⟩ (q.1.mono λe s=>by rw[K,ao (λk=>bs (by rw[<-k];exact s))]) (.cons (.inr (.inr ⟨_,_,rfl,.cons (f9 ..) (.cons (f9 ..) (.cons (f9 ..) (.cons (f9 ..) (.cons (f9 ..) (.cons (?_:FT _ _ 3 l (sl (gD j.jD))) .nil))))),rfl⟩)) .nil);rotate_left
  ·have N:∀e,dU l=some e->e<h.size:=λe f=>by obtain⟨_,_,_,_,o,_⟩:=C.box f;exact H.eJ o
   have V:∀e,dU l=some e->dU A≠some e:=λe f=>C.ne I.g dF e f;have a8:Gr (d8 L r (dI 1 (R+1) [u])) l 1 (gD j.jD):=Y.mono λe f=>by
    rw[K,ao (P e f)];exact q.2.1 e (by have:=N e f;omega) (V e f)
   exact(show oX _ 1 l (gD j.jD)from .inr a8).ft (d:=1) (λG o=>by obtain⟨n,_,rfl⟩:=List.mem_map.1 o;simp) λe f=>⟨by have:=N e f;simp;omega,P e f,λs=>(q.2.2.1 e s).elim (V e f) (by have:=N e f;omega)⟩
  have a7:Fm h m r A A:=Fm.nb z;have B:=a7.trans W;refine⟨u,U++[F1 j l],?_,⟨⟨(B.ok.out h).hp,(B.ok.out h).low,by simpa using B.ok.sz⟩,λe f D E=>(fQ h _ e).trans (B.fr e f D E),B.bx⟩⟩;unfold jr;rw[Q];exact aA.out h
 ·simp;exact⟨A,U,by
   unfold jr;rw[Q];simpa using v.out h,Fm.nb ⟨⟨(F.out h).hp,(F.out h).low,dD⟩,λe f=>(fQ h m e).trans (z.get e f)⟩⟩
@[simp] theorem abt (b:aj) (a:List T):(T.func b a).cells=[.func b a]:=id rfl
@[simp] theorem acq (b:aj) (a:List T):(T.func b a).im=true:=id rfl
def Vd{h:H}(b c a:Nat)(d:iY)(f:h.get b=some d)(g:d.sz=1):KG cx h nL (.arr b c 0 a false) none (some a) (some a)=some (.val (.arr b c 0 a true) h):=by
 unfold KG;have e:jp cx h nL.u (.arr b c 0 a false)=true:=by
  unfold jp;simp only[show nL.u= .slice 3 from rfl,mM,f,g];rfl
 rw[e,ir,show yD (some a) (some a)=true from rfl,ir,show asSlice nL.u (.arr b c 0 a false)= .arr b c 0 a false by rw[show nL.u= .slice 3 from rfl];rfl];show val h (gh (Nat.ble 0 a) (gh (Nat.ble a a) (dV (hU (Nat.add 0 0)) λj=>dV (hU (Nat.sub a 0)) λi=>gh (Nat.beq a a) (some (T.arr b c j i true)))))=_;simp
def QJ{h:H}{b ep n:Nat}{c:List T}(g:h.ji (.arr b ep 0 n true)=some c)(f:∀d∈c,d.cells.length=1)(hl:c.length<=1000)(a:Int):
 iM cx (h.cons (dI 1 0 [dG a])) 38 38 (.arr b ep 0 n true) (.arr h.size 0 0 1 false)=some (.val (.arr (h.size+1) 0 0 (c.length+1) false) ((h.cons (dI 1 0 [dG a])).cons ⟨1,0,0,false,false,c++[dG a]⟩)):=by
 unfold iM oP mh;simp only[kz,dY,show nL.u= .slice 3 from rfl,mM];have i:(h.cons (dI 1 0 [dG a])).ji (.arr h.size 0 0 1 false)=some [dG a]:=by rw[gH];simp
 rw[i,dY];show gh true (jz (dV ((h.cons (dI 1 0 [dG a])).ji (.arr b ep 0 n true)) λc=>(h.cons (dI 1 0 [dG a])).jb 1 8 c [dG a]))=_;rw[ir,Ct g,dY];unfold H.jb;rw[pO,dY,jH,iE,dY,mp f,mp (by simp[T.cells])];have e:Nat.ble (Nat.mul (c++[T.int .i64 a]).length 8) 70368744177664=true:=by
  rw[Nat.ble_eq];show(c++[T.int .i64 a]).length*8<=_;simp;omega
 rw[e];simp only[show Nat.ble 1 8=true from rfl,ir,H.kF,aU,List.length_singleton];rfl
def Fm.Vy{a c:H}{d:Nat}{f g:T}(b:Fm a c d f g):Fm a (lM a c) d f g:=⟨⟨(b.ok.out a).hp,(b.ok.out a).low,by simpa using b.ok.sz⟩,λe j h i=>(fQ a c e).trans (b.fr e j h i),b.bx⟩
def QT(b a:Nat):T:= .func 22 [.ptr b 0 0 0,.ptr a 0 0 0]
def Sw(a b c:Nat):T:= .func 53 [.ptr a 0 0 0,.ptr b 0 0 0,.ptr c 0 0 0]
structure Yy(h:H)(z:fJ)(b1 b2 b3 bx bl:Nat):Prop where
 e1:∃ver,h.get b1=some (dI 1 ver [QT bx bl])
 e2:∃ver,h.get b2=some (dI 16 ver [z.t])
 e3:∃ver,h.get b3=some (dI 1 ver [Sw b1 b2 b3])
 ex:∃ver,h.get bx=some (dI 16 ver [z.t])
def By.ne{i:H}{h:Nat}{f:T}{m:List T}{n:List ik}(l:By i h f m n){c:Nat}{a:iY}(j:i.get c=some a)(k:a.sz=16\/(a.sz=1/\a.eZ≠ [f])):c≠h/\dU f≠some c:=by
 obtain⟨o,d⟩:=l.gl;refine⟨?_,λq=> ?_⟩
 ·rintro rfl;rw[j]at d;simp only[ar]at d;subst d;rcases k with q|q
  ·simp at q
  ·exact q.2 rfl
 ·obtain⟨_,_,_,_,e,_⟩:=l.g.box q;rw[j]at e;simp only[ar]at e;subst e;rcases k with q|q
  ·simp at q
  ·have:=q.1;simp at this
def Gr.nf{f:H}{a:T}{g:Nat}{c:List T}(e:Gr f a g c){d:aj}{b:List T}: [T.func d b]≠ [a]:=by
 rcases e with⟨rfl,_⟩|⟨_,_,_,_,_,rfl,_⟩<;>simp
def Yy.fm{j o:H}{u:fJ}{k l m n b:Nat}{t x:T}{v:List T}{w:List ik}(c:Yy j u k l m n b)(a:By j b t v w)(d:Fm j o b t x):Yy o u k l m n b:=by
 obtain⟨y,e⟩:=c.e1;obtain⟨z,f⟩:=c.e2;obtain⟨A,h⟩:=c.e3;obtain⟨B,i⟩:=c.ex;have p:=a.ne e (.inr ⟨rfl,Gr.nf a.g⟩);have q:=a.ne f (.inl rfl);have r:=a.ne h (.inr ⟨rfl,Gr.nf a.g⟩);have s:=a.ne i (.inl rfl);exact⟨⟨y,(d.fr _ (H.eJ e) p.1 p.2).trans e⟩,⟨z,(d.fr _ (H.eJ f) q.1 q.2).trans f⟩,⟨A,(d.fr _ (H.eJ h) r.1 r.2).trans h⟩,⟨B,(d.fr _ (H.eJ i) s.1 s.2).trans i⟩⟩
structure Yw where
 (z:fJ) (p:List Int) (pv:T) (b1 b2 b3 bx bl:Nat) (v:T) (es:List T) (gs:List ik)
def cyG(b:fJ)(a:List Int):List (List Int):=wU b.w.gx.ev.length (λa=>decide (2<=a.length)&&b.w.gx.vG (gC a)) (λa c=>b.w.gx.qy c (mY a)) (4-a.length) a
def Oc(a:Yw)(d:List T)(b:H):Prop:=d=[a.pv,.ptr a.b1 0 0 0,.ptr a.b2 0 0 0,.ptr a.b3 0 0 0]/\Yy b a.z a.b1 a.b2 a.b3 a.bx a.bl/\By b a.bl a.v a.es a.gs/\ij 0 b/\wm a.z/\Gr b a.pv 1 (gD a.p)/\(∀c,dU a.pv=some c->c≠a.bl)/\1<=a.p.length/\a.p.length<=4/\(∀e∈a.p,jt e a.z.w.dS.length=true)/\a.gs.length+(cyG a.z a.p).length<=1000000
def Jd(a:Yw)(f:List T)(e:H)(g:T)(b:H):Prop:=∃c d,By b a.bl c d (a.gs++(cyG a.z a.p).map gC)/\Fm e b a.bl a.v c
def VJ(k:Nat):(jF Yw (λi a h=>Oc i a h/\5-i.p.length<k) Jd).Ok Tryz.prog cx 53:=by
 refine wQ (λi:Yw=>5-i.p.length) (λm eN=> ?_) k;refine jv (tb:=⟨pt [(55,oI)],ht [(22,jF IAd KL Ji),(54,jF Q5 (yu 1) (uG 1)),(53,jF Yw (λi a h=>Oc i a h/\5-i.p.length<m) Jd)]⟩) fc fa (je 137506128175 [(1,[(0,2)]),(7,[(0,9)])] Tryz.func53) (λ_ _=>100) (λi a h eF=>by obtain⟨⟨rfl,_⟩,_⟩:=eF;simp[Tryz.f53]) ?_;rintro⟨d,c,z,R,a7,C,b8,o,L,es,V⟩ _ h ⟨⟨rfl,bi,A,bS,Y,N,bH,eH,eI,av,bu⟩,eD⟩ l ce;simp only at bi A Y N bH eH eI av bu eD;simp at ce;obtain⟨f,v,t,F⟩:=ce;have c9:Nb h (TI.hr h):=⟨⟨bS.hr.hp,bS.hr.low,au _⟩,λe _=>gF h e⟩;have bp:Fm h (TI.hr h) o L L:=Fm.nb c9;have aE:=A.nb c9;have cb:=bi.fm A bp;have eO:∀b,dU z=some b->b<h.size:=λb ey=>by obtain⟨_,_,_,_,S,_⟩:=N.box ey;exact H.eJ S
 have dd:∀e,dU z=some e->dU L≠some e:=λe u=>N.ne A.g dF e u;have Z:=λv:H=>N.len (cx:=cx) v nL _ rfl;rw[aG]at Z;have e6:es.length=V.length:=by have:=A.a.length;simpa using this
 obtain⟨fA,E⟩:=cb.e1;simp[Tryz.f53,f,Z];refine lq (λl h'=>∃j q,By h' o j q (V++(if(decide (2<=c.length)&&d.w.gx.vG (gC c))=true then [c]else []).map gC)/\Fm h h' o L j/\dJ l 0 z/\dJ l 1 (.ptr R 0 0 0)/\dJ l 2 (.ptr a7 0 0 0)/\dJ l 3 (.ptr C 0 0 0)) (λP=> ?_) (λP=> ?_) ?_
 ·have er:2<=c.length:=by have:=of_decide_eq_true P;omega
  have eh:Gr (TI.hr h) z 1 (gD c):=N.mono λe _=>gF h e;simp[f,v,E,QT];refine kZ Hy dC ⟨z,gD c⟩ ⟨rfl,eh.ji,by simp[T.cells],dD,bS.hr⟩ ?_;rintro r e0 ⟨ap,J,eP⟩;simp only at ap;have aN:=aE.nb J;have ea:=cb.fm aE (Fm.nb J);have dk:o<h.size:=by obtain⟨ver,bB⟩:=A.gl;exact H.eJ bB
  have eR:=fk (J.get R (H.eJ E));simp[ap.im,ap.cells,eR];refine kZ KX dC ⟨d,gC c,r,b8,o,L,es,V⟩ ⟨rfl,ea.ex,aN,⟨J.ok.hp,J.ok.low,aw _⟩,Y,dE,by simp[gC];omega,ap,λe u=>by have:=eP e u;simp at this;show e≠o;omega⟩ ?_;rintro _ e4 ⟨j,q,di,al⟩;have ec:=(bp.trans (Fm.nb J)).trans al;have c6:=aN.ne ((J.get R (H.eJ E)).trans E) (.inr ⟨rfl,Gr.nf aN.g⟩);have eS:=fk (al.fr R (bG (H.eJ E) J.ok.sz) c6.1 c6.2);have fb:=al.ok.low;have fL:=al.ok.sz;simp[f,v,t,F,eS];refine⟨j,⟨q,?_⟩,ec⟩;have:jr d.w.gx.vG (gC c)=List.map gC (if 2<=c.length/\d.w.gx.vG (gC c)=true then [c]else []):=by
   unfold jr;by_cases K:d.w.gx.vG (gC c)=true
   ·rw[aq K,aq ⟨er,K⟩];rfl
   ·rw[ao K,ao (λk=>K k.2)];rfl
  rw[<-this];exact di
 ·have:¬2<=c.length:=by simp at P;omega
  simp[f,v,t,F,this];exact⟨L,⟨es,aE⟩,bp⟩
 rintro l h' ⟨j,q,B,s,f,v,t,F⟩;have bT:∀{t:H} {de:T},Fm h t o L de->Gr t z 1 (gD c):=λM=>N.mono λe u=>M.fr e (eO e u) (bH e u) (dd e u);have O:cyG d c=wU d.w.dS.length (λc=>decide (2<=c.length)&&d.w.gx.vG (gC c)) (λc I=>d.w.gx.qy I (mY c)) (4-c.length) c:=rfl;simp[f,Z];refine em (λP=> ?_) (λP=> ?_)
 ·simp at P;rw[show 4-c.length=0 by omega,wU]at O;simp;refine⟨j,q,?_,s.Vy⟩;simp only;rw[O];exact B.out h
 simp at P;obtain⟨U,et⟩:∃U,4-c.length=U+1:=⟨3-c.length,dB⟩;rw[et,wU]at O;obtain⟨p0,bC⟩:∃p0:Nat,c[0]? =some (p0:Int)/\p0<d.w.dS.length:=by
  have:=fw.1 (av c[0] (aC dB));exact⟨c[0].toNat,by rw[aB dB];congr 1;omega,dB⟩
 have e9:=Y.w.ok.len;have eA:(c.getD 0 0).toNat=p0:=by simp[List.getD,bC.1]
 rw[eA]at O;have bN:c.length-1<c.length:=dB;have c1:mY c=c[c.length-1]:=by simp[mY,List.getD,bN]
 have eE:jt (mY c) d.w.dS.length=true:=by rw[c1];exact av _ (aC bN)
 obtain⟨D,bn,fC,eX,fE,G,cX,_,_⟩:=N.at (x:= dG p0) (i:=0) (by rw[aQ,bC.1];rfl);rw[aG]at G;obtain⟨fs,E,b9⟩:=(show oX h' 1 z _ from .inr (bT s)).idx (te:=Ed) rfl rfl (i:=0) (x:= dG p0) (by simp[bC.1]) rfl;have eu:binop .add (dG (p0:Int)) (dG 1)=some (dG ((p0:Int)+1)):=iy dB dB;have eL:binop .sub (dG (c.length:Int)) (dG 1)=some (dG ((c.length-1:Nat):Int)):=by rw[kN dB dB];congr 2;omega
 generalize cL:(λ(I:Nat)=>if d.w.gx.qy I (mY c)=true then wU d.w.dS.length (λc=>decide (2<=c.length)&&d.w.gx.vG (gC c)) (λc I=>d.w.gx.qy I (mY c)) U (c++[(I:Int)])else [])=M at O;generalize(if(decide (2<=c.length)&&d.w.gx.vG (gC c))=true then [c]else [])=b6 at*
 simp[f,E,b9,eu];clear E b9;refine sr d.w.dS.length (λk l h'=>p0+1<=k/\∃j q,By h' o j q (V++(b6++(List.range' (p0+1) (k-(p0+1))).flatMap M).map gC)/\Fm h h' o L j/\dJ l 0 z/\dJ l 1 (.ptr R 0 0 0)/\dJ l 2 (.ptr a7 0 0 0)/\dJ l 3 (.ptr C 0 0 0)/\dJ l 5 (dG k)) ?_ dB (k:=p0+1) dB ?_
 ·rintro k l h' e8 ⟨e7,j,q,B,s,f,v,t,F,W⟩;have bk:=bi.fm A s;obtain⟨de,ca⟩:=bk.e2;obtain⟨fB,ae⟩:=bk.e3;by_cases c4:k<d.w.dS.length
  ·have cp:binop .add (dG (k:Int)) (dG 1)=some (dG ((k:Int)+1)):=iy dB dB;obtain⟨fv,dm,dn⟩:=(show oX h' 1 z _ from .inr (bT s)).idx (te:=Ed) rfl rfl (i:=c.length-1) (x:= dG (mY c)) (by rw[c1];simp[bN]) rfl;have ds:=λ{tb:fN} (ht:tb.p 55=some oI)=>Iq ht d k (mY c) Y (fw.2 ⟨dB,dB⟩) eE;simp[f,t,W,c4,ca,Z,eL,dm,dn,ds];refine em (λK=> ?_) (λK=> ?_)
   ·have eo:=bT s;have eC:h'.ji (.arr D bn 0 c.length true)=some (gD c):=by
     have:=eo.ji;rw[G]at this;rw[gH]at this|-;exact this
    have fo:∀e,dU z=some e->e=D:=λe u=>by rw[G]at u;simpa using u.symm
    have eB:h'.get D=_:=(s.fr D (H.eJ cX) (bH D (by rw[G];rfl)) (dd D (by rw[G];rfl))).trans cX;have dv:=Vd (h:=h') D bn c.length _ eB rfl;have a8:=QJ (h:=h') (b:=D) (ep:=bn) (n:=c.length) eC (by simp[T.cells]) dD (k:Int);rw[aG]at a8;have aA:ij h.size h':=s.ok;generalize bs:(h'.cons (dI 1 0 [dG k])).cons ⟨1,0,0,false,false,gD c++[dG k]⟩=X at a8;have fS:X.size=h'.size+1+1:=by rw[<-bs];rfl
    have Q:Nb h' X:=by rw[<-bs];exact((Nb.refl ⟨aA.hp,aA.low,aw _⟩).cons _).cons _
    have ef:Gr X (.arr (h'.size+1) 0 0 (c.length+1) false) 1 (gD (c++[(k:Int)])):=by
     have:=Gr.new (h:=X) (b:=h'.size+1) (sz:=1) (ep:=0) (ver:=0) (ex:=false) (es:=gD (c++[(k:Int)])) (by rw[<-bs,show gD (c++[(k:Int)])=gD c++[dG k]from List.map_append ..];simp);simpa using this
    have aX:=B.nb Q;have eb:=bk.fm B (Fm.nb Q);have fi:=aA.low;have b7:=H.eJ ae;have gd:=aA.sz;have fl:(C=h'.size)=False:=dD;have eU:=fk (h:=h'.cons (dI 1 0 [dG k])) (h':=X) (b:=C) (by rw[Q.get C b7,dW,ao dB]);have dk:o<h.size:=by obtain⟨ver,bB⟩:=A.gl;exact H.eJ bB
    simp only[Sw]at ae;rw[G]at f;simp[f,F,W,ae,G▸Z,dv,a8,eU];have bz:M k=wU d.w.dS.length (λc=>decide (2<=c.length)&&d.w.gx.vG (gC c)) (λc I=>d.w.gx.qy I (mY c)) U (c++[(k:Int)]):=by rw[<-cL];simp only;rw[aq K]
    have cy:cyG d (c++[(k:Int)])=M k:=by rw[bz];unfold cyG;simp only[aU,List.length_singleton];rw[show 4-(c.length+1)=U by omega];rfl
    have eM:js (p0+1) d.w.dS.length=List.range' (p0+1) (k-(p0+1))++k::List.range' (k+1) (d.w.dS.length-(k+1)):=by
     unfold js;rw[show d.w.dS.length-(p0+1)=(k-(p0+1))+(d.w.dS.length-k)by omega,<-List.range'_append_1,show p0+1+(k-(p0+1))=k by omega,show d.w.dS.length-k=(d.w.dS.length-(k+1))+1 by omega,List.range'_succ]
    refine kZ eN dC ⟨d,c++[(k:Int)],.arr (h'.size+1) 0 0 (c.length+1) false,R,a7,C,b8,o,j,q,V++(b6++(List.range' (p0+1) (k-(p0+1))).flatMap M).map gC⟩ ⟨⟨rfl,eb,aX,⟨Q.ok.hp,Q.ok.low,aw _⟩,Y,ef,λe u=> ?_,dC,dD,λy S=> ?_,?_⟩,dD⟩ ?_
    ·simp at u;show e≠o;omega
    ·simp at S;rcases S with S|rfl
     ·exact av y S
     ·show jt (k:Int) d.w.dS.length=true;exact fw.2 ⟨dB,dB⟩
    ·simp only[cy];rw[O,eM]at bu;simp only[aU,List.flatMap_append,bA,aG]at bu|-;omega
    rintro _ e5 ⟨eW,es3,a6,an⟩;simp only[cy]at a6;have c7:=aX.ne ((Q.get C b7).trans ae) (.inr ⟨rfl,Gr.nf aX.g⟩);have eV:=fk (an.fr C dB c7.1 c7.2);have fe:=an.ok.low;have fY:=an.ok.sz;simp[f,v,t,F,W,cp,eV];refine⟨k+1,dB,dB,dB,eW,⟨es3,?_⟩,(s.trans (Fm.nb Q)).trans an,by rw[G],dC⟩;rw[show k+1-(p0+1)=(k-(p0+1))+1 by omega,List.range'_concat,show p0+1+1*(k-(p0+1))=k by omega,List.flatMap_append];simp only[bA,cA,bL,List.map_append,<-aV]at a6|-;exact a6
   ·simp[f,v,t,F,W,cp];have bz:M k=[]:=by rw[<-cL];simp only;rw[ao (by rw[K];simp)]
    refine⟨k+1,dB,dB,dB,j,⟨q,?_⟩,s,dC⟩;rw[show k+1-(p0+1)=(k-(p0+1))+1 by omega,List.range'_concat,show p0+1+1*(k-(p0+1))=k by omega,List.flatMap_append];simpa[bz]using B
  ·simp[t,W,c4,ca];refine⟨j,q,?_,s.Vy⟩;simp only;rw[O];unfold js;rw[show k=d.w.dS.length by omega]at B;exact B.out h
 ·exact⟨dB,j,q,by simpa using B,s,by simp[f,v,t,F]⟩
def I1(a:T):ml .kK 0 [a]=some a:=BQ dC 
structure IDl where
 (z:fJ) (bx bl:Nat) (v:T) (es:List T) (gs:List ik)
def Ao(a:fJ)(c:Nat):List ik:=(js c a.w.dS.length).flatMap λ(b:Nat)=>(a.w.gx.J6 b).map gC
def Ul(a:IDl)(c:List T)(b:H):Prop:=c=[a.z.t,QT a.bx a.bl]/\(∃d,b.get a.bx=some (dI 16 d [a.z.t]))/\By b a.bl a.v a.es a.gs/\ij 0 b/\wm a.z/\a.gs.length+(Ao a.z 0).length<=1000000
def Oq(a:IDl)(f:List T)(e:H)(g:T)(b:H):Prop:=∃c d,By b a.bl c d (a.gs++Ao a.z 0)/\Fm e b a.bl a.v c
def Fl:(jF IDl Ul Oq).Ok Tryz.prog cx 24:=by
 refine jv (tb:=⟨pt [],ht [(53,jF Yw (λI h a=>Oc I h a/\5-I.p.length<6) Jd)]⟩) fc fa (je 7231 [] Tryz.func24) (λ_ _=>100) (λI h a ap=>by obtain⟨rfl,_⟩:=ap;simp[Tryz.f24]) ?_;rintro⟨b,s,d,T,X,O⟩ _ a ⟨rfl,⟨aN,F⟩,v,o,G,R⟩ r Q;simp only at F v G R;simp at Q;obtain⟨Y,Z⟩:=Q;have a7:=G.w.ok.len;have aA:(TI.hr a).low<=a.size:=by have:=o.hr.low;simp
 have aE:∀h y e u,d8 ((((TI.hr a).cons h).cons y).cons e) (a.size+1+1) u=(((TI.hr a).cons h).cons y).cons u:=λh y e u=>BZ _ _ _ _ rfl dD;simp[Tryz.f24,Y,Z,aE,QT,I1];generalize f:H.cons _ _=m;have S:ij a.size m:=by rw[<-f];exact(((⟨o.hr.hp,o.hr.low,au _⟩:ij a.size (TI.hr a)).cons _).cons _).cons _
 have bn:m.size=a.size+1+1+1:=by rw[<-f];rfl
 have J:Nb a m:=by rw[<-f];exact⟨((((Nb.refl o.hr).cons _).cons _).cons _).ok,λe C=>(((((Nb.refl o.hr).cons _).cons _).cons _).get e C).trans (gF a e)⟩
 have V:Yy m b (a.size+1) a.size (a.size+1+1) s d:=⟨⟨0,by rw[<-f];simp[QT]⟩,⟨0,by rw[<-f];simp⟩,⟨1,by rw[<-f];simp[Sw]⟩,⟨aN,(J.get s (H.eJ F)).trans F⟩⟩;clear f;refine sr b.w.dS.length (λk r c=>∃q t i,By c d q t i/\i++Ao b k=O++Ao b 0/\Yy c b (a.size+1) a.size (a.size+1+1) s d/\Fm m c d T q/\dJ r 4 (.ptr (a.size+1+1) 0 0 0)/\dJ r 10 (dG b.w.dS.length)/\dJ r 11 (dG k)) ?_ dB (k:=0) dB ⟨T,X,O,v.nb J,rfl,V,Fm.nb ⟨⟨S.hp,S.low,au _⟩,λ_ _=>rfl⟩,dC⟩;rintro k r c a6 ⟨q,t,i,j,g,z,l,P,A,B⟩;have K:ij 0 c:=⟨l.ok.hp,l.ok.low,aw _⟩;obtain⟨bi,L⟩:=z.e3;by_cases D:k<b.w.dS.length
 ·have al:binop .add (dG (k:Int)) (dG 1)=some (dG ((k:Int)+1)):=iy dB dB;have E:Ao b k=(b.w.gx.J6 k).map gC++Ao b (k+1):=by unfold Ao;rw[m9 D];rfl
  rw[E]at g;have an:i.length+(b.w.gx.J6 k).length<=1000000:=by
   have:=bP List.length g;simp at this R;omega
  have bp:=l.ok.sz;have M:=L;simp only[Sw]at M;have a8:(a.size+1+1=c.size)=False:=by have:=H.eJ L;simp;omega
  have aA:=K.low;simp[P,A,B,D,M];have n:Nb c (c.cons (dI 1 0 [dG k])):=(Nb.refl K).cons _;have aX:d<a.size:=by obtain⟨bk,g⟩:=v.gl;exact H.eJ g
  refine iu (VJ 6) dC ⟨b,[(k:Int)],.arr c.size 0 0 1 false,a.size+1,a.size,a.size+1+1,s,d,q,t,i⟩ ⟨⟨rfl,z.fm j (Fm.nb n),j.nb n,K.cons _,G,.inr ⟨c.size,0,0,true,[dG k],rfl,dC,rfl⟩,λe C=> ?_,dC,dC,λu av=> ?_,an⟩,dC⟩ ?_
  ·simp at C;show e≠d;omega
  ·rw[List.mem_singleton.1 av];exact fw.2 ⟨dB,dE⟩
  rintro _ ae ⟨U,A4,x,N⟩;have W:=(z.fm j (Fm.nb n)).fm (j.nb n) N;have x:By ae d U A4 (i++(b.w.gx.J6 k).map gC):=x;simp[P,A,B,al];exact⟨k+1,dB,dB,U,A4,_,x,by rw[aV];exact g,W,(l.trans (Fm.nb n)).trans N,dC⟩
 ·have E:Ao b k=[]:=by unfold Ao;rw[ox dB];rfl
  rw[E,bL]at g;subst g;simp[A,B,D];exact⟨q,t,j.out a,((Fm.nb J).trans l).Vy⟩
def zt:iq:=⟨fF,λa=>[a.t],λa=>ny a,λa=>sl (a.gx.mX.map ik.t),λc d b=>by simp at b;rw[fF.inj b]⟩
def QA{b:fN}(ht:b.p 21=some pV)(a:fF)(c:ny a):rl Tryz.prog cx b 21 [a.t]=some (.tuple [fJ.t ⟨a,a.gx.st⟩,.bool true]):=iv ht EB a c
structure Ko(w:fF)(h:H)(v:T)(es:List T)(gs:List ik):Prop where
 ac:By h 2 v es gs
 ok:ij 3 h
 b0:h.get 0=some (dI 15 0 [w.t])
 b1:h.get 1=some (dI 16 1 [fJ.t ⟨w,w.gx.st⟩])
def Ko.fm{k:fF}{i c:H}{d e:T}{m f:List T}{n h:List ik}(a:Ko k i d m n)(b:Fm i c 2 d e)(l:By c 2 e f h):Ko k c e f h:=by
 have r:=a.ok.sz;have p:=a.ac.ne a.b1 (.inl rfl);have o:dU d≠some 0:=λq=>by
  obtain⟨_,_,_,_,j,_⟩:=a.ac.g.box q;rw[a.b0]at j;simp at j
 exact⟨l,⟨b.ok.hp,b.ok.low,by have:=b.ok.sz;omega⟩,(b.fr 0 dB dB o).trans a.b0,(b.fr 1 dB dB p.2).trans a.b1⟩
def Ko.len{b:fF}{g:H}{l:T}{e:List T}{c d:List ik}(k:Ko b g l e c)(j:ny b)(i:c++d=b.gx.mX):e.length<=1000000/\c.length+d.length<=1000000:=by
 have h:=k.ac.a.length;have f:=EH b.gx j.ok.len;rw[<-GX.yI,<-i]at f;simp at h f;omega
def ny.Xj{a:fF}(b:ny a):wm ⟨a,a.gx.st⟩:=⟨b,rfl⟩
def Ko.pre{b:fF}{e:H}{i:T}{d:List T}{c j:List ik}(a:Ko b e i d c)(h:ny b)(k:c++j=b.gx.mX){g:ik}(f:g.jD=[]):KL ⟨⟨b,b.gx.st⟩,g,dH,1,2,i,d,c⟩ [F1 g dH,.ptr 1 0 0 0,.ptr 2 0 0 0] e:=
 ⟨rfl,⟨1,a.b1⟩,a.ac,⟨a.ok.hp,a.ok.low,aw _⟩,h.Xj,(a.len h k).1,by simp[f],by simp[f];exact Gr.nil _ _,λm l=>by simp at l⟩
def RT:zt.Ok Tryz.prog cx 10:=by
 refine iC (tb:=⟨pt [(21,pV),(25,sL)],ht [(22,jF IAd KL Ji),(24,jF IDl Ul Oq)]⟩) fc fa (je 40953575029616206113996799 [] Tryz.func10) (λ_=>100) (by simp[zt]) (by simp[zt,Tryz.f10]) ?_;rintro(d:fF) G b a7;replace G:ny d:=G;simp[zt]at a7|-;have cp:=G.ok.len;obtain⟨c,bn⟩:∃c,c=d.dS.length:=⟨_,rfl⟩;have T:d.gx.mX=((js 0 c).flatMap λ(j:Nat)=>(js (j+1) c).flatMap λ(r:Nat)=>jr d.gx.vG (gR j r))++(Ao ⟨d,d.gx.st⟩ 0++(((js 0 c).flatMap λ(j:Nat)=>(js 0 j).flatMap λ(r:Nat)=>jr d.gx.vG (gL j r))++
  ((js 0 c).flatMap λ(j:Nat)=>(js (j+1) c).flatMap λ(r:Nat)=>if d.gx.Ir j r=true then(js 0 c).flatMap λ(l:Nat)=>(js l c).flatMap λ(v:Nat)=>jr d.gx.vG (gA j r l v)else []))):=by
  unfold GX.mX Ao;rw[show d.gx.n=c from bn.symm];simp only[IN,aV,<-bn]
 generalize bH:((js 0 c).flatMap λ(j:Nat)=>(js (j+1) c).flatMap λ(r:Nat)=>if d.gx.Ir j r=true then(js 0 c).flatMap λ(l:Nat)=>(js l c).flatMap λ(v:Nat)=>jr d.gx.vG (gA j r l v)else [])=W at T;generalize bC:((js 0 c).flatMap λ(j:Nat)=>(js 0 j).flatMap λ(r:Nat)=>jr d.gx.vG (gL j r))++W=bp at T;generalize bB:Ao ⟨d,d.gx.st⟩ 0++bp=an at T;have b7:(d.dS.length:Int)=c:=dB;simp[Tryz.f10,a7,b7,QA,G];refine sr c (λk b y=>∃o m f,Ko d y o m f/\f++(((js k c).flatMap λ(j:Nat)=>(js (j+1) c).flatMap λ(r:Nat)=>jr d.gx.vG (gR j r))++an)=d.gx.mX/\dJ b 1 (.ptr 0 0 0 0)/\dJ b 3 (.ptr 1 0 0 0)/\dJ b 5 (.ptr 2 0 0 0)/\dJ b 6 (.func 22 [.ptr 1 0 0 0,.ptr 2 0 0 0])/\dJ b 7 (dG c)/\dJ b 27 (dG c)/\dJ b 28 (dG k)) ?_ dB (k:=0) dB ?_
 ·rintro k b y bk ⟨o,m,f,h,e,z,w,x,u,s,J,K⟩;by_cases A:k<c
  ·have N:=pQ A dB;rw[m9 A,bA,aV]at e;simp[J,K,A,N];refine sr c (λi b y=>∃o m f,Ko d y o m f/\f++(((js i c).flatMap λ(r:Nat)=>jr d.gx.vG (gR k r))++(((js (k+1) c).flatMap λ(j:Nat)=>(js (j+1) c).flatMap λ(r:Nat)=>jr d.gx.vG (gR j r))++an))=d.gx.mX/\dJ b 1 (.ptr 0 0 0 0)/\dJ b 3 (.ptr 1 0 0 0)/\dJ b 5 (.ptr 2 0 0 0)/\dJ b 6 (.func 22 [.ptr 1 0 0 0,.ptr 2 0 0 0])/\dJ b 7 (dG c)/\dJ b 8 (dG k)/\dJ b 27 (dG c)/\dJ b 28 (dG k)/\dJ b 9 (dG i)) ?_ dB (k:=k+1) dB ⟨o,m,f,h,e,by simp[z,w,x,u,s,J,K]⟩;rintro i b y bi ⟨o,m,f,h,e,z,w,x,u,s,aX,J,K,ae⟩;by_cases D:i<c
   ·have R:=pQ D dB;rw[m9 D,bA]at e;have S:=h.pre G e (g:=gR k i) rfl;rw[aV,<-aV]at e;simp[u,s,aX,ae,D];refine iu KX dC _ S ?_;rintro _ aN ⟨O,A4,H,I⟩;simp[z,w,x,u,s,aX,ae,J,K,R];exact⟨i+1,dB,dB,O,A4,_,h.fm I H,e,dC⟩
   ·rw[ox (show c<=i by omega)]at e;simp[z,w,x,u,s,ae,J,K,D,N];exact⟨k+1,dB,dB,o,m,f,h,e,dC⟩
  ·rw[ox (show c<=k by omega)]at e;simp[w,u,J,K,A,h.b1];clear A J K;rw[<-bB,cA,cz]at e;have a8:=h.len G e;refine iu Fl dC ⟨⟨d,d.gx.st⟩,1,2,o,m,f⟩ ⟨rfl,⟨1,h.b1⟩,h.ac,⟨h.ok.hp,h.ok.low,aw _⟩,G.Xj,by have:=a8.2;simp at this|-;omega⟩ ?_;rintro _ b9 ⟨O,A4,H,I⟩;have al:=h.fm I H;rw[<-aV]at e;simp only at al;clear h H I a8;simp[s];rw[<-bC]at e;generalize f++Ao ⟨d,d.gx.st⟩ 0=bz at*
   refine sr c (λk b y=>∃o m f,Ko d y o m f/\f++(((js k c).flatMap λ(j:Nat)=>(js 0 j).flatMap λ(r:Nat)=>jr d.gx.vG (gL j r))++W)=d.gx.mX/\dJ b 1 (.ptr 0 0 0 0)/\dJ b 3 (.ptr 1 0 0 0)/\dJ b 5 (.ptr 2 0 0 0)/\dJ b 6 (.func 22 [.ptr 1 0 0 0,.ptr 2 0 0 0])/\dJ b 7 (dG c)/\dJ b 47 (dG c)/\dJ b 48 (dG k)) ?_ dB (k:=0) dB ⟨O,A4,bz,al,e,by simp[z,w,x,u,s]⟩;rintro k b y bk ⟨o,m,f,h,e,z,w,x,u,s,L,M⟩;by_cases A:k<c
   ·have N:=pQ A dB;rw[m9 A,bA,aV]at e;simp[L,M,A];refine sr k (λi b y=>∃o m f,Ko d y o m f/\f++(((js i k).flatMap λ(r:Nat)=>jr d.gx.vG (gL k r))++(((js (k+1) c).flatMap λ(j:Nat)=>(js 0 j).flatMap λ(r:Nat)=>jr d.gx.vG (gL j r))++W))=d.gx.mX/\dJ b 1 (.ptr 0 0 0 0)/\dJ b 3 (.ptr 1 0 0 0)/\dJ b 5 (.ptr 2 0 0 0)/\dJ b 6 (.func 22 [.ptr 1 0 0 0,.ptr 2 0 0 0])/\dJ b 7 (dG c)/\dJ b 10 (dG k)/\dJ b 47 (dG c)/\dJ b 48 (dG k)/\dJ b 51 (dG k)/\dJ b 52 (dG i)) ?_ dB (k:=0) dB ⟨o,m,f,h,e,by simp[z,w,x,u,s,L,M]⟩;rintro i b y bi ⟨o,m,f,h,e,z,w,x,u,s,aA,L,M,Y,Z⟩;by_cases D:i<k
    ·have R:=pQ (show i<c by omega) dB;rw[m9 D,bA]at e;have S:=h.pre G e (g:=gL k i) rfl;rw[aV,<-aV]at e;simp[u,aA,Y,Z,D];refine iu KX dC _ S ?_;rintro _ aN ⟨O,A4,H,I⟩;simp[z,w,x,u,s,aA,L,M,Y,Z,R];exact⟨i+1,dB,dB,O,A4,_,h.fm I H,e,dC⟩
    ·rw[ox (show k<=i by omega)]at e;simp[z,w,x,u,s,L,M,Y,Z,D,N];exact⟨k+1,dB,dB,o,m,f,h,e,dC⟩
   ·rw[ox (show c<=k by omega)]at e;simp[s,L,M,A];clear A L M;rw[<-bH,cA,cz]at e;refine sr c (λk b y=>∃o m f,Ko d y o m f/\f++((js k c).flatMap λ(j:Nat)=>(js (j+1) c).flatMap λ(r:Nat)=>if d.gx.Ir j r=true then(js 0 c).flatMap λ(l:Nat)=>(js l c).flatMap λ(v:Nat)=>jr d.gx.vG (gA j r l v)else [])=d.gx.mX/\dJ b 1 (.ptr 0 0 0 0)/\dJ b 3 (.ptr 1 0 0 0)/\dJ b 5 (.ptr 2 0 0 0)/\dJ b 6 (.func 22 [.ptr 1 0 0 0,.ptr 2 0 0 0])/\dJ b 7 (dG c)/\dJ b 62 (dG c)/\dJ b 63 (dG k)) ?_ dB (k:=0) dB ⟨o,m,f,h,e,by simp[z,w,x,u,s]⟩;rintro k b y bk ⟨o,m,f,h,e,z,w,x,u,s,B,C⟩;by_cases A:k<c
    ·have N:=pQ A dB;rw[m9 A,bA]at e;simp[B,C,A,N];generalize bS:((js (k+1) c).flatMap λ(j:Nat)=>(js (j+1) c).flatMap λ(r:Nat)=>if d.gx.Ir j r=true then(js 0 c).flatMap λ(l:Nat)=>(js l c).flatMap λ(v:Nat)=>jr d.gx.vG (gA j r l v)else [])=av at e;refine sr c (λi b y=>k<i/\∃o m f,Ko d y o m f/\f++(((js i c).flatMap λ(r:Nat)=>if d.gx.Ir k r=true then(js 0 c).flatMap λ(l:Nat)=>(js l c).flatMap λ(v:Nat)=>jr d.gx.vG (gA k r l v)else [])++av)=d.gx.mX/\dJ b 1 (.ptr 0 0 0 0)/\dJ b 3 (.ptr 1 0 0 0)/\dJ b 5 (.ptr 2 0 0 0)/\dJ b 6 (.func 22 [.ptr 1 0 0 0,.ptr 2 0 0 0])/\dJ b 7 (dG c)/\dJ b 12 (dG k)/\dJ b 13 (dG i)/\dJ b 62 (dG c)/\dJ b 63 (dG k)) ?_ dB (k:=k+1) dB ⟨dB,o,m,f,h,e,by simp[z,w,x,u,s,B,C]⟩;rintro i b y bi ⟨ce,o,m,f,h,e,z,w,x,u,s,F,E,B,C⟩;by_cases D:i<c
     ·have R:=pQ D dB;rw[m9 D,bA,aV]at e;generalize a6:((js (i+1) c).flatMap λ(r:Nat)=>if d.gx.Ir k r=true then(js 0 c).flatMap λ(l:Nat)=>(js l c).flatMap λ(v:Nat)=>jr d.gx.vG (gA k r l v)else [])++av=ap at e;have bu:∀{tb:fN},tb.p 25=some sL->rl Tryz.prog cx tb 25 [fJ.t ⟨d,d.gx.st⟩,dG k,dG i]=some (.bool (d.gx.Ir k i)):=λht=>iv ht Hz (⟨d,d.gx.st⟩,(k:Int),(i:Int)) ⟨G.Xj,(fw.2 ⟨dB,dB⟩:jt (k:Int) d.dS.length=true),(fw.2 ⟨dB,dB⟩:jt (i:Int) d.dS.length=true)⟩;simp[w,s,F,E,D,h.b1,bu];refine em (λq=> ?_) (λq=> ?_)
      ·rw[ao (by rw[show d.gx.Ir k i=false by simpa using q];simp),cz,<-a6]at e;simp[z,w,x,u,s,F,E,B,C,R];exact⟨i+1,dB,dB,dB,o,m,f,h,e,dC⟩
      ·rw[aq (by simpa using q)]at e;simp[s];refine sr c (λl b y=>∃o m f,Ko d y o m f/\f++(((js l c).flatMap λ(l:Nat)=>(js l c).flatMap λ(v:Nat)=>jr d.gx.vG (gA k i l v))++ap)=d.gx.mX/\dJ b 1 (.ptr 0 0 0 0)/\dJ b 3 (.ptr 1 0 0 0)/\dJ b 5 (.ptr 2 0 0 0)/\dJ b 6 (.func 22 [.ptr 1 0 0 0,.ptr 2 0 0 0])/\dJ b 7 (dG c)/\dJ b 12 (dG k)/\dJ b 13 (dG i)/\dJ b 62 (dG c)/\dJ b 63 (dG k)/\dJ b 78 (dG c)/\dJ b 79 (dG l)) ?_ dB (k:=0) dB ⟨o,m,f,h,e,by simp[z,w,x,u,s,F,E,B,C]⟩;rintro l b y ca ⟨o,m,f,h,e,z,w,x,u,s,F,E,B,C,P,Q⟩;by_cases U:l<c
       ·have bT:=pQ U dB;rw[m9 U,bA,aV]at e;simp[P,Q,U];generalize bN:((js (l+1) c).flatMap λ(l:Nat)=>(js l c).flatMap λ(v:Nat)=>jr d.gx.vG (gA k i l v))++ap=bs at e;refine sr c (λv b y=>∃o m f,Ko d y o m f/\f++(((js v c).flatMap λ(v:Nat)=>jr d.gx.vG (gA k i l v))++bs)=d.gx.mX/\dJ b 1 (.ptr 0 0 0 0)/\dJ b 3 (.ptr 1 0 0 0)/\dJ b 5 (.ptr 2 0 0 0)/\dJ b 6 (.func 22 [.ptr 1 0 0 0,.ptr 2 0 0 0])/\dJ b 7 (dG c)/\dJ b 12 (dG k)/\dJ b 13 (dG i)/\dJ b 14 (dG l)/\dJ b 15 (dG v)/\dJ b 62 (dG c)/\dJ b 63 (dG k)/\dJ b 78 (dG c)/\dJ b 79 (dG l)) ?_ dB (k:=l) dB ⟨o,m,f,h,e,by simp[z,w,x,u,s,F,E,B,C,P,Q]⟩;rintro v b y cb ⟨o,m,f,h,e,z,w,x,u,s,F,E,aE,X,B,C,P,Q⟩;by_cases V:v<c
        ·have b6:=pQ V dB;rw[m9 V,bA]at e;have S:=h.pre G e (g:=gA k i l v) rfl;rw[aV,<-aV]at e;simp[u,s,F,E,aE,X,V];refine iu KX dC _ S ?_;rintro _ aN ⟨O,A4,H,I⟩;simp[z,w,x,u,s,F,E,aE,X,B,C,P,Q,b6];exact⟨v+1,dB,dB,O,A4,_,h.fm I H,e,dC⟩
        ·rw[ox (show c<=v by omega)]at e;simp[z,w,x,u,s,F,E,X,B,C,P,Q,V,bT];exact⟨l+1,dB,dB,o,m,f,h,by rw[bN];exact e,dC⟩
       ·rw[ox (show c<=l by omega)]at e;simp[z,w,x,u,s,F,E,B,C,P,Q,U,R];exact⟨i+1,dB,dB,dB,o,m,f,h,by rw[a6];exact e,dC⟩
     ·rw[ox (show c<=i by omega)]at e;simp[z,w,x,u,s,E,B,C,D,N];exact⟨k+1,dB,dB,o,m,f,h,by rw[bS];exact e,dC⟩
    ·rw[ox (show c<=k by omega)]at e;rw[cA,bL]at e;obtain⟨cy,b8⟩:=h.ac.gl;simp[x,B,C,A,b8,h.ac.g.cells,h.ac.g.im];exact⟨h.ok.hp,by rw[Gr.aet h.ac.g dB h.ac.a,e]⟩
 ·refine⟨dH,[],[],⟨⟨⟨0,dC⟩,Gr.nil _ _,.nil⟩,by exact⟨dC,dC,dC⟩,dC,dC⟩,T.symm,dC⟩
end
noncomputable section
open Go Go.TI
attribute [-simp] List.map_take List.map_drop List.map_append fH fh ej Bool.not_or Bool.not_and
attribute [simp] fG fj
def Nu{f:GX}{b:ik}(a:f.vR b=true):b.jD.length<=4:=by
 unfold GX.vR at a;split at a
 ·unfold GX.dead GX.Ie at a;simp only[ay,aJ]at a;exact a.2.1.1.2
 split at a;rotate_left
 ·simp at a
 have e:∀{d:Bool},(decide (b.jD=[])&&d)=true->b.jD.length<=4:=λc=>by
  simp only[ay,aJ]at c;rw[c.1];simp
 split at a
 ·simp only[ay,aJ]at a;rw[a.1.2];simp
 split at a
 ·simp only[ay,aJ]at a;rw[a.1.2];simp
 split at a
 ·exact e a
 ·simp at a
def NQ{a:fF}(d:ny a):a.gx.mX.length<=1000000/\∀b∈a.gx.mX,b.jD.length<=1000000:=by
 rw[GX.yI];refine⟨aS (EH a.gx d.ok.len) dB,λb c=> ?_⟩;have:=Nu (GX.xN c);omega
def WQ{b:fN}(ht:b.p 10=some zt)(a:fF)(c:ny a):rl Tryz.prog cx b 10 [a.t]=some (sl (a.gx.mX.map ik.t)):=iv ht RT a c
def KK:iq:=⟨mN×ik,λa=>[a.1.t,a.2.t],λa=>Q2 a.1,λ_=> .bool true,λ_ _ _=>rfl⟩
def WT{c:fN}(ht:c.p 16=some xD)(a b:ik)(d:a.jD.length<=1000)(e:b.jD.length<=1000):rl Tryz.prog cx c 16 [a.t,b.t]=some (.bool (uZ a b)):=iv ht RV (a,b) ⟨d,e⟩
def WO{c:fN}(ht:c.p 17=some xx)(a b:ik)(d:a.jD.length<=1000000)(e:b.jD.length<=1000000):rl Tryz.prog cx c 17 [a.t,b.t]=some (.bool (decide (a=b))):=iv ht RO (a,b) ⟨d,e⟩
def VE:KK.Ok Tryz.prog cx 7:=by
 refine iC (tb:=⟨pt [(8,OG.jx),(14,sJ),(10,zt),(16,xD),(17,xx),(12,I7)],ht []⟩) fc fa (je 70368745230847 [] Tryz.func7) (λz=>1000005) (by simp[KK]) (by simp[KK,Tryz.f7]) ?_;rintro⟨S,c⟩ P e C;simp[KK]at C|-;obtain⟨I,K⟩:=C;obtain⟨_,⟨d,rfl,v⟩,H⟩:=OG.use S P;simp[Tryz.f7,I,K];refine em (λD=> ?_) (λD=> ?_)
 ·simp
 have hl:c.jD.length<=20:=by simp at D;omega
 have T:=(NQ v).1;have F:∀g∈d.gx.mX,d.gx.vR g=true:=λg y=>GX.xN (by rw[<-GX.yI];exact y);have s:∀g∈d.gx.mX,g.jD.length<=4:=λg y=>Nu (F g y);have O:d.gx.mX.Pairwise (λz G=>uZ z G=true):=by rw[GX.yI];exact GX.HG _
 have L:d.gx.vR c=decide (c∈d.gx.mX):=by
  rw[br,aJ,GX.yI];exact⟨GX.MF,GX.xN⟩
 simp[H,WQ,v];generalize d.gx.mX=b at*
 refine fI b.length dB (λa e h=>ij 3 h/\h.get 1=some (dI 6 0 [c.t])/\h.get 2=some (dI 15 1 [d.t])/\dJ e 3 (.ptr 1 0 0 0)/\dJ e 5 (.ptr 2 0 0 0)/\dJ e 6 (sl (b.map ik.t))/\dJ e 7 (.bool (decide (c∈b.take a)))/\dJ e 8 (dG a)) ?_ ?_ dB ⟨⟨dC,dC,dC⟩,dC⟩
 ·rintro a e h k r ⟨w,l,m,n,o,q,i,j⟩;have u:=aC k;have E:decide (c∈b.take (a+1))=(decide (c∈b.take a)||decide (b[a]=c)):=by
   rw[aW k,br];simp only[aJ,cm,cF,List.mem_singleton];exact or_congr Iff.rfl eq_comm
  have f:=λ{tb:fN} (ht:tb.p 14=some sJ)=>Lr ht d b[a] v (by have:=s _ u;omega);rw[F _ u]at f;have A:=λ{tb:fN} (ht:tb.p 17=some xx)=>WO ht b[a] c (by have:=s _ u;omega) dB;cases a with
  |zero=>
   simp at r;simp[l,m,n,o,q,i,j,k,f,A,r,E];exact w
  |succ a=>
   have x:a<b.length:=dB;have N:uZ b[a] b[a+1]=true:=List.pairwise_iff_getElem.1 O a (a+1) x k dB;have B:=λ{tb:fN} (ht:tb.p 16=some xD)=>WT ht b[a] b[a+1] (by have:=s _ (aC x);omega) (by have:=s _ u;omega);rw[N]at B;have Q:binop .sub (dG ((a:Int)+1)) (dG 1)=some (dG a):=BJ dB dB dB;have M:(a:Int)+1<b.length:=dB;have R:ka ((a:Int)+1)=some (a+1):=(eQ dB).trans (by congr 1);have J:(0:Int)<(a:Int)+1:=dB;simp at r j;simp[l,m,n,o,q,i,j,k,x,M,R,J,f,A,B,Q,r,E];exact w
 ·rintro e h ⟨w,l,m,n,o,q,i,j⟩;rw[aL]at i;have f:=λ{tb:fN} (ht:tb.p 14=some sJ)=>Lr ht d c v dB;rw[L]at f;simp[l,m,n,o,q,i,j,f,W8,w.hp]
  done
end
end Go.Proofs.YtmaeadedikngoaaGreatDoor
