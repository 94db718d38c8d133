/- W01 -/
import Derived.Test.YtajpdafdickapaaGreatDoorA15
import Derived.Test.YtajpdafdickapaaGreatDoorA11
set_option linter.all false
set_option maxRecDepth 100000
set_option maxHeartbeats 8000000
namespace Go.Proofs.YtajpdafdickapaaGreatDoor
noncomputable section
open Go Go.TI Tryz
attribute [-simp] List.map_take List.map_drop List.map_append fy fa eg Bool.not_or Bool.not_and
attribute [simp] fw fc
def okB(a:List Int):Prop:=a.length<=140737488351232/\∀x∈a,0<=x/\x<256
def Tp(b:List Int)(c:Nat)(d:H):Prop:=∃e a,d.get c=some (dE 2 e [.agg [sl (b.map (T.int .u8)),Z a]])/\0<=a
structure Ak where
 (L:List Int) (b:Nat) (n:Int)
def uS(a:Ak)(d:List T)(c:H):Prop:=d=[.ptr a.b 0 0 0,Z a.n]/\Tp a.L a.b c/\il 0 c/\1<=a.n/\a.n<=100/\okB a.L
def sa(a:Ak)(g:List T)(e:H)(f:T)(d:H):Prop:=∃c,f= Z c/\0<=c/\c<a.n/\Tp a.L a.b d/\Sm a.b e d
def _root_.Go.TI.Sm.out{b:Nat}{h c:H}(a:Sm b (TI.hr h) c):Sm b h (md h c):=⟨a.ok.out h,a.size,λd e=>by rw[fV,a.get d e,ik]⟩
def CZ{k:ak}{a b:Int}(d:¬b=0):binop .rem (.int k a) (.int k b)=some (.int k (a.tmod b)):=by
 have c:Sl b 0=false:=by rw[yA];simp[d]
 unfold binop;simp[xF,c]
def P5:(jM Ak uS sa).Ok prog cx 77:=by
 refine jB (tb:=⟨pt [],ht []⟩) iR iE (iX 262163 [] func77) (λ_ _=>5) (λE a h z=>by obtain⟨rfl,_⟩:=z;simp[f77]) ?_;rintro⟨c,f,k⟩ _ h ⟨rfl,⟨g,b,e,q⟩,r,w,y,s,n⟩ F o;simp only at e q w y s n;simp at o;obtain⟨i,m⟩:=o;simp[f77,i,m,e];refine ej (λj=>?_) (λj=>?_)
 ·simp[j];exact⟨0,rfl,Int.le_refl _,dA,⟨g,b,by rw[fV,ik];exact e,q⟩,Sm.out (Sm.refl r.hr)⟩
 ·simp at j;have B:IntKind.i64.wrap (b+1)=b+1:=by rw[<-jA];exact jH J J
  have C:IntKind.i64.wrap b=b:=by rw[<-jA];exact jH J J
  have A:Sm f (hr h) _:=(Sm.refl r.hr).put (x:=(dE 2 g [.agg [sl (c.map (T.int .u8)),Z b]])) (by rw[ik];exact e) (dE 2 (g+1) [.agg [sl (c.map (T.int .u8)),Z (b+1)]]);have l:(dZ (hr h) f (dE 2 (g+1) [.agg [sl (c.map (T.int .u8)),Z (b+1)]])).get f=_:=(dN (h:=hr h) (by rw[ik];exact e) _ f).trans (ar rfl);simp[i,e,oG,dX,B];generalize dZ (hr h) f _=D at*
  obtain⟨d,rfl⟩:∃d:Nat,b=d:=⟨b.toNat,J⟩;have p:d<c.length:=J;have t:=n c[d] (aF p);have u: -9223372036854775808<=c[d]:=J;have v:c[d]<9223372036854775808:=J;have t0:=Int.tmod_nonneg k t.1;have t1:=Int.tmod_lt_of_pos c[d] (show 0<k by omega);simp[i,m,l,qS,C,p,u,v,CZ (a:=c[d]) (show¬k=0 by omega)];exact⟨_,rfl,t0,t1,⟨_,_,by rw[fV];exact l,J⟩,Sm.out A⟩
def JR:gG:=⟨Int,λa=>[Z a],λ_=>True,λa=>(dU.mk 1 a [] []).t,λa c b=>by simp at b;rw[b]⟩
def abe:JR.Ok prog cx 138:=by
 refine fZ [] (iX 5 [] func138) (λ_=>5) (by simp[JR]) ?_;rintro a _ c b;simp[JR]at a b|-;simp[f138,b];simpa using dU.fold 1 a [] []
def Ue{b:fJ}(ht:b.p 138=some JR)(a:Int):rl prog cx b 138 [Z a]=some (dU.mk 1 a [] []).t:=im ht abe a trivial
def MZ:gG:=⟨List Nat,λa=>[.str a],λ_=>True,λa=>(dU.mk 2 0 a []).t,λa c b=>by simp at b;rw[b]⟩
def abf:MZ.Ok prog cx 223:=by
 refine fZ [] (iX 5 [] func223) (λ_=>5) (by simp[MZ]) ?_;rintro a _ c b;simp[MZ]at a b|-;simp[f223,b];simpa using dU.fold 2 0 a []
def Uf{b:fJ}(ht:b.p 223=some MZ)(a:List Nat):rl prog cx b 223 [.str a]=some (dU.mk 2 0 a []).t:=im ht abf a trivial
def M0:gG:=⟨Int×dU×dU,λa=>[Z a.1,a.2.1.t,a.2.2.t],λ_=>True,λa=>(dU.mk a.1 0 [] [a.2.1,a.2.2]).t,λa c b=>by
 simp at b;rw[b.1,dU.inj b.2.1,dU.inj b.2.2]⟩
def abh:M0.Ok prog cx 222:=by
 refine fZ [] (iX 119 [] func222) (λ_=>5) (by simp[M0]) ?_;rintro⟨d,b,c⟩ _ e a;simp[M0]at a|-;simp[f222,a,ig];simpa using dU.fold d 0 [] [b,c]
def X7{d:fJ}(ht:d.p 222=some M0)(c:Int)(a b:dU):rl prog cx d 222 [Z c,a.t,b.t]=some (dU.mk c 0 [] [a,b]).t:=im ht abh (c,a,b) trivial
def M1:gG:=⟨List Nat×dU,λa=>[.str a.1,a.2.t],λ_=>True,λa=>(dO.mk 1 0 a.1 [] [] a.2 [] []).t,λa c b=>by
 simp at b;rw[b.1,dU.inj b.2]⟩
def abi:M1.Ok prog cx 137:=by
 refine fZ [] (iX 27 [] func137) (λ_=>5) (by simp[M1]) ?_;rintro⟨b,c⟩ _ d a;simp[M1]at a|-;simp[f137,a];rw[dO.nP];rfl
def vK:List iA:=[⟨1,0,[120],0,0,[]⟩,⟨1,0,[121],0,1,[]⟩,⟨2,0,[118],0,0,[]⟩,⟨1,0,[113],2,0,[]⟩,⟨3,0,[109],0,0,[]⟩,⟨3,0,[110],0,0,[]⟩,⟨4,0,[114],0,0,[]⟩,⟨5,0,[99],0,0,[109]⟩,⟨6,0,[102],0,0,[]⟩]
def Db:gG:=⟨Unit,λ_=>[],λ_=>True,λ_=>sl (vK.map iA.t),λ_ _ _=>rfl⟩
def Tj:Db.Ok prog cx 135:=by
 refine fZ [] (iX 1 [] func135) (λ_=>5) (by simp[Db]) ?_;rintro _ _ b a;simp[Db]at a|-;simp[f135,ig,vK]
def RD{a:fJ}(ht:a.p 135=some Db):rl prog cx a 135 []=some (sl (vK.map iA.t)):=im ht Tj () trivial
def sU{c:fJ}(ht:c.p 137=some M1)(a:List Nat)(b:dU):rl prog cx c 137 [.str a,b.t]=some (dO.mk 1 0 a [] [] b [] []).t:=im ht abi (a,b) trivial
def sS(b:Nat)(e left:Int)(set f a d:Bool)(c:T):List T:=[.ptr b 0 0 0,Z e,Z left,.bool set,.bool f,.bool a,.bool d,c]
structure Mk(L:List Int)(n:Nat)(h:H)(m b:Nat):Prop where
 ok:il 0 h
 fp:∀c,Fp h m c->c<h.size
 tp:Tp L b h
 ex:∃ver th left set tx at' lp hv,∃hs:List (List Nat),h.get m=some (dE 8 ver [.agg (sS b th left set tx at' lp hv)])/\Gr h hv 1 (hs.map T.str)/\hs.length=n
def Mk.ne{e:List Int}{h:Nat}{g:H}{d b:Nat}(c:Mk e h g d b):d≠b:=λi=>by
 have⟨k,j,f,_⟩:=c.tp;have⟨_,_,_,_,_,_,_,_,_,a,_⟩:=c.ex;rw[i,f]at a;simp at a
def Mk.lt{c:List Int}{f:Nat}{b:H}{a d:Nat}(e:Mk c f b a d):a<b.size:=e.fp a (.inl rfl)
def Mk.fpb{d:List Int}{g:Nat}{b:H}{c a:Nat}(f:Mk d g b c a):Fp b c a:=by
 have⟨_,_,_,_,_,_,_,_,_,e,_⟩:=f.ex;exact .inr ⟨_,e,_,by simp[fF,T.cells,sS];exact .inl rfl,rfl⟩
def Mk.tape{i:List Int}{m:Nat}{h e:H}{d g:Nat}(f:Mk i m h d g)(a:Sm g h e)(v:Tp i g e):Mk i m e d g/\Step d h e:=by
 have j:e.get d=h.get d:=a.get d f.ne;have⟨z,C,p,_⟩:=f.tp;have⟨y,w,left,set,x,o,u,t,s,q,l,hl⟩:=f.ex;refine⟨⟨a.ok,λc b=>by rw[iT j]at b;rw[a.size];exact f.fp c b,v,y,w,left,set,x,o,u,t,s,by rw[j];exact q,l.mono λc b=>a.get c λk=>?_,hl⟩,⟨a.ok.hp,a.ok.low,by rw[a.size];exact aw _⟩,λc _ r=>a.get c λk=>r (by rw[k];exact f.fpb),λc b=>by rw[iT j]at b;exact .inl b⟩;have⟨A,z,B,D,n,_⟩:=l.box b;rw[k,p]at n;simp at n
structure Tw(L:List Int)(b:Nat)(h h':H):Prop where
 ok:il 0 h'
 size:h.size<=h'.size
 get:∀c,c<h.size->c≠b->h'.get c=h.get c
 tp:Tp L b h'
def Tw.refl{b:List Int}{c:Nat}{a:H}(d:il 0 a)(e:Tp b c a):Tw b c a a:=⟨d,aw _,λ_ _ _=>rfl,e⟩
def Tp.lt{c:List Int}{a:Nat}{b:H}(e:Tp c a b):a<b.size:=by
 obtain⟨_,_,d,_⟩:=e;exact H.fh d
def Tp.eq{b:List Int}{a:Nat}{c d:H}(i:Tp b a c)(f:d.get a=c.get a):Tp b a d:=by
 obtain⟨j,g,e,h⟩:=i;exact⟨j,g,by rw[f];exact e,h⟩
theorem Tw.cons{a:List Int}{b:Nat}{c d:H}(w:Tw a b c d)(e:iY):Tw a b c (d.cons e):=
 ⟨w.ok.cons e,by have:=w.size;simp;omega,λf g h=>by rw[dS,aq (by have:=w.size;omega)];exact w.get f g h,w.tp.eq (by rw[dS,aq (by have:=w.tp.lt;omega)])⟩
theorem Tw.put{f:List Int}{d:Nat}{a e:H}(b:Tw f d a e){c:Nat}{x:iY}(g:e.get c=some x)(m:a.size<=c)(l:d<a.size)(h:iY):Tw f d a (dZ e c h):=
 ⟨b.ok.put c h,by rw[fK];exact b.size,λi j k=>by rw[dN g,aq J];exact b.get i j k,b.tp.eq (by rw[dN g,aq J])⟩
def Tw.call{b:List Int}{a:Nat}{f g c:H}(i:Tw b a f g)(d:Sm a g c)(k:Tp b a c):Tw b a f c:=
 ⟨d.ok,by rw[d.size];exact i.size,λe j h=>(d.get e h).trans (i.get e j h),k⟩
def Tw.cut{j:List Int}{e:Nat}{a d:H}(b:Tw j e (TI.hr a) d)(A:il 0 a)(v:e<a.size){p q:T}{o:T->H->Prop}(x:∃i,jn d a.size p=some i/\cn i=q)
 (z:Sm e a (u9 a d)->Tp j e (u9 a d)->o q (u9 a d)):yK a p d o:=by
 obtain⟨i,u,rfl⟩:=x;have h:a.size<=d.size:=b.size;refine⟨b.ok.hp,h,λc B w l=>?_,i,u,z ⟨A.cut b.ok.hp h,rfl,λc y=>?_⟩ (b.tp.eq (z9 b.ok.hp h v))⟩
 ·by_cases f:c=e
  ·have⟨r,D,t,_⟩:=b.tp;rw[f,t]at l;cases l;refine .inr λr k=>(DD r ?_).mono (ax _);simp[fF,T.cells]at k;rcases k with rfl|rfl<;>simp
  ·exact .inl ((b.get c w f).trans (ik a c))
 ·by_cases f:c<a.size
  ·rw[z9 b.ok.hp h f,b.get c f y,ik]
  ·have m:∀g:H,g.size=a.size->g.get c=none:=λg C=>by
    cases s:g.get c with
    |none=>rfl
    |some B=>have:=H.fh s;omega
   rw[m (u9 a d) rfl,m a rfl]
def Mk.tw{h:List Int}{m:Nat}{a f:H}{b i:Nat}(c:Mk h m a b i)(d:Tw h i (TI.hr a) f):Mk h m f b i:=by
 have l:f.get b=a.get b:=(d.get b c.lt c.ne).trans (ik a b);have⟨x,B,o,_⟩:=c.tp;have⟨w,u,left,set,v,n,s,r,q,p,k,hl⟩:=c.ex;have A:a.size<=f.size:=d.size;refine⟨d.ok,λe g=>by rw[iT l]at g;have:=c.fp e g;omega,d.tp,w,u,left,set,v,n,s,r,q,by rw[l];exact p,k.mono λe g=>?_,hl⟩;have⟨y,x,z,C,j,_⟩:=k.box g;exact(d.get e (H.fh j) λt=>by rw[t,o]at j;simp at j).trans (ik a e)
def sK{g:fJ}{l:Nat}{e:List Int}{b:Nat}{d:Int}{f:H}{m:af Oper}{j:aa Tmp}{k:List Oper}{o n:fW}{i:iS}(ht:g.h 77=some (jM Ak uS sa))(y:Tp e b f)(u:il 0 f)(q:1<=d)(r:d<=100)(s:okB e)
 (p:∀(a:Nat) c,(a:Int)<d->Tp e b c->Sm b f c->XK (some (Z a,c)) cx (qZ prog cx g) l m j k o n i):XK (hl prog cx g 77 [.ptr b 0 0 0,Z d] f) cx (qZ prog cx g) l m j k o n i:=
 iC P5 ht ⟨e,b,d⟩ ⟨rfl,y,u,q,r,s⟩ (by
  rintro _ c ⟨a,rfl,z,v,w,x⟩;obtain⟨a,rfl⟩:∃t:Nat,a=t:=⟨a.toNat,J⟩;exact p a c v w x)
def KW{i:fJ}{p:Nat}{f:List Int}{c:Nat}{e:Int}{b:H}{r:af Oper}{k:List (Nat×Nat)}{l:aa Tmp}{q:Op}{n:List Oper}{g:Nat}{o:List (Nat×Nat)}{m:List (Nat×H×H)}{t s:fW}{j:iS}(ht:i.h 77=some (jM Ak uS sa))(C:Tp f c b)(y:il 0 b)(v:1<=e)(w:e<=100)(x:okB f)
 (u:∀(a:Nat) d,(a:Int)<e->Tp f c d->Sm c b d->Sb (some (Z a,d)) cx (qZ prog cx i) p r k l q n g o m t s b j):Sb (hl prog cx i 77 [.ptr c 0 0 0,Z e] b) cx (qZ prog cx i) p r k l q n g o m t s b j:=
 mF P5 ht ⟨f,c,e⟩ ⟨rfl,C,y,v,w,x⟩ (by
  rintro _ d ⟨a,rfl,D,z,A,B⟩;obtain⟨a,rfl⟩:∃g:Nat,a=g:=⟨a.toNat,J⟩;exact u a d z A B)
def dU.ft{b:H}{V:Nat->Prop}(a:dU)(d:Nat):FT b V (d+2) a.t a.t:= .inr (.inr ⟨_,_,a.nP,.cons (gW ..) (.cons (gW ..) (.cons (ko ..) (.cons (pF _ _ _ λe c=>by obtain⟨f,_,rfl⟩:=List.mem_map.1 c;simp) .nil))),a.nP⟩)
structure UC where
 (L:List Int) (m b n d:Nat)
def Ww(a:UC)(c:List T)(e:H):Prop:=c=[.ptr a.m 0 0 0,Z a.d]/\Mk a.L a.n e a.m a.b/\okB a.L/\a.d<=10
def Lx(a:UC)(h:List T)(f:H)(g:T)(e:H):Prop:=∃c:dU,g=c.t/\ME c/\c.w<=3^a.d/\Tp a.L a.b e/\Sm a.b f e
def G5{f:List Int}{m e n d:Nat}{b c:H}{z:iY}{a k:Int}{s:List Nat}{v:T}{l:List dU}{args:List T}(q:il 0 b)(h:e<b.size)(y:Tw f e (TI.hr b) c)(g:c.get b.size=some z)
 (o:FT (dZ c b.size (dE 4 1 [.agg [Z a,Z k,.str s,v]])) (λi=>b.size<=i) 11 v (sl (l.map dU.t))) (j:ME ⟨a,k,s,l⟩) (p:(dU.mk a k s l).w<=3^d):
 (dZ c b.size (dE 4 1 [.agg [Z a,Z k,.str s,v]])).get b.size=some (dE 4 1 [.agg [Z a,Z k,.str s,v]])/\
 yK b (.agg [Z a,Z k,.str s,v]) (dZ c b.size (dE 4 1 [.agg [Z a,Z k,.str s,v]])) (Lx ⟨f,m,e,n,d⟩ args b):=
 ⟨(dN g _ _).trans (ar rfl),(y.put g (aw _) h _).cut q h (FT.top (aw 11) (λ_ r=>r) (.cons (gW ..) (.cons (gW ..) (.cons (ko ..) (.cons o .nil))))) λu x=>⟨⟨a,k,s,l⟩,(dU.nP ⟨a,k,s,l⟩).symm,j,p,x,u⟩⟩
abbrev Pa(e:Nat):li:=jM UC (λa b c=>Ww a b c/\a.d<e) Lx
def Q3(k:Nat)(Q:(Pa k).Ok prog cx 221):(Pa (k+1)).Ok prog cx 221:=by
 refine rC (tb:=⟨pt [(138,JR),(223,MZ),(222,M0)],ht [(77,jM Ak uS sa),(221,Pa k)]⟩) iR iE (iX 35186519589107 [(10,[(8,13),(9,13),(8,17),(9,17)])] func221) (λ_ _=>5) (λi a e bn=>by obtain⟨⟨rfl,_⟩,_⟩:=bn;simp[f221]) ?_;rintro⟨G,m,A,n,d⟩ _ e ⟨⟨rfl,b,r,aX⟩,a6⟩ dd W;simp only at b r aX a6;simp at W;obtain⟨w,L⟩:=W;have⟨c9,c4,left,set,c6,bT,c1,cb,ca,I,b6,hl⟩:=b.ex;simp only[sS]at I;have bi:=b.lt;have a7:(m=e.size)=False:=dz;have a8:(m=e.size+1)=False:=dz;simp[f221,w,I,a7,a8];have F:=((Tw.refl b.ok.hr (b.tp.eq (ik e A))).cons (dE 4 0 [.agg [Z 0,Z 0,.str [],dD]])).cons (dE 1 0 [.str [97],.str [98],.str [120],.str [121],.str [118],.str [120],.str [121]]);refine sK dy F.tp F.ok J J r λcL p b8 t2 D=>?_;have C:=b.tp.lt;have f:=F.call D t2;have gR:p.get e.size=some (dE 4 0 [.agg [Z 0,Z 0,.str [],dD]]):=(D.get _ J).trans dy;have gN:p.get (e.size+1)=some (dE 1 0 [.str [97],.str [98],.str [120],.str [121],.str [118],.str [120],.str [121]]):=(D.get _ J).trans dy;have K:=((f.get m bi b.ne).trans (ik e m)).trans I;clear D F;simp[L];refine ej (λO=>?_) (λO=>?_)
 ·simp[w,K];refine sK dy f.tp f.ok J J r λg q _ t3 h=>?_;have j:=f.call h t3;have gR:=(h.get _ J).trans gR;have fin:=G5 (m:=m) (n:=n) (d:=d) (v:=sl []) (l:=[]) (args:=[.ptr m 0 0 0,Z d]) b.ok C j gR (pF _ _ _ dy) (.num g) (by rw[dU.lF];simp only[dU.GD,dU.iW];exact Nat.pow_pos J);simp[Ue,gR,fin.1];exact fin.2
 simp;refine ej (λM=>?_) (λM=>?_)
 ·simp[w,K];refine sK dy f.tp f.ok J J r λg q X t3 h=>?_;have j:=f.call h t3;have gR:=(h.get _ J).trans gR;have gN:=(h.get _ J).trans gN;have o:∃s:List Nat,([.str [97],.str [98],.str [120],.str [121],.str [118],.str [120],.str [121]]:List T)[g]? =some (.str s):=by
   rcases(by omega:g=0\/g=1\/g=2\/g=3\/g=4\/g=5\/g=6)with rfl|rfl|rfl|rfl|rfl|rfl|rfl<;>exact⟨_,rfl⟩
  obtain⟨s,o⟩:=o;generalize([.str [97],.str [98],.str [120],.str [121],.str [118],.str [120],.str [121]]:List T)=ap at gN o;have fin:=G5 (m:=m) (n:=n) (d:=d) (v:=sl []) (l:=[]) (args:=[.ptr m 0 0 0,Z d]) b.ok C j gR (pF _ _ _ dy) (.nm s) (by rw[dU.lF];simp only[dU.GD,dU.iW];exact Nat.pow_pos J);have X:g<7:=J;simp[gN,X,o,Uf,gR,fin.1];exact fin.2
 ·simp;refine ej (λN=>?_) (λN=>?_)
  ·simp[w];simp at M O N;refine iC Q dy ⟨G,m,A,n,0⟩ ⟨⟨rfl,b.tw f,r,dy⟩,dA⟩ ?_;rintro _ q ⟨c,rfl,aA,bu,t3,h⟩;simp only at bu t3 h;have j:=f.call h t3;have gR:=(h.get _ J).trans gR;have b9:=H.fh gR;have P:(e.size=q.size)=False:=dz;have B:(q.cons (dE 4 0 [c.t])).get e.size=_:=(by rw[dS,aq J]:(q.cons (dE 4 0 [c.t])).get e.size=q.get e.size).trans gR;have fin:=G5 (m:=m) (n:=n) (d:=d) (a:=3) (k:=0) (s:=[113]) (v:= .arr q.size 0 0 1 false) (l:=[c]) (args:=[.ptr m 0 0 0,Z d]) b.ok C (j.cons (dE 4 0 [c.t])) B
    (.inr (.inl ⟨q.size,0,0,1,false,[c.t],[c.t],rfl,J,by rw[ig,dN B,aq J,dS,ar rfl];simp,.cons (c.ft 8) .nil,rfl⟩)) (.ix aA) (by
      have:3^1<=3^d:=Nat.pow_le_pow_right J J;rw[dU.lF];simp only[dU.GD,dU.ke,dU.iW];omega)
   simp[gR,P,fin.1];exact fin.2
  simp at M O N;obtain⟨d,rfl⟩:∃c,d=c+1:=⟨d-1,J⟩;have P:(m=p.size)=False:=by have:=f.size;simp at this;simp;omega
  have an:IntKind.i64.wrap d=(d:Int):=by rw[<-jA];exact jH J J
  simp[w,P,K];have j:=f.cons (dE 1 0 [Z 6,Z 7,Z 8,Z 11,Z 13,Z 17]);refine KW dy j.tp j.ok J J r λu x Y t4 E=>?_;have ae:=j.call E t4;have cp:p.size+1=x.size:=by rw[E.size];simp
  have b7:=f.tp.lt;have gO:x.get p.size=some (dE 1 0 [Z 6,Z 7,Z 8,Z 11,Z 13,Z 17]):=(E.get _ J).trans dy;have B:x.get e.size=_:=((E.get _ J).trans (by rw[dS,aq (by have:=H.fh gR;omega)])).trans gR;have o:∃s:Int,([Z 6,Z 7,Z 8,Z 11,Z 13,Z 17]:List T)[u]? =some (Z s)/\6<=s:=by
   rcases(by omega:u=0\/u=1\/u=2\/u=3\/u=4\/u=5)with rfl|rfl|rfl|rfl|rfl|rfl<;>exact⟨_,rfl,J⟩
  obtain⟨s,o,bs⟩:=o;generalize([Z 6,Z 7,Z 8,Z 11,Z 13,Z 17]:List T)=ap at*
  have Y:u<6:=J;simp[w,L,gO,o,Y,qS,an];refine mF Q dy ⟨G,m,A,n,d⟩ ⟨⟨rfl,b.tw ae,r,dA⟩,dA⟩ ?_;rintro _ U ⟨c,rfl,aE,bB,t5,y⟩;simp only at bB t5 y;have al:=ae.call y t5;have av:=(y.get _ J).trans B;have bH:fk x U p.size=true:=fG (y.get _ J);simp[w,L,qS,an,bH];refine mF Q dy ⟨G,m,A,n,d⟩ ⟨⟨rfl,b.tw al,r,dA⟩,dA⟩ ?_;rintro _ V ⟨R,rfl,aN,bC,t6,z⟩;simp only at bC t6 z;have bS:=al.call z t6;have S:=(z.get _ J).trans av;have bN:fk U V p.size=true:=fG (z.get _ J);have c7:fk x V p.size=true:=fG ((z.get _ J).trans (y.get _ J));have fin:=G5 (m:=m) (n:=n) (d:=d+1) (a:=s) (k:=0) (s:=[]) (v:=sl [c.t,R.t]) (l:=[c,R]) (args:=[.ptr m 0 0 0,Z (d+1:Nat)]) b.ok C bS S (pF _ _ _ dy) (.bin bs aE aN) (by
   have:=Nat.pow_pos (n:=d) (show 0<3 by omega);rw[dU.lF,Nat.pow_succ];simp only[dU.GD,dU.ke,dU.iW];omega)
  simp[X7,bN,S,fin.1];exact fin.2
def Qk(a:Nat):(Pa a).Ok prog cx 221:=Al (λb:UC=>b.d) Q3 a
def Nw(d c:Nat)(b:H)(e:Nat)(f:T)(a:Nat):Prop:=d<=a/\a<c/\¬Fp b e a/\dT f≠some a
def LI(a:Nat):dT .kH≠some a:=by show(none:aa Nat)≠some a;simp
def SV(f e:Nat)(b:H)(g h:Nat)(c:T)(i:List dO):Prop:=∃d,Gr b c 11 d/\iM (FT b (Nw f e b g c) (h+2)) d (i.map dO.t)/\∀a,dT c=some a->f<=a/\a<e/\¬Fp b g a
theorem SV.nil(d c:Nat)(b:H)(e a:Nat):SV d c b e a dD []:=⟨[],Gr.nil _ _,.nil,λg f=>by simp at f⟩
def SV.same{i h m k:Nat}{f g:H}{d j:Nat}{n:T}{l:List dO}(r:SV i h f d j n l)(v:m<=i)(w:h<=k)(c:∀a,i<=a->a<h->¬Fp f d a->g.get a=f.get a/\¬Fp g d a):SV m k g d j n l:=by
 obtain⟨p,q,o,e⟩:=r;refine⟨p,q.mono λa b=>(c a (e a b).1 (e a b).2.1 (e a b).2.2).1,o.ft λa b=>⟨⟨by have:=b.1;omega,by have:=b.2.1;omega,(c a b.1 b.2.1 b.2.2.1).2,b.2.2.2⟩,(c a b.1 b.2.1 b.2.2.1).1⟩,λa b=>?_⟩;have⟨s,t,u⟩:=e a b;exact⟨J,J,(c a s t u).2⟩
def SV.step{i b:Nat}{a f:H}{c e:Nat}{l:T}{h:List dO}(m:SV i b a c e l h)(k:Step c a f)(o:b<=a.size):SV i b f c e l h:=
 m.same (aw _) (aw _) λd _ n g=>⟨k.get d J g,λj=>(k.fp d j).elim g λj=>by omega⟩
def SV.wide{f c g d:Nat}{b:H}{h a:Nat}{i:T}{e:List dO}(l:SV f c b h a i e)(j:g<=f)(k:c<=d):SV g d b h a i e:=l.same j k λ_ _ _ m=>⟨rfl,m⟩
def SV.box{e d:Nat}{i:H}{l h:Nat}{g:T}{k:List dO}(c:SV e d i l h g k){a:Nat}(j:e<=a/\a<d->False):dT g≠some a:=λf=>by
 obtain⟨_,_,_,c⟩:=c;exact j ⟨(c a f).1,(c a f).2.1⟩
def SV.qx{f e:Nat}{b:H}{c g:Nat}{i:T}{h:List dO}(l:SV f e b c g i h){a:Nat}{m:iY}(d:Lb c b a m)(q:a<f\/e<=a)(j:iY):SV f e (dZ b a j) c g i h:=
 l.same (aw _) (aw _) λn o p k=>⟨by rw[dN d.get,aq J],by rw[iT (show(dZ b a j).get c=b.get c by rw[dN d.get,aq (aY d.ne)])];exact k⟩
def SV.ft{i h:Nat}{e:H}{j d:Nat}{k:T}{a:List dO}(p:SV i h e j d k a):FT e (Nw i h e j .kH) (d+3) k (sl (a.map dO.t)):=by
 obtain⟨n,g,b,q⟩:=p;have o:=g.jw;rcases g with⟨rfl,rfl⟩|⟨c,m,y,v,A,rfl,w,x⟩
 ·cases hl:a.map dO.t with
  |nil=>exact jl _ _ _ _
  |cons z a=>rw[hl]at b;cases b
 ·have⟨r,s,u⟩:=q c rfl;exact .inr (.inl ⟨c,m,0,_,false,n,_,rfl,⟨r,s,u,LI c⟩,o,b.ft λl f=>⟨⟨f.1,f.2.1,f.2.2.1,LI l⟩,rfl⟩,rfl⟩)
def dO.ft{c:H}{V:Nat->Prop}(b:dO)(d:Nat):FT c V (d+2) b.t b.t:=by
 have f:∀a:List dU,FT c V (d+1) (sl (a.map dU.t)) (sl (a.map dU.t)):=λa=>pF _ _ _ λh e=>by obtain⟨i,_,rfl⟩:=List.mem_map.1 e;simp
 have g:∀a:List dO,FT c V (d+1) (sl (a.map dO.t)) (sl (a.map dO.t)):=λa=>pF _ _ _ λh e=>by obtain⟨i,_,rfl⟩:=List.mem_map.1 e;simp
 exact .inr (.inr ⟨_,_,b.nP,.cons (gW ..) (.cons (gW ..) (.cons (ko ..) (.cons (ko ..) (.cons (f _) (.cons (gW ..) (.cons (gW ..) (.cons (ko ..) (.cons (f _) (.cons (g _) (.cons (g _) .nil)))))))))),b.nP⟩)
def Mk.same{i:List Int}{m:Nat}{b c:H}{f g:Nat}(e:Mk i m b f g)(r:il 0 c)(v:b.size<=c.size)(h:∀a,Fp b f a->c.get a=b.get a):Mk i m c f g:=by
 have k:=h f (.inl rfl);have⟨u,s,left,set,t,n,q,l,p,j,o,hl⟩:=e.ex;refine⟨r,λa d=>by rw[iT k]at d;have:=e.fp a d;omega,e.tp.eq (h g e.fpb),u,s,left,set,t,n,q,l,p,by rw[k];exact j,o.mono λa d=>h a (.inr ⟨_,j,l,by simp[fF,T.cells,sS],d⟩),hl⟩
theorem Mk.cons{b:List Int}{f:Nat}{d:H}{e c:Nat}(a:Mk b f d e c)(g:iY):Mk b f (d.cons g) e c:=a.same (a.ok.cons g) dy λh i=>by rw[dS,aq (by have:=a.fp h i;omega)]
def Mk.qx{d:List Int}{h:Nat}{b:H}{c e:Nat}(f:Mk d h b c e){a:Nat}{l:iY}(g:Lb c b a l)(i:iY):Mk d h (dZ b a i) c e:=f.same (f.ok.put a i) (by rw[fK];exact aw _) λm j=>by rw[dN g.get,aq (λk=>g.nf (by rw[<-k];exact j))]
def Mk.hr{b:List Int}{f:Nat}{a:H}{e c:Nat}(d:Mk b f a e c):Mk b f (TI.hr a) e c:=d.same d.ok.hr (aw _) λg _=>ik a g
def Mk.out{b:List Int}{e:Nat}{h a:H}{m c:Nat}(d:Mk b e a m c):Mk b e (md h a) m c:=d.same (d.ok.out h) (aw _) λf _=>fV h a f
def SV.out{e c:Nat}{h a:H}{m b:Nat}{f:T}{d:List dO}(j:SV e c a m b f d):SV e c (md h a) m b f d:=
 j.same (aw _) (aw _) λg _ _ i=>⟨fV h a g,by rw[iT (fV h a m)];exact i⟩
def Mk.set{j:List Int}{h:Nat}{c:H}{d b f:Nat}{s left th' left':Int}{r t l n se' tx' at2 lp':Bool}{a:T}{g:List (List Nat)}(e:Mk j h c d b)(k:c.get d=some (dE 8 f [.agg (sS b s left r t l n a)]))(m:Gr c a 1 (g.map T.str))(hl:g.length=h):
 Step d c (dZ c d (dE 8 (f+1) [.agg (sS b th' left' se' tx' at2 lp' a)]))/\Mk j h (dZ c d (dE 8 (f+1) [.agg (sS b th' left' se' tx' at2 lp' a)])) d b:=by
 have⟨i,o,p,q⟩:=Co e.ok e.fp k (cells':=sS b th' left' se' tx' at2 lp' a) (λu a=>by
  simp only[sS,bZ,cG,or_false]at a;rcases a with rfl|rfl|rfl|rfl|rfl|rfl|rfl|rfl<;>first|exact .inr (.inl rfl)|exact .inl (by simp[sS])) _ rfl
 exact⟨i,⟨i.ok.hp,i.ok.low,ax _⟩,o,e.tp.eq (by rw[dN k,aq (aY e.ne)]),f+1,th',left',se',tx',at2,lp',a,g,p,q _ _ _ m dB,hl⟩
def SV.app{A:List Int}{n h p:Nat}{b:H}{d C v:Nat}{u x:T}{xs:List T}{q l2:List dO}(X:SV h p b d v u q)(k:Mk A n b d C)(al:h<=b.size)(ae:p<=b.size)(W:b.jw x=some xs)(G:iM (FT b (Nw h p b d u) (v+2)) xs (l2.map dO.t))(Q:∀i∈xs,i.cells.length=11)(U:xs≠ [])(an:q.length+l2.length<=1000000):
 ∃z f,iU cx b 186 186 u x=some (.val z f)/\SV h f.size f d v z (q++l2)/\Mk A n f d C/\(∀o,Step d o b->o.size<=h->Step d o f)/\∀e,e<h->f.get e=b.get e:=by
 obtain⟨m,N,B,r⟩:=X;have l1:m.length=q.length:=by simpa using B.length
 have l3:xs.length=l2.length:=by simpa using G.length
 obtain⟨z,f,i,e,E,Y,M,rfl,I,g,j,l⟩:=N.app (cx:=cx) k.ok zU rfl zQ zU rfl rfl dy W Q U dz;have w:¬Fp b d e:=λF=>g.elim (λg=>(r e g).2.2 F) λg=>by have:=k.fp e F;omega
 have V:=l.sz;have S:h<=e:=g.elim (λg=>(r e g).1) λg=>by omega
 have R:=H.fh I;have y:f.get d=b.get d:=j d (λr=>w (by rw[<-r];exact .inl rfl)) k.lt;have L:∀a,Nw h p b d u a->Nw h f.size f d (.arr e E 0 (m++xs).length false) a/\f.get a=b.get a:=λa c=>by
  have K:a≠e:=λi=>g.elim (λg=>c.2.2.2 (by rw[i];exact g)) λg=>by have:=c.2.1;omega
  exact⟨⟨c.1,by have:=c.2.1;omega,by rw[iT y];exact c.2.2.1,by simp;exact aY K⟩,j a K (by have:=c.2.1;omega)⟩
 refine⟨_,f,i,⟨m++xs,.inr ⟨e,E,Y,M,m++xs,rfl,I,aK⟩,?_,λa D=>?_⟩,k.same ⟨l.hp,l.low,ax _⟩ V λa c=>j a (λi=>w (by rw[<-i];exact c)) (k.fp a c),λo s hl=>⟨⟨l.hp,l.low,by have:=s.ok.sz;omega⟩,λa O P=>?_,λa c=>by rw[iT y]at c;exact s.fp a c⟩,λa c=>j a J J⟩
 ·rw[List.map_append];exact(B.ft L).append (G.ft L)
 ·simp at D;subst D;exact⟨S,R,by rw[iT y];exact w⟩
 ·exact(j a J (by have:=s.ok.sz;omega)).trans (s.get a O P)
def wd(a:Nat):Nat:=100*10^a
def Lh(a:Nat):wd (a+1)=10*wd a:=by unfold wd;rw[Nat.pow_succ];omega
def CH(a:Nat):100<=wd a:=by
 induction a with
 |zero=>decide
 |succ a b=>rw[Lh];omega
structure VU where
 (L:List Int) (m b n d cnt:Nat)
def YO(a:VU)(c:H):Prop:=Mk a.L a.n c a.m a.b/\okB a.L/\a.d<=2/\a.n+a.d<=10/\a.cnt<=3
def Pu(a:VU)(i:List T)(f:H)(h:T)(c:H):Prop:=∃e,SV f.size c.size c a.m (2*a.d+2) h e/\(∀g∈e,MS g/\g.w<=wd a.d)/\e.length<=a.cnt/\Mk a.L a.n c a.m a.b/\Step a.m f c
def Gm(a:VU)(i:List T)(g:H)(h:T)(c:H):Prop:=∃f e,h= .agg f/\f.length=11/\FT c (Nw g.size c.size c a.m .kH) (2*a.d+4) h e.t/\MS e/\e.w<=wd a.d/\Mk a.L a.n c a.m a.b/\Step a.m g c
abbrev Wr(e:Nat):li:=jM VU (λa b c=>(b=[.ptr a.m 0 0 0,Z a.d,Z a.cnt]/\YO a c)/\a.d<e) Pu
abbrev rMt(e:Nat):li:=jM VU (λa b c=>(b=[.ptr a.m 0 0 0,Z a.d]/\YO a c)/\a.d<e) Gm
def abw(k:Nat)(al:(rMt k).Ok prog cx 178):(Wr k).Ok prog cx 136:=by
 refine jB (tb:=⟨pt [],ht [(178,rMt k)]⟩) iR iE (iX 4194759 [] func136) (λ_ _=>10) (λe a p X=>by obtain⟨⟨rfl,_⟩,_⟩:=X;simp[f136]) ?_;rintro⟨A,f,B,R,m,C⟩ _ p ⟨⟨rfl,v,G,L,O,b⟩,N⟩ h I;simp only at v G L O b N;simp at I;obtain⟨o,q,r⟩:=I;simp[f136];refine Ce C (λe h n=>∃u j,SV p.size n.size n f (2*m+2) u j/\(∀l∈j,MS l/\l.w<=wd m)/\j.length=e/\Mk A R n f B/\Step f (hr p) n/\dF h 0 (.ptr f 0 0 0)/\dF h 1 (Z m)/\dF h 2 (Z C)/\dF h 7 u/\dF h 8 (Z e)) ?_ J (k:=0) J ⟨dD,[],SV.nil _ _ _ _ _,dy,rfl,v.hr,Step.refl v.ok.hr,by simp[o,q,r]⟩;rintro e h n a8 ⟨u,j,sv,hl,bi,y,z,o,q,r,E,F⟩;have⟨bH,bB,left,set,bC,aN,bu,bs,bn,D,aX,a7⟩:=y.ex;simp only[sS]at D;simp[o,r,F,D];refine ej (λM=>?_) (λM=>?_)
 ·simp at M;simp[o,q,E];refine iC al dy ⟨A,f,B,R,m,0⟩ ⟨⟨rfl,y,G,L,O,dy⟩,N⟩ ?_;rintro _ d ⟨c,l,rfl,K,ft,W,P,g,s⟩;simp only at ft P g s;have ae:=z.ok.sz;have Q:=s.ok.sz;simp at ae;have av:=((sv.step s (aw _)).step (Step.cons g.ok g.lt (dE 11 0 [.agg c])) Q).wide (aw _) Q;have H:∀i,i<d.size->(d.cons (dE 11 0 [.agg c])).get i=d.get i:=λi b=>by rw[dS,aq J]
  have V:FT (d.cons (dE 11 0 [.agg c])) (Nw p.size d.size (d.cons (dE 11 0 [.agg c])) f u) (2*m+4) (.agg c) l.t:=ft.mono λi b=>⟨⟨by have:=b.1;omega,b.2.1,by rw[iT (H f g.lt)];exact b.2.2.1,sv.box λS=>by have:=b.1;omega⟩,H i b.2.1⟩;have⟨aE,a6,U,aA,an,ap,_⟩:=av.app (g.cons (dE 11 0 [.agg c])) (x:= .arr d.size 0 0 1 false) (xs:=[.agg c]) (l2:=[l]) dz dy (by rw[ig];simp) (.cons V .nil) (by simp[T.cells,K]) dy dz;simp[o,q,r,F,U,K,iL (show-9223372036854775808<=(e:Int)+1 by omega) (show(e:Int)+1<9223372036854775808 by omega)];exact⟨e+1,J,J,aE,j++[l],aA,λx Y=>(List.mem_append.1 Y).elim (hl x) λS=>by rw[List.mem_singleton.1 S];exact⟨W,P⟩,dz,an,ap _ ((z.trans s).trans (Step.cons g.ok g.lt _)) dy,dy⟩
 ·simp[E];exact⟨j,sv.out,hl,dA,y.out,z.out⟩
def Mk.held{s:List Int}{q:Nat}{c h:H}{a b f:Nat}{m left:Int}{l n g k:Bool}{p o:T}{j:List (List Nat)}{w:List Nat}(d:Mk s q c a b)(t:c.get a=some (dE 8 f [.agg (sS b m left l n g k p)]))(v:Gr c p 1 (j.map T.str))(hl:j.length=q)(x:Xt c p 1 ((j++[w]).map T.str) o h):
 h.get a=c.get a/\Step a c (dZ h a (dE 8 (f+1) [.agg (sS b m left l n g k o)]))/\Mk s (q+1) (dZ h a (dE 8 (f+1) [.agg (sS b m left l n g k o)])) a b:=by
 have⟨e,C⟩:=xm (i:=7) d.ok d.fp t (by simp[sS]) dB v x;have⟨r,y,A,_⟩:=C _ rfl;have u:=e.trans t;have⟨G,F,z,_⟩:=d.tp;refine⟨e,r,⟨r.ok.hp,r.ok.low,ax _⟩,y,d.tp.eq ?_,f+1,m,left,l,n,g,k,o,j++[w],(dN u _ a).trans (ar rfl),A,dz⟩;rw[dN u,aq (aY d.ne)];refine x.2.1 b d.tp.lt λB=>?_;have⟨D,f,E,I,e,_⟩:=v.box B;rw[z]at e;simp at e
def Mk.drop{p:List Int}{g:Nat}{b:H}{c a l:Nat}{i left:Int}{h j e f:Bool}{n d:T}{m:List (List Nat)}(k:Mk p (g+1) b c a)(q:b.get c=some (dE 8 l [.agg (sS a i left h j e f n)]))(hl:m.length=g+1)(r:Gr b d 1 ((m.map T.str).take g))(s:dT d=dT n):
 Step c b (dZ b c (dE 8 (l+1) [.agg (sS a i left h j e f d)]))/\Mk p g (dZ b c (dE 8 (l+1) [.agg (sS a i left h j e f d)])) c a:=by
 have⟨o,t,u,v⟩:=Co k.ok k.fp q (cells':=sS a i left h j e f d) (λw hm=>by
  simp only[sS,bZ,cG,or_false]at hm;rcases hm with rfl|rfl|rfl|rfl|rfl|rfl|rfl|hm
  ·exact .inl (by simp[sS])
  iterate 6 exact .inr (.inl rfl)
  exact .inr (.inr ⟨n,by simp[sS],by rw[hm];exact s⟩)) _ rfl
 exact⟨o,⟨o.ok.hp,o.ok.low,ax _⟩,t,k.tp.eq (by rw[dN q,aq (aY k.ne)]),l+1,i,left,h,j,e,f,d,m.take g,u,by rw[List.map_take];exact v _ _ _ r dB,by rw[List.length_take];omega⟩
structure IBk where
 (L:List Int) (m b n d:Nat) (s:List Nat)
def aa3(a:IBk)(c:List T)(e:H):Prop:=c=[.ptr a.m 0 0 0,.str a.s,Z a.d]/\Mk a.L a.n e a.m a.b/\okB a.L/\a.d<=2/\a.n+a.d<=9
abbrev rBk(g:Nat):li:=jM IBk (λa c e=>aa3 a c e/\a.d<g) (λa c e h f=>Pu ⟨a.L,a.m,a.b,a.n,a.d,2⟩ c e h f)
def acw(q:Nat)(aN:(Wr q).Ok prog cx 136):(rBk q).Ok prog cx 225:=by
 refine jB (tb:=⟨pt [],ht [(77,jM Ak uS sa),(136,Wr q)]⟩) iR iE (iX 199 [] func225) (λ_ _=>10) (λi a f aE=>by obtain⟨⟨rfl,_⟩,_⟩:=aE;simp[f225]) ?_;rintro⟨Q,d,R,n,S,s⟩ _ f ⟨⟨rfl,t,p,B,av⟩,C⟩ bB A;simp only at t p B av C;simp at A;obtain⟨z,X,Y⟩:=A;have g:=t.hr;have⟨O,M,left,set,N,x,G,F,E,b,c,hl⟩:=g.ex;have⟨a8,ae,k,j⟩:=c.mn (cx:=cx) g.ok qY rfl wO rfl dy dy s dz;have⟨I,w,e⟩:=g.held b c hl j;have m:=I.trans b;simp only[sS]at b m w e;have y:f.get d=_:=(ik f d).symm.trans b;have bu:(d=f.size)=False:=by have:=t.lt;simp;omega
 rw[oq]at k;simp[f225,z,X,Y,y,k,m,dX,j.1.iy,j.1.cells];generalize dZ ae d _=bi at*
 clear b y m I j k c g;have⟨O,M,left,set,N,x,G,F,E,b,c,hl⟩:=e.ex;simp only[sS]at b;simp[b];refine sK dy e.tp e.ok J J p λr bn bs t2 a6=>?_;have⟨aX,K⟩:=e.tape a6 t2;have T:binop .add (Z 1) (Z r)=some (Z ((1+r:Nat):Int)):=by rw[iL J J];simp
 simp[T];refine iC aN dy ⟨Q,d,R,n+1,S,1+r⟩ ⟨⟨dy,aX,p,B,dA,dA⟩,C⟩ ?_;rintro v al ⟨l,sv,D,aA,u,L⟩;simp only at sv D aA u L;have⟨O,M,left,set,N,x,G,F,E,b,c,hl⟩:=u.ex;have W:=b;simp only[sS]at b;have ap:=c.len (cx:=cx) al SA _ rfl;have⟨a8,V,o,an⟩:=c.cut (cx:=cx) (ty:=SA) rfl wO rfl (n:=n) dz dz;have⟨h,H⟩:=u.drop W hl o an;have U:binop .sub (Z ((n:Int)+1)) (Z 1)=some (Z n):=by
  rw[qS,<-jA,jH J J];simp
 simp only[sS]at h H;simp[z,b,ap,hl,U,V,dX,o.iy,o.cells];have a7:=((w.trans K).trans L).trans h;have P:=(w.trans K).ok.sz;simp at P;exact⟨l,((sv.step h (aw _)).wide P (by have:=h.ok.sz;simp)).out,D,dA,H.out,a7.out⟩
def yj:li:=⟨λe a=>∃d c b f i,e=[.ptr b 0 0 0,.str i]/\Mk d c a b f/\c<=100,λ_ a h g=>g=a/\FS h⟩
def Tf:yj.Ok prog cx 224:=by
 refine Jy (tb:=⟨pt [(130,Dc)],ht []⟩) iR iE (iX 19 [] func224) false (λ_ _=>5) (λq a k=>by obtain⟨e,o,n,f,p,rfl,_⟩:=k;simp[f224]) ?_;rintro _ a ⟨e,o,n,f,p,rfl,d,s⟩ y c;simp at c;obtain⟨i,j⟩:=c;have⟨x,v,left,set,w,r,u,t,l,b,h,hl⟩:=d.ex;simp only[sS]at b;have m:=(h.mono (h':=hr a) λg _=>ik a g).rS dy;simp[f224,i,j,b,m,Ot,show l.length<=1099511627776 by omega];exact qD a _ _ d.ok.hp (Fr.refl _ _) rfl ⟨rfl,dy⟩
def afA{d:H}{b:Nat->Prop}(h:dO)(c:Nat):iM (FT d b (c+1)) h.cs h.cs:=by
 have f:∀a:List dU,FT d b (c+1) (sl (a.map dU.t)) (sl (a.map dU.t)):=λa=>pF _ _ _ λi e=>by obtain⟨j,_,rfl⟩:=List.mem_map.1 e;simp
 have g:∀a:List dO,FT d b (c+1) (sl (a.map dO.t)) (sl (a.map dO.t)):=λa=>pF _ _ _ λi e=>by obtain⟨j,_,rfl⟩:=List.mem_map.1 e;simp
 exact .cons (gW ..) (.cons (gW ..) (.cons (ko ..) (.cons (ko ..) (.cons (f _) (.cons (gW ..) (.cons (gW ..) (.cons (ko ..) (.cons (f _) (.cons (g _) (.cons (g _) .nil))))))))))
def It{i:VU}{args:List T}{a c:H}{r:iY}{cs:List T}{s:dO}(e:Lb i.m c a.size r)(g:Mk i.L i.n c i.m i.b)(p:Step i.m (TI.hr a) c)(hl:cs.length=11)(j:iM (FT c (Nw (a.size+1) c.size c i.m .kH) (2*i.d+3)) cs s.cs)(k:MS s)(o:s.w<=wd i.d):
 (dZ c a.size (dE 11 1 [.agg cs])).get a.size=some (dE 11 1 [.agg cs])/\Gm i args a (.agg cs) (md a (dZ c a.size (dE 11 1 [.agg cs]))):=by
 have l:(dZ c a.size (dE 11 1 [.agg cs])).get i.m=c.get i.m:=by rw[dN e.get,aq (aY e.ne)]
 have q:=Step.qx g.ok e (dE 11 1 [.agg cs]) _ p (aw _);refine⟨(dN e.get _ _).trans (ar rfl),cs,s,rfl,hl,?_,k,o,(g.qx e _).out,q.out⟩;refine .inr (.inr ⟨cs,s.cs,rfl,j.ft λh f=>⟨⟨by have:=f.1;omega,by have:=f.2.1;simp;omega,?_,LI h⟩,?_⟩,s.nP⟩)
 ·rw[iT (fV a _ i.m),iT l];exact f.2.2.1
 ·rw[fV,dN e.get,aq (by have:=f.1;omega)]
def EL(c:List Nat)(b:List dU)(a:dU):dO:=⟨1,0,c,[],b,a,[],[]⟩
def Ez{d:List Nat}{b:List dU}{c:dU}(g:∀i∈b,ME i)(f:ME c)(h:b≠ []->d=[113]):MS (EL d b c):=
 .mk (λa=>by unfold EL at a;simp at a) (λ_ a=>h a) g (λ_=>f) (λe a=>by unfold EL at a;simp at a) (λe a=>by unfold EL at a;simp at a)
def Mt{nm:List Nat}{ix:List dU}{e:dU}{d:Nat}(a:dU.ws ix<=20)(b:e.w<=20):(EL nm ix e).w<=wd d:=by
 have:=CH d;rw[dO.lF];unfold EL;simp only[dO.sx,dO.KM,dO.vi,dO.yB,dO.iW];omega
def mD{i:VU}{args:List T}{c d:H}{k:iY}{nm:List Nat}{a:dU}(g:Lb i.m d c.size k)(h:Mk i.L i.n d i.m i.b)(j:Step i.m (TI.hr c) d)(e:ME a)(f:a.w<=20):
 (dZ d c.size (dE 11 1 [.agg [Z 1,Z 0,.str nm,.str [],sl [],Z a.op,Z a.n,.str a.name,sl (a.l.map dU.t),sl [],sl []]])).get c.size=some (dE 11 1 [.agg [Z 1,Z 0,.str nm,.str [],sl [],Z a.op,Z a.n,.str a.name,sl (a.l.map dU.t),sl [],sl []]])/\
 Gm i args c (.agg [Z 1,Z 0,.str nm,.str [],sl [],Z a.op,Z a.n,.str a.name,sl (a.l.map dU.t),sl [],sl []]) (md c (dZ d c.size (dE 11 1 [.agg [Z 1,Z 0,.str nm,.str [],sl [],Z a.op,Z a.n,.str a.name,sl (a.l.map dU.t),sl [],sl []]]))):=
 It (s:=EL nm [] a) g h j rfl (afA (EL nm [] a) _) (Ez dy e (λc=>absurd rfl c)) (Mt (by rw[dU.iW];omega) f)
theorem _root_.Go.TI.Lb.put{d:Nat}{b:H}{a c:Nat}{x g:iY}(f:Lb d b a x)(l2:Lb d b c g)(e:a≠c)(h:iY):Lb d (dZ b c h) a x:=f.kT (by rw[dN l2.get,aq (aY l2.ne)]) (by rw[dN l2.get,aq e])
def Va{n:List Int}{q:Nat}{k b:H}{c o a:Nat}{w:iY}(p:Mk n q b c o)(e:Lb c b a w)(v:Step c (TI.hr k) b)(r:k.size<=a)(d:iY):
 Mk n q (dZ b a d) c o/\Lb c (dZ b a d) a d/\Step c (TI.hr k) (dZ b a d)/\(∀g m,g≠a->Lb c b g m->Lb c (dZ b a d) g m)/\∀i h j l f,SV i h b c j l f->a<i\/h<=a->SV i h (dZ b a d) c j l f:=
 ⟨p.qx e d,⟨(dN e.get d a).trans (ar rfl),by rw[iT (show(dZ b a d).get c=b.get c by rw[dN e.get,aq (aY e.ne)])];exact e.nf⟩,Step.qx p.ok e d _ v r,λg m s f=>f.put e s d,λi h j l f t u=>t.qx e u d⟩
theorem lJ{o:List Int}{q:Nat}{m a:H}{b p:Nat}(g:Mk o q a b p)(s:Step b (TI.hr m) a)(c e:iY):
 Mk o q (dZ (a.cons c) a.size e) b p/\Lb b (dZ (a.cons c) a.size e) a.size e/\Step b (TI.hr m) (dZ (a.cons c) a.size e)/\(∀h l,Lb b a h l->Lb b (dZ (a.cons c) a.size e) h l)/\∀j f i k d,SV j f a b i k d->f<=a.size->SV j f (dZ (a.cons c) a.size e) b i k d:=by
 have n:=Step.cons g.ok g.lt c;have v:=Lb.new g.lt g.fp c;have t:m.size<=a.size:=by simpa using s.ok.sz
 have⟨w,x,y,z,A⟩:=Va (g.cons c) v (s.trans n) t e;exact⟨w,x,y,λh l d=>z h l (by have:=d.lt;omega) (d.step n),λj f i k d u r=>A j f i k d (u.step n r) (.inr r)⟩
def SV.gc{h e:Nat}{d:H}{i c:Nat}{a:T}{g:List dO}(f:SV h e d i c a g):a.iy=true/\a.cells=[a]:=by
 obtain⟨j,b,_⟩:=f;exact⟨b.iy,b.cells⟩
def SV.cell{g e c d:Nat}{b:H}{h a:Nat}{i:T}{f:List dO}(l:SV g e b h (2*a+2) i f)(j:c<=g)(k:e<=d):FT b (Nw c d b h .kH) (2*(a+1)+3) i (sl (f.map dO.t)):=by
 have:=(l.wide j k).ft;rw[show 2*(a+1)+3=2*a+2+3 by omega];exact this
def xH{a:List dO}{W:Nat}(c:∀b∈a,MS b/\b.w<=W):dO.ws a<=a.length*W:=by
 induction a with
 |nil=>rw[dO.iW];omega
 |cons f a e=>
  have g:=e λb d=>c b (List.mem_cons_of_mem _ d);have h:=(c f dy).2;rw[dO.ke,aU,bW];omega
def ql{k:List Int}{c m o d cnt:Nat}{args:List T}{a b:H}{p:iY}{op:Int}{nm:List Nat}{e:dU}{f g h:T}{j le:List dO}(z:Lb c b a.size p)(A:Mk k o b c m)(B:Step c (TI.hr a) b)
 (q:FT b (Nw (a.size+1) b.size b c .kH) (2*(d+1)+3) g (sl (j.map dO.t))) (r:FT b (Nw (a.size+1) b.size b c .kH) (2*(d+1)+3) h (sl (le.map dO.t))) (u:FT b (Nw (a.size+1) b.size b c .kH) (2*(d+1)+3) f (sl (e.l.map dU.t)))
 (D:2<=op/\op<=8) (hE:op<=3->ME e) (E:e.w<=20) (v:∀s∈j,MS s) (x:∀s∈le,MS s) (C:dO.ws j+dO.ws le<=5*wd d):
 (dZ b a.size (dE 11 1 [.agg [Z op,Z 0,.str nm,.str [],dD,Z e.op,Z e.n,.str e.name,f,g,h]])).get a.size=some (dE 11 1 [.agg [Z op,Z 0,.str nm,.str [],dD,Z e.op,Z e.n,.str e.name,f,g,h]])/\
 Gm ⟨k,c,m,o,d+1,cnt⟩ args a (.agg [Z op,Z 0,.str nm,.str [],dD,Z e.op,Z e.n,.str e.name,f,g,h]) (md a (dZ b a.size (dE 11 1 [.agg [Z op,Z 0,.str nm,.str [],dD,Z e.op,Z e.n,.str e.name,f,g,h]]))):=
 It (i:=⟨k,c,m,o,d+1,cnt⟩) (s:=⟨op,0,nm,[],[],e,j,le⟩) z A B rfl
  (.cons (gW ..) (.cons (gW ..) (.cons (ko ..) (.cons (ko ..) (.cons (jl ..) (.cons (gW ..) (.cons (gW ..) (.cons (ko ..) (.cons u (.cons q (.cons r .nil)))))))))))
  (.mk (λa=>by simp at a;omega) (λa=>by simp at a;omega) (λp y=>by simp at y) (λa=>by simp at a;exact hE J) v x)
  (by
    have:=CH d;rw[dO.lF,Lh];simp only[dO.sx,dO.KM,dO.vi,dO.yB,dU.iW];omega)
def SV.deep{f d:Nat}{c:H}{g a b:Nat}{h:T}{e:List dO}(m:SV f d c g a h e)(o:a<=b):SV f d c g b h e:=by
 obtain⟨j,l,i,n⟩:=m;exact⟨j,l,i.imp λ_ _ k=>k.deep J,n⟩
def ZB(a:Nat):wd 0<=wd a:=CH a
def SV.lit{g:List Int}{m:Nat}{a:H}{b j d:Nat}{es:List T}{l:List dO}(e:Mk g m a b j)(i:∀k h,iM (FT k h (d+2)) es (l.map dO.t)):SV a.size (a.size+1) (a.cons ⟨11,0,0,true,false,es⟩) b d (.arr a.size 0 0 es.length false) l:=by
 refine⟨es,.inr ⟨a.size,0,0,true,es,rfl,by rw[dS,ar rfl],aK⟩,i _ _,λn f=>?_⟩;simp at f;subst f;refine⟨aw _,cX _,λc=>?_⟩;rw[iT (show(a.cons ⟨11,0,0,true,false,es⟩).get b=a.get b by rw[dS,aq (by have:=e.lt;omega)])]at c;have:=e.fp _ c;omega
def B8(a:Int):dO:=⟨a,0,[99],[],[],⟨0,0,[],[]⟩,[],[]⟩
def Ri{d:H}{b:Nat->Prop}(a:Int)(c:Nat):FT d b (c+2) (.agg [Z a,Z 0,.str [99],.str [],dD,Z 0,Z 0,.str [],dD,dD,dD]) (B8 a).t:=
 .inr (.inr ⟨_,(B8 a).cs,rfl,.cons (gW ..) (.cons (gW ..) (.cons (ko ..) (.cons (ko ..) (.cons (jl ..) (.cons (gW ..) (.cons (gW ..) (.cons (ko ..) (.cons (jl ..) (.cons (jl ..) (.cons (jl ..) .nil)))))))))),dO.nP _⟩)
def Rh{c:Int}(e:9<=c/\c<=11):MS (B8 c):= .mk (λ_=>rfl) (λb=>by unfold B8 at b;simp at b;omega) (λd a=>by unfold B8 at a;simp at a) (λb=>by unfold B8 at b;simp at b;omega) (λd a=>by unfold B8 at a;simp at a) (λd a=>by unfold B8 at a;simp at a)
def VJ(a:Int):(B8 a).w=5:=by
 rw[dO.lF,dU.lF];unfold B8;simp only[dO.sx,dO.KM,dO.vi,dO.yB,dO.iW,dU.iW,dU.GD]
def Fh{b c a:Int}(d:b-c=a)(e: -9223372036854775808<=a)(f:a<9223372036854775808):binop .sub (Z b) (Z c)=some (Z a):=by
 subst d;rw[qS,<-jA,jH e f]
def Ah{b c a:Int}(d:b+c=a)(e: -9223372036854775808<=a)(f:a<9223372036854775808):binop .add (Z b) (Z c)=some (Z a):=by
 subst d;rw[oG,<-jA,jH e f]
def abv(k:Nat)(di:(Wr k).Ok prog cx 136)(er:(rBk k).Ok prog cx 225):(rMt (k+1)).Ok prog cx 178:=by
 have⟨gI,de⟩:=hlB Tf λ_ _ _ _ I=>I;have P:=Qk 11;refine jB (tb:=⟨pt [(138,JR),(223,MZ),(222,M0),(137,M1)],ht [(77,jM Ak uS sa),(221,Pa 11),(136,Wr k),(225,rBk k),(224,yj)]⟩) iR iE (iX 521481210427296124309566527199867809678935259509485941609668421502669740186866579200068820979 [(5,[(0,5),(2,5),(3,5)]),(7,[(0,5),(0,9),(6,9),(7,9)])] func178) (λ_ _=>10) (λi a I fY=>by obtain⟨⟨rfl,_⟩,_⟩:=fY;simp[f178]) ?_;rintro⟨o,b,p,r,d,cnt⟩ _ I ⟨⟨rfl,b6,E,fA,fL,fv⟩,fB⟩ hh eN;simp only at b6 E fA fL fv fB;simp at eN;obtain⟨u,bu⟩:=eN;have eP:(b=I.size)=False:=by have:=b6.lt;simp;omega
 have F:=Step.cons b6.hr.ok b6.hr.lt (dE 11 0 [.agg [Z 0,Z 0,.str [],.str [],dD,Z 0,Z 0,.str [],dD,dD,dD]]);have D:Lb b _ I.size _:=Lb.new b6.hr.lt b6.hr.fp (dE 11 0 [.agg [Z 0,Z 0,.str [],.str [],dD,Z 0,Z 0,.str [],dD,dD,dD]]);have ey:=b6.hr.cons (dE 11 0 [.agg [Z 0,Z 0,.str [],.str [],dD,Z 0,Z 0,.str [],dD,dD,dD]]);have⟨cL,aA,left,set,O,ap,aX,b8,G,C,Y,hl⟩:=ey.ex;have⟨ea,c6⟩:=ey.set (th':=aA) (left':=IntKind.i64.wrap (left-1)) (se':=set) (tx':=O) (at2:=ap) (lp':=aX) C Y hl;replace D:=D.step ea;replace F:=F.trans ea;simp only[sS]at C ea c6 D F;have ec:=C;rw[dS,oq,aq (by have:=b6.lt;omega),ik]at ec;simp[f178,u,ec,eP,qS,dX];generalize dZ ((hr I).cons _) b _=gM at*
 clear C ec Y ey ea eP;have⟨cL,aA,left,set,O,ap,aX,b8,G,C,Y,hl⟩:=c6.ex;simp only[sS]at C;simp[C];refine sK dy c6.tp c6.ok J J E λX W gS t2 e4=>?_;have⟨c,eB⟩:=c6.tape e4 t2;replace D:=D.step eB;replace F:=F.trans eB;clear C Y c6 t2 e4 eB hl;have⟨cL,aA,left,set,O,ap,aX,b8,G,C,Y,hl⟩:=c.ex;have dn:=C;simp only[sS]at C;simp[u,bu,C];rcases(by omega:X=0\/X=1\/X=2\/X=3\/X=4\/X=5\/X=6\/X=7\/X=8\/X=9\/X=10\/X=11\/X=12\/X=13\/X=14\/X=15\/X=16\/X=17)with rfl|rfl|rfl|rfl|rfl|rfl|rfl|rfl|rfl|rfl|rfl|rfl|rfl|rfl|rfl|rfl|rfl|rfl
 iterate 4
  ·simp[u];have L:=c.cons (dE 1 0 [.str [120],.str [121],.str [120],.str [118]]);have N:=Step.cons c.ok c.lt (dE 1 0 [.str [120],.str [121],.str [120],.str [118]]);refine mF P dy ⟨o,b,p,r,1⟩ ⟨⟨rfl,L,E,dy⟩,dy⟩ ?_;rintro _ hE ⟨e,rfl,A,B,j,f⟩;simp only at B j f;have⟨z,g⟩:=L.tape f j;have m:=(D.step N).step g;have fin:=λnm=>mD (i:=⟨o,b,p,r,d,cnt⟩) (args:=[.ptr b 0 0 0,Z d]) (nm:=nm) m z ((F.trans N).trans g) A J;have eE:fk (W.cons (dE 1 0 [.str [120],.str [121],.str [120],.str [118]])) hE W.size=true:=fG (f.get _ (by have:=c.tp.lt;omega));simp[sU,m.get,eE,λnm=>(fin nm).1];exact(fin _).2
 ·have fE:(b=W.size)=False:=by have:=c.lt;simp;omega
  simp[u,C,fE];have L:=c.cons (dE 1 0 [.str [97],.str [98]]);have N:=Step.cons c.ok c.lt (dE 1 0 [.str [97],.str [98]]);refine KW dy L.tp L.ok J J E λae bT c4 t4 a6=>?_;have⟨an,bS⟩:=L.tape a6 t4;have gO:bT.get W.size=some (dE 1 0 [.str [97],.str [98]]):=(a6.get _ (by have:=c.tp.lt;omega)).trans dy;have gE:fk (W.cons (dE 1 0 [.str [97],.str [98]])) bT W.size=true:=fG (a6.get _ (by have:=c.tp.lt;omega));have⟨nm,fi⟩:∃nm:List Nat,([.str [97],.str [98]]:List T)[ae]? =some (.str nm):=by
   rcases(by omega:ae=0\/ae=1)with rfl|rfl<;>exact⟨_,rfl⟩
  generalize([.str [97],.str [98]]:List T)=ff at*
  have c4:ae<2:=J;simp[u,gO,fi,c4,gE];refine mF P dy ⟨o,b,p,r,1⟩ ⟨⟨rfl,an,E,dy⟩,dy⟩ ?_;rintro _ hE ⟨e,rfl,A,B,j,f⟩;simp only at B j f;have⟨z,g⟩:=an.tape f j;have m:=((D.step N).step bS).step g;have fin:=mD (i:=⟨o,b,p,r,d,cnt⟩) (args:=[.ptr b 0 0 0,Z d]) (nm:=nm) m z (((F.trans N).trans bS).trans g) A J;have eE:fk bT hE W.size=true:=fG (f.get _ (by have:=c.tp.lt;omega));have hg:fk (W.cons ⟨1,0,0,true,false,ff⟩) hE W.size=true:=fG ((f.get _ (by have:=c.tp.lt;omega)).trans (a6.get _ (by have:=c.tp.lt;omega)));simp[sU,m.get,eE,fin.1];exact fin.2
 ·simp[u];refine iC P dy ⟨o,b,p,r,0⟩ ⟨⟨rfl,c,E,dy⟩,dy⟩ ?_;rintro _ hE ⟨e,rfl,A,B,j,f⟩;simp only at B j f;have⟨z,g⟩:=c.tape f j;have e0:=z.cons (dE 4 0 [e.t]);have e7:=Step.cons z.ok z.lt (dE 4 0 [e.t]);simp[u];refine iC P dy ⟨o,b,p,r,1⟩ ⟨⟨rfl,e0,E,dy⟩,dy⟩ ?_;rintro _ eL ⟨dd,rfl,fo,gd,fb,dv⟩;simp only at gd fb dv;have⟨gn,eC⟩:=e0.tape dv fb;have eW:=((D.step g).step e7).step eC;have gV:=g.ok.sz;have ha:=D.lt;have fl:eL.get hE.size=some (dE 4 0 [e.t]):=(dv.get _ (by have:=z.tp.lt;omega)).trans dy;have gg:=dv.size;simp at gg;have fS:¬Fp eL b hE.size:=λq=>by
   rcases eC.fp _ q with q|q
   ·rw[iT (show(hE.cons (dE 4 0 [e.t])).get b=hE.get b by rw[dS,aq (by have:=z.lt;omega)])]at q;have:=z.fp _ q;omega
   ·simp at q;omega
  have fin:=It (i:=⟨o,b,p,r,d,cnt⟩) (args:=[.ptr b 0 0 0,Z d]) (cs:=[Z 1,Z 0,.str [113],.str [],.arr hE.size 0 0 1 false,Z dd.op,Z dd.n,.str dd.name,sl (dd.l.map dU.t),dD,dD]) (s:=EL [113] [e] dd) eW gn (((F.trans g).trans e7).trans eC) rfl
   (.cons (gW ..) (.cons (gW ..) (.cons (ko ..) (.cons (ko ..) (.cons (.inr (.inl ⟨hE.size,0,0,1,false,[e.t],[e.t],rfl,⟨J,J,fS,LI _⟩,by rw[ig,fl];simp,.cons (e.ft _) .nil,rfl⟩)) (.cons (gW ..) (.cons (gW ..) (.cons (ko ..) (.cons (pF _ _ _ λx bN=>by obtain⟨y,_,rfl⟩:=List.mem_map.1 bN;simp) (.cons (jl ..) (.cons (jl ..) .nil)))))))))))
   (Ez (by simpa using A) fo dy) (Mt (by rw[dU.ke,dU.iW];omega) J)
  simp[eW.get,fin.1];exact fin.2
 ·simp[bu];refine ej (λa8=>?_) (λa8=>?_)
  ·simp at a8;obtain⟨d,rfl⟩:∃e,d=e+1:=⟨d-1,J⟩;have aE:binop .sub (Z ((d:Int)+1)) (Z 1)=some (Z d):=by
    rw[qS,<-jA,jH J J];simp
   simp[u];refine iC P dy ⟨o,b,p,r,1⟩ ⟨⟨rfl,c,E,dy⟩,dy⟩ ?_;rintro _ hE ⟨e,rfl,A,B,j,f⟩;simp only at B j f;have⟨z,g⟩:=c.tape f j;simp[u,bu,aE];refine iC di dy ⟨o,b,p,r,d,1⟩ ⟨⟨rfl,z,E,dA,dA,dy⟩,dA⟩ ?_;rintro v av ⟨l,sv,H,Q,R,M⟩;simp only at sv H Q R M;have al:=(D.step g).step M;have bC:=(F.trans g).trans M;have U:=sv.gc;have⟨vI,bs,bS,b9,cp⟩:=lJ R bC (dE 11 0 [.agg [Z 0,Z 0,.str [],.str [],dD,Z 0,Z 0,.str [],dD,dD,dD]]) (dE 11 1 [.agg [Z 2,Z 0,.str [],.str [],dD,Z e.op,Z e.n,.str e.name,sl (e.l.map dU.t),v,dD]]);have bB:=b9 _ _ al;have cb:=cp _ _ _ _ _ sv (aw _);have⟨cL,aA,left,set,O,ap,aX,b8,G,C,Y,hl⟩:=vI.ex;simp only[sS]at C;simp[u,U.1,U.2,C];generalize dZ (av.cons _) av.size _=ds at*
   refine sK dy vI.tp vI.ok J J E λae bT c4 t4 a6=>?_;have⟨an,a7⟩:=vI.tape a6 t4;have l4:=bs.step a7;have et:=bB.step a7;have b7:=bS.trans a7;have hb:=vI.lt;have gi:av.size<ds.size:=bs.lt;have e9:=cb.step a7 J;have gZ:=a6.size;have gP:I.size<av.size:=al.lt;have eM:I.size<hE.size:=(D.step g).lt;simp;refine ej (λfC=>?_) (λfC=>?_)
   ·simp[u,bu,aE];refine iC di dy ⟨o,b,p,r,d,1⟩ ⟨⟨rfl,an,E,dA,dA,dy⟩,dA⟩ ?_;rintro gD gQ ⟨l2,eD,eo,eR,mkV,Wc⟩;simp only at eD eo eR mkV Wc;have eH:=eD.gc;have⟨gv,gj,ca,gw,fe⟩:=Va mkV (l4.step Wc) (b7.trans Wc) J (dE 11 2 [.agg [Z 2,Z 0,.str [],.str [],dD,Z e.op,Z e.n,.str e.name,sl (e.l.map dU.t),v,gD]]);have eX:=gw _ _ J (et.step Wc);have gy:=fe _ _ _ _ _ (e9.step Wc J) (.inr (aw _));have gz:=fe _ _ _ _ _ eD (.inl J);have hd:=Wc.ok.sz;have fin:=ql (cnt:=cnt) (args:=[.ptr b 0 0 0,Z (d+1:Nat)]) (op:=2) (nm:=[]) (e:=e) eX gv ca (gy.cell eM dz) (gz.cell J dy) (pF _ _ _ λx bN=>by obtain⟨y,_,rfl⟩:=List.mem_map.1 bN;simp) J (λ_=>A) J (λs G=>(H s G).1) (λs G=>(eo s G).1) (by
     have c1:=xH H;have hj:=xH eo;have:=aW (wd d) Q;have:=aW (wd d) eR;omega)
    simp[(l4.step Wc).get,gj.get,dX,eH.1,eH.2,eX.get,fin.1];exact fin.2
   ·have fin:=ql (cnt:=cnt) (args:=[.ptr b 0 0 0,Z (d+1:Nat)]) (op:=2) (nm:=[]) (e:=e) (le:=[]) et an b7 (e9.cell eM J) (jl _ _ _ false) (pF _ _ _ λx bN=>by obtain⟨y,_,rfl⟩:=List.mem_map.1 bN;simp) J (λ_=>A) J (λs G=>(H s G).1) dy (by
     have c1:=xH H;have:=aW (wd d) Q;rw[dO.iW];omega)
    simp[l4.get,et.get,dX,fin.1];exact fin.2
  ·simp[u];refine iC P dy ⟨o,b,p,r,1⟩ ⟨⟨rfl,c,E,dy⟩,dy⟩ ?_;rintro _ hE ⟨e,rfl,A,B,j,f⟩;simp only at B j f;have⟨z,g⟩:=c.tape f j;have m:=D.step g;have fin:=mD (i:=⟨o,b,p,r,d,cnt⟩) (args:=[.ptr b 0 0 0,Z d]) (nm:=[120]) m z (F.trans g) A J;simp[sU,m.get,fin.1];exact fin.2
 ·simp[bu];refine ej (λa8=>?_) (λa8=>?_)
  ·simp at a8;obtain⟨d,rfl⟩:∃e,d=e+1:=⟨d-1,J⟩;have aE:binop .sub (Z ((d:Int)+1)) (Z 1)=some (Z d):=by
    rw[qS,<-jA,jH J J];simp
   have⟨N,L⟩:=c.set (th':=aA) (left':=left) (se':=set) (tx':=O) (at2:=ap) (lp':=true) dn Y hl;simp only[sS]at N L;simp[u,C,dX];generalize dZ W b _=ef at*
   have aN:=D.step N;have bC:=F.trans N;simp[u,bu,Ue,Uf,X7,aE];refine iC di dy ⟨o,b,p,r,d,1⟩ ⟨⟨rfl,L,E,dA,dA,dy⟩,dA⟩ ?_;rintro v av ⟨l,sv,H,Q,R,M⟩;simp only at sv H Q R M;have al:=aN.step M;have bS:=bC.trans M;have eA:=Step.cons R.ok R.lt (dE 11 0 [(EL [98] [] ⟨6,0,[],[⟨2,0,[98],[]⟩,⟨1,1,[],[]⟩]⟩).t]);have gi:=M.ok.sz;have⟨gB,eI,eF,e8,gk,e5,_⟩:=(sv.step eA (aw _)).app (R.cons (dE 11 0 [(EL [98] [] ⟨6,0,[],[⟨2,0,[98],[]⟩,⟨1,1,[],[]⟩]⟩).t])) (x:= .arr av.size 0 0 1 false) (xs:=[(EL [98] [] ⟨6,0,[],[⟨2,0,[98],[]⟩,⟨1,1,[],[]⟩]⟩).t]) (l2:=[EL [98] [] ⟨6,0,[],[⟨2,0,[98],[]⟩,⟨1,1,[],[]⟩]⟩]) dz dy (by rw[ig];simp) (.cons (dO.ft _ _) .nil) dy dy dz;have b7:=e5 _ (bS.trans eA) (by simpa using bC.ok.sz);have l3:=aN.step (e5 _ (M.trans eA) (aw _));have U:=e8.gc;have⟨vI,bs,ca,b9,cp⟩:=lJ gk b7 (dE 11 0 [.agg [Z 0,Z 0,.str [],.str [],dD,Z 0,Z 0,.str [],dD,dD,dD]]) (dE 11 1 [.agg [Z 3,Z 0,.str [],.str [],dD,Z 13,Z 0,.str [],sl [(dU.mk 2 0 [98] []).t,(dU.mk 1 2 [] []).t],gB,dD]]);have bB:=b9 _ _ l3;have cb:=cp _ _ _ _ _ e8 (aw _);simp only[EL]at eF;simp[u,Ue,Uf,X7,sU,eF,U.1,U.2];generalize dZ (eI.cons _) eI.size _=ds at*
   have⟨cL,aA,left,set,O,ap,hf,b8,G,C,Y,hl⟩:=vI.ex;have⟨V,dk⟩:=vI.set (th':=aA) (left':=left) (se':=set) (tx':=O) (at2:=ap) (lp':=aX) C Y hl;have fs:=aN.lt;have eS:=bs.lt;have eU:=V.ok.sz;have fin:=ql (cnt:=cnt) (args:=[.ptr b 0 0 0,Z (d+1:Nat)]) (op:=3) (nm:=[]) (e:=⟨13,0,[],[⟨2,0,[98],[]⟩,⟨1,2,[],[]⟩]⟩) (le:=[]) (bB.step V) dk (ca.trans V) ((cb.step V J).cell fs J) (jl _ _ _ false) (pF _ _ _ λx bN=>by obtain⟨y,_,rfl⟩:=List.mem_map.1 bN;simp) J (λ_=> .bin J (.nm _) (.num _)) (by simp[dU.lF,dU.ke,dU.iW]) (λs G=>(List.mem_append.1 G).elim (λq=>(H s q).1) λq=>by rw[List.mem_singleton.1 q];exact Ez dy (.bin J (.nm _) (.num _)) (λI=>absurd rfl I)) dy (by
    have c1:=xH H;have:=aW (wd d) Q;have:=Mt (nm:=[98]) (ix:=[]) (e:=⟨6,0,[],[⟨2,0,[98],[]⟩,⟨1,1,[],[]⟩]⟩) (d:=d) (by rw[dU.iW];omega) (by simp[dU.lF,dU.ke,dU.iW]);rw[dO.Jw,dO.ke,dO.iW];omega)
   have gT:=(bs.step V).get;have gR:=(bB.step V).get;simp only[sS]at C gT gR fin;simp[C,gT,gR,dX];simp at fin;simp[fin.1];exact fin.2
  ·simp[u];refine iC P dy ⟨o,b,p,r,1⟩ ⟨⟨rfl,c,E,dy⟩,dy⟩ ?_;rintro _ hE ⟨e,rfl,A,B,j,f⟩;simp only at B j f;have⟨z,g⟩:=c.tape f j;have m:=D.step g;have fin:=mD (i:=⟨o,b,p,r,d,cnt⟩) (args:=[.ptr b 0 0 0,Z d]) (nm:=[120]) m z (F.trans g) A J;simp[sU,m.get,fin.1];exact fin.2
 iterate 2
  ·by_cases K:(decide (0<d)&&decide (0<left)&& !O)=true
   ·simp at K;obtain⟨⟨a8,bi⟩,bn⟩:=K;subst bn;obtain⟨d,rfl⟩:∃e,d=e+1:=⟨d-1,J⟩;have aE:binop .sub (Z ((d:Int)+1)) (Z 1)=some (Z d):=by
     rw[qS,<-jA,jH J J];simp
    have L:=c.cons (dE 1 0 [.str [109],.str [110]]);have bH:=λ{tb:fJ} (ht:tb.h 224=some yj) s=>de ht [.ptr b 0 0 0,.str s] (W.cons (dE 1 0 [.str [109],.str [110]])) ⟨o,r,b,p,s,rfl,L,J⟩;have N:=Step.cons c.ok c.lt (dE 1 0 [.str [109],.str [110]]);have aN:=D.step N;have c7:binop .sub (Z 8) (Z 8)=some (Z 0):=Fh J J J;have c9:binop .sub (Z 9) (Z 8)=some (Z 1):=Fh J J J;simp[u,bi,bH,c7,c9];refine ej (λS=>?_) (λS=>?_)
    ·simp[u,bu,c7,c9];have gm:=L.cons (dE 1 0 [.str [109],.str [110]]);have e6:=Step.cons L.ok L.lt (dE 1 0 [.str [109],.str [110]]);have eV:=aN.step e6;simp[aE];refine iC er dy ⟨o,b,p,r,d,_⟩ ⟨⟨rfl,gm,E,dA,dA⟩,dA⟩ ?_;rintro v av ⟨l,sv,H,Q,R,M⟩;simp only at sv H Q R M;have U:=sv.gc;have al:=eV.step M;have fin:=λnm=>ql (cnt:=cnt) (args:=[.ptr b 0 0 0,Z (d+1:Nat)]) (op:=4) (nm:=nm) (e:=⟨0,0,[],[]⟩) (le:=[]) al R (((F.trans N).trans e6).trans M) (sv.cell eV.lt (aw _)) (jl _ _ _ false) (jl _ _ _ false) J (λI=>by omega) (by simp[dU.lF,dU.iW]) (λs G=>(H s G).1) dy (by
      have c1:=xH H;have:=aW (wd d) Q;rw[dO.iW];omega)
     simp only[dU.wA,dU.Gy,dU.o7]at fin;simp[U.1,U.2,al.get,λnm=>(fin nm).1];exact(fin _).2
    ·simp[u];refine iC P dy ⟨o,b,p,r,1⟩ ⟨⟨rfl,L,E,dy⟩,dy⟩ ?_;rintro _ hE ⟨e,rfl,A,B,j,f⟩;simp only at B j f;have⟨z,g⟩:=L.tape f j;have m:=aN.step g;have fin:=mD (i:=⟨o,b,p,r,d+1,cnt⟩) (args:=[.ptr b 0 0 0,Z d]) (nm:=[120]) m z ((F.trans N).trans g) A J;simp[sU,m.get,fin.1];exact fin.2
   ·have K:(decide (0<d)&&decide (0<left)&& !O)=false:=by simpa using K
    simp[u,K];refine iC P dy ⟨o,b,p,r,1⟩ ⟨⟨rfl,c,E,dy⟩,dy⟩ ?_;rintro _ hE ⟨e,rfl,A,B,j,f⟩;simp only at B j f;have⟨z,g⟩:=c.tape f j;have m:=D.step g;have fin:=mD (i:=⟨o,b,p,r,d,cnt⟩) (args:=[.ptr b 0 0 0,Z d]) (nm:=[120]) m z (F.trans g) A J;simp[sU,m.get,fin.1];exact fin.2
 ·by_cases K:(decide (0<d)&&decide (0<left)&& !O)=true
  ·simp at K;obtain⟨⟨a8,bi⟩,bn⟩:=K;subst bn;obtain⟨d,rfl⟩:∃e,d=e+1:=⟨d-1,J⟩;have aE:binop .sub (Z ((d:Int)+1)) (Z 1)=some (Z d):=by
    rw[qS,<-jA,jH J J];simp
   have bH:=λ{tb:fJ} (ht:tb.h 224=some yj) s=>de ht [.ptr b 0 0 0,.str s] W ⟨o,r,b,p,s,rfl,c,J⟩;have c7:binop .sub (Z 10) (Z 10)=some (Z 0):=Fh J J J;have c9:binop .add (Z 0) (Z 5)=some (Z 5):=Ah J J J;simp[u,bi,bH];refine ej (λS=>?_) (λS=>?_)
   ·simp[u,bu,c7,c9,aE];refine iC er dy ⟨o,b,p,r,d,_⟩ ⟨⟨rfl,c,E,dA,dA⟩,dA⟩ ?_;rintro v av ⟨l,sv,H,Q,R,M⟩;simp only at sv H Q R M;have U:=sv.gc;have al:=D.step M;have fin:=λnm=>ql (cnt:=cnt) (args:=[.ptr b 0 0 0,Z (d+1:Nat)]) (op:=5) (nm:=nm) (e:=⟨0,0,[],[]⟩) (le:=[]) al R (F.trans M) (sv.cell D.lt (aw _)) (jl _ _ _ false) (jl _ _ _ false) J (λI=>by omega) (by simp[dU.lF,dU.iW]) (λs G=>(H s G).1) dy (by
     have c1:=xH H;have:=aW (wd d) Q;rw[dO.iW];omega)
    simp only[dU.wA,dU.Gy,dU.o7]at fin;simp[U.1,U.2,al.get,λnm=>(fin nm).1];exact(fin _).2
   ·simp[u];refine iC P dy ⟨o,b,p,r,1⟩ ⟨⟨rfl,c,E,dy⟩,dy⟩ ?_;rintro _ hE ⟨e,rfl,A,B,j,f⟩;simp only at B j f;have⟨z,g⟩:=c.tape f j;have m:=D.step g;have fin:=mD (i:=⟨o,b,p,r,d+1,cnt⟩) (args:=[.ptr b 0 0 0,Z d]) (nm:=[120]) m z (F.trans g) A J;simp[sU,m.get,fin.1];exact fin.2
  ·have K:(decide (0<d)&&decide (0<left)&& !O)=false:=by simpa using K
   simp[u,K];refine iC P dy ⟨o,b,p,r,1⟩ ⟨⟨rfl,c,E,dy⟩,dy⟩ ?_;rintro _ hE ⟨e,rfl,A,B,j,f⟩;simp only at B j f;have⟨z,g⟩:=c.tape f j;have m:=D.step g;have fin:=mD (i:=⟨o,b,p,r,d,cnt⟩) (args:=[.ptr b 0 0 0,Z d]) (nm:=[120]) m z (F.trans g) A J;simp[sU,m.get,fin.1];exact fin.2
 ·by_cases K:(decide (0<d)&&decide (0<left)&& !O)=true
  ·simp at K;obtain⟨⟨a8,bi⟩,bn⟩:=K;subst bn;obtain⟨d,rfl⟩:∃e,d=e+1:=⟨d-1,J⟩;have aE:binop .sub (Z ((d:Int)+1)) (Z 1)=some (Z d):=by
    rw[qS,<-jA,jH J J];simp
   have bH:=λ{tb:fJ} (ht:tb.h 224=some yj) s=>de ht [.ptr b 0 0 0,.str s] W ⟨o,r,b,p,s,rfl,c,J⟩;have c7:binop .sub (Z 11) (Z 10)=some (Z 1):=Fh J J J;have c9:binop .add (Z 1) (Z 5)=some (Z 6):=Ah J J J;simp[u,bi,bH];refine ej (λS=>?_) (λS=>?_)
   ·simp[u,bu,c7,c9,aE];refine iC er dy ⟨o,b,p,r,d,_⟩ ⟨⟨rfl,c,E,dA,dA⟩,dA⟩ ?_;rintro v av ⟨l,sv,H,Q,R,M⟩;simp only at sv H Q R M;have U:=sv.gc;have al:=D.step M;have fin:=λnm=>ql (cnt:=cnt) (args:=[.ptr b 0 0 0,Z (d+1:Nat)]) (op:=6) (nm:=nm) (e:=⟨0,0,[],[]⟩) (le:=[]) al R (F.trans M) (sv.cell D.lt (aw _)) (jl _ _ _ false) (jl _ _ _ false) J (λI=>by omega) (by simp[dU.lF,dU.iW]) (λs G=>(H s G).1) dy (by
     have c1:=xH H;have:=aW (wd d) Q;rw[dO.iW];omega)
    simp only[dU.wA,dU.Gy,dU.o7]at fin;simp[U.1,U.2,al.get,λnm=>(fin nm).1];exact(fin _).2
   ·simp[u];refine iC P dy ⟨o,b,p,r,1⟩ ⟨⟨rfl,c,E,dy⟩,dy⟩ ?_;rintro _ hE ⟨e,rfl,A,B,j,f⟩;simp only at B j f;have⟨z,g⟩:=c.tape f j;have m:=D.step g;have fin:=mD (i:=⟨o,b,p,r,d+1,cnt⟩) (args:=[.ptr b 0 0 0,Z d]) (nm:=[120]) m z (F.trans g) A J;simp[sU,m.get,fin.1];exact fin.2
  ·have K:(decide (0<d)&&decide (0<left)&& !O)=false:=by simpa using K
   simp[u,K];refine iC P dy ⟨o,b,p,r,1⟩ ⟨⟨rfl,c,E,dy⟩,dy⟩ ?_;rintro _ hE ⟨e,rfl,A,B,j,f⟩;simp only at B j f;have⟨z,g⟩:=c.tape f j;have m:=D.step g;have fin:=mD (i:=⟨o,b,p,r,d,cnt⟩) (args:=[.ptr b 0 0 0,Z d]) (nm:=[120]) m z (F.trans g) A J;simp[sU,m.get,fin.1];exact fin.2
 ·simp;refine ej (λS=>?_) (λS=>?_)
  ·simp at S;obtain⟨⟨a8,bi⟩,bn⟩:=S;obtain⟨d,rfl⟩:∃e,d=e+1:=⟨d-1,J⟩;have aE:binop .sub (Z ((d:Int)+1)) (Z 1)=some (Z d):=by
    rw[qS,<-jA,jH J J];simp
   have⟨N,L⟩:=c.set (th':=aA) (left':=left) (se':=set) (tx':=true) (at2:=ap) (lp':=aX) dn Y hl;simp only[sS]at N L;simp[u,C,dX];generalize dZ W b _=ef at*
   have aN:=D.step N;have bC:=F.trans N;have⟨cL,aA,left,set,O,ap,aX,b8,G,C,Y,hl⟩:=L.ex;simp only[sS]at C;simp[C];refine sK dy L.tp L.ok J J E λae bT c4 t4 a6=>?_;have⟨an,a7⟩:=L.tape a6 t4;have l4:=aN.step a7;have eb:binop .add (Z 1) (Z ae)=some (Z ((1+ae:Nat):Int)):=Ah dy J J;simp[eb];refine iC di dy ⟨o,b,p,r,0,1+ae⟩ ⟨⟨dy,an,E,dy,dA,dA⟩,dA⟩ ?_;rintro v av ⟨l,sv,H,Q,R,M⟩;simp only at sv H Q R M;replace Q:l.length<=2:=J;replace sv:=sv.deep (show 2*0+2<=2*d+2 by omega);replace H:∀s∈l,MS s/\s.w<=wd d:=λs G=>⟨(H s G).1,aT (H s G).2 (ZB d)⟩;have al:=l4.step M;have b7:=(bC.trans a7).trans M;have U:=sv.gc;have⟨vI,bs,ca,b9,cp⟩:=lJ R b7 (dE 11 0 [.agg [Z 0,Z 0,.str [],.str [],dD,Z 0,Z 0,.str [],dD,dD,dD]]) (dE 11 1 [.agg [Z 7,Z 0,.str [],.str [],dD,Z 0,Z 0,.str [],dD,v,dD]]);have bB:=b9 _ _ al;have cb:=cp _ _ _ _ _ sv (aw _);simp[u,U.1,U.2];generalize dZ (av.cons _) av.size _=ds at*
   have⟨cL,aA,left,set,O,ap,aX,b8,G,C,Y,hl⟩:=vI.ex;have⟨V,dk⟩:=vI.set (th':=aA) (left':=left) (se':=set) (tx':=false) (at2:=ap) (lp':=aX) C Y hl;have eS:=bs.lt;have eU:=V.ok.sz;have fin:=ql (cnt:=cnt) (args:=[.ptr b 0 0 0,Z (d+1:Nat)]) (op:=7) (nm:=[]) (e:=⟨0,0,[],[]⟩) (le:=[]) (bB.step V) dk (ca.trans V) ((cb.step V J).cell l4.lt J) (jl _ _ _ false) (jl _ _ _ false) J (λI=>by omega) (by simp[dU.lF,dU.iW]) (λs G=>(H s G).1) dy (by
    have c1:=xH H;have:=aW (wd d) Q;rw[dO.iW];omega)
   have gT:=(bs.step V).get;have gR:=(bB.step V).get;simp only[sS,dU.wA,dU.Gy,dU.o7]at C gT gR fin;simp[C,gT,gR,dX,fin.1];exact fin.2
  ·simp[u];refine iC P dy ⟨o,b,p,r,1⟩ ⟨⟨rfl,c,E,dy⟩,dy⟩ ?_;rintro _ hE ⟨e,rfl,A,B,j,f⟩;simp only at B j f;have⟨z,g⟩:=c.tape f j;have m:=D.step g;have fin:=mD (i:=⟨o,b,p,r,d,cnt⟩) (args:=[.ptr b 0 0 0,Z d]) (nm:=[120]) m z (F.trans g) A J;simp[sU,m.get,fin.1];exact fin.2
 ·simp[u,C];refine ej (λS=>?_) (λS=>?_)
  ·simp at S;obtain⟨⟨⟨a8,bi⟩,bn⟩,eO⟩:=S;obtain⟨d,rfl⟩:∃e,d=e+1:=⟨d-1,J⟩;have aE:binop .sub (Z ((d:Int)+1)) (Z 1)=some (Z d):=by
    rw[qS,<-jA,jH J J];simp
   have⟨N,L⟩:=c.set (th':=aA) (left':=left) (se':=set) (tx':=O) (at2:=true) (lp':=aX) dn Y hl;simp only[sS]at N L;simp[u,bu,C,dX,aE];generalize dZ W b _=ef at*
   have aN:=D.step N;have bC:=F.trans N;refine iC di dy ⟨o,b,p,r,d,2⟩ ⟨⟨rfl,L,E,dA,dA,dy⟩,dA⟩ ?_;rintro v av ⟨l,sv,H,Q,R,M⟩;simp only at sv H Q R M;have al:=aN.step M;have b7:=bC.trans M;have U:=sv.gc;have⟨vI,bs,ca,b9,cp⟩:=lJ R b7 (dE 11 0 [.agg [Z 0,Z 0,.str [],.str [],dD,Z 0,Z 0,.str [],dD,dD,dD]]) (dE 11 1 [.agg [Z 8,Z 0,.str [],.str [],dD,Z 0,Z 0,.str [],dD,v,dD]]);have bB:=b9 _ _ al;have cb:=cp _ _ _ _ _ sv (aw _);simp[u,U.1,U.2];generalize dZ (av.cons _) av.size _=ds at*
   have⟨cL,aA,left,set,O,ap,aX,b8,G,C,Y,hl⟩:=vI.ex;have⟨V,dk⟩:=vI.set (th':=aA) (left':=left) (se':=set) (tx':=O) (at2:=false) (lp':=aX) C Y hl;have eS:=bs.lt;have eU:=V.ok.sz;have fin:=ql (cnt:=cnt) (args:=[.ptr b 0 0 0,Z (d+1:Nat)]) (op:=8) (nm:=[]) (e:=⟨0,0,[],[]⟩) (le:=[]) (bB.step V) dk (ca.trans V) ((cb.step V J).cell aN.lt J) (jl _ _ _ false) (jl _ _ _ false) J (λI=>by omega) (by simp[dU.lF,dU.iW]) (λs G=>(H s G).1) dy (by
    have c1:=xH H;have:=aW (wd d) Q;rw[dO.iW];omega)
   have gT:=(bs.step V).get;have gR:=(bB.step V).get;simp only[sS,dU.wA,dU.Gy,dU.o7]at C gT gR fin;simp[C,gT,gR,dX,fin.1];exact fin.2
  ·simp[u];refine iC P dy ⟨o,b,p,r,1⟩ ⟨⟨rfl,c,E,dy⟩,dy⟩ ?_;rintro _ hE ⟨e,rfl,A,B,j,f⟩;simp only at B j f;have⟨z,g⟩:=c.tape f j;have m:=D.step g;have fin:=mD (i:=⟨o,b,p,r,d,cnt⟩) (args:=[.ptr b 0 0 0,Z d]) (nm:=[120]) m z (F.trans g) A J;simp[sU,m.get,fin.1];exact fin.2
 ·by_cases K:(decide (0<d)&&decide (0<left)&& !O&& !ap)=true
  ·simp at K;obtain⟨⟨⟨a8,bi⟩,bn⟩,eO⟩:=K;subst bn;subst eO;obtain⟨d,rfl⟩:∃e,d=e+1:=⟨d-1,J⟩;have bH:=λ{tb:fJ} (ht:tb.h 224=some yj) s=>de ht [.ptr b 0 0 0,.str s] W ⟨o,r,b,p,s,rfl,c,J⟩;simp[u,C,bi,bH];refine ej (λS=>?_) (λS=>?_)
   ·simp[Uf,sU];have eh:(I.size=W.size)=False:=by have:=D.lt;simp;omega
    have sv:=SV.lit (d:=2*d+2) (l:=[B8 9,EL [97] [] ⟨2,0,[120],[]⟩]) (es:=[.agg [Z 9,Z 0,.str [99],.str [],dD,Z 0,Z 0,.str [],dD,dD,dD],(EL [97] [] ⟨2,0,[120],[]⟩).t]) c (λ_ _=> .cons (Ri _ _) (.cons (dO.ft _ _) .nil));have dm:=Step.cons c.ok c.lt (dE 11 0 [.agg [Z 9,Z 0,.str [99],.str [],dD,Z 0,Z 0,.str [],dD,dD,dD],(EL [97] [] ⟨2,0,[120],[]⟩).t]);have eu:=D.step dm;have fin:=ql (cnt:=cnt) (args:=[.ptr b 0 0 0,Z (d+1:Nat)]) (op:=4) (nm:=[109]) (e:=⟨0,0,[],[]⟩) (le:=[]) eu (c.cons _) (F.trans dm) (sv.cell D.lt dy) (jl _ _ _ false) (jl _ _ _ false) J (λI=>by omega) (by simp[dU.lF,dU.iW]) (λs G=>by
     rcases List.mem_cons.1 G with rfl|G
     ·exact Rh J
     ·rw[List.mem_singleton.1 G];exact Ez dy (.nm _) (λI=>absurd rfl I)) dy (by
     have:=CH d;simp[dO.ke,dO.iW,VJ,EL,dO.lF (dO.mk 1 0 [97] [] [] (dU.mk 2 0 [120] []) [] []),dU.lF,dU.iW];omega)
    simp only[dU.wA,dU.Gy,dU.o7,EL]at fin;simp at fin;simp[eh,D.get,fin.1];exact fin.2
   ·simp[u];refine iC P dy ⟨o,b,p,r,1⟩ ⟨⟨rfl,c,E,dy⟩,dy⟩ ?_;rintro _ hE ⟨e,rfl,A,B,j,f⟩;simp only at B j f;have⟨z,g⟩:=c.tape f j;have m:=D.step g;have fin:=mD (i:=⟨o,b,p,r,d+1,cnt⟩) (args:=[.ptr b 0 0 0,Z d]) (nm:=[120]) m z (F.trans g) A J;simp[sU,m.get,fin.1];exact fin.2
  ·have K:(decide (0<d)&&decide (0<left)&& !O&& !ap)=false:=by simpa using K
   simp[u,C,K];refine iC P dy ⟨o,b,p,r,1⟩ ⟨⟨rfl,c,E,dy⟩,dy⟩ ?_;rintro _ hE ⟨e,rfl,A,B,j,f⟩;simp only at B j f;have⟨z,g⟩:=c.tape f j;have m:=D.step g;have fin:=mD (i:=⟨o,b,p,r,d,cnt⟩) (args:=[.ptr b 0 0 0,Z d]) (nm:=[120]) m z (F.trans g) A J;simp[sU,m.get,fin.1];exact fin.2
 ·by_cases K:(decide (0<d)&&decide (0<left)&& !O)=true
  ·simp at K;obtain⟨⟨a8,bi⟩,bn⟩:=K;subst bn
   skip
   obtain⟨d,rfl⟩:∃e,d=e+1:=⟨d-1,J⟩;have bH:=λ{tb:fJ} (ht:tb.h 224=some yj) s=>de ht [.ptr b 0 0 0,.str s] W ⟨o,r,b,p,s,rfl,c,J⟩;simp[u,bi,bH];refine ej (λS=>?_) (λS=>?_)
   ·simp[u,C];refine sK dy c.tp c.ok J J E λae bT c4 t4 a6=>?_;have⟨an,a7⟩:=c.tape a6 t4;have l4:=D.step a7;have eb:binop .add (Z 10) (Z ae)=some (Z (10+ae)):=Ah dy J J;simp[eb];have eh:(I.size=bT.size)=False:=by have:=l4.lt;simp;omega
    have sv:=SV.lit (d:=2*d+2) (l:=[B8 (10+ae)]) (es:=[.agg [Z (10+ae),Z 0,.str [99],.str [],dD,Z 0,Z 0,.str [],dD,dD,dD]]) an (λ_ _=> .cons (Ri _ _) .nil);have dm:=Step.cons an.ok an.lt (dE 11 0 [.agg [Z (10+ae),Z 0,.str [99],.str [],dD,Z 0,Z 0,.str [],dD,dD,dD]]);have eu:=l4.step dm;have fin:=ql (cnt:=cnt) (args:=[.ptr b 0 0 0,Z (d+1:Nat)]) (op:=4) (nm:=[109]) (e:=⟨0,0,[],[]⟩) (le:=[]) eu (an.cons _) ((F.trans a7).trans dm) (sv.cell l4.lt dy) (jl _ _ _ false) (jl _ _ _ false) J (λI=>by omega) (by simp[dU.lF,dU.iW]) (λs G=>by rw[List.mem_singleton.1 G];exact Rh J) dy (by
     have:=CH d;simp[dO.ke,dO.iW,VJ];omega)
    simp only[dU.wA,dU.Gy,dU.o7]at fin;simp at fin;simp[eh,l4.get,fin.1];exact fin.2
   ·simp[u];refine iC P dy ⟨o,b,p,r,1⟩ ⟨⟨rfl,c,E,dy⟩,dy⟩ ?_;rintro _ hE ⟨e,rfl,A,B,j,f⟩;simp only at B j f;have⟨z,g⟩:=c.tape f j;have m:=D.step g;have fin:=mD (i:=⟨o,b,p,r,d+1,cnt⟩) (args:=[.ptr b 0 0 0,Z d]) (nm:=[120]) m z (F.trans g) A J;simp[sU,m.get,fin.1];exact fin.2
  ·have K:(decide (0<d)&&decide (0<left)&& !O)=false:=by simpa using K
   simp[u,K];refine iC P dy ⟨o,b,p,r,1⟩ ⟨⟨rfl,c,E,dy⟩,dy⟩ ?_;rintro _ hE ⟨e,rfl,A,B,j,f⟩;simp only at B j f;have⟨z,g⟩:=c.tape f j;have m:=D.step g;have fin:=mD (i:=⟨o,b,p,r,d,cnt⟩) (args:=[.ptr b 0 0 0,Z d]) (nm:=[120]) m z (F.trans g) A J;simp[sU,m.get,fin.1];exact fin.2
 ·simp[u,C];refine ej (λS=>?_) (λS=>?_)
  ·have⟨N,L⟩:=c.set (th':=aA) (left':=left) (se':=true) (tx':=O) (at2:=ap) (lp':=aX) dn Y hl;simp only[sS]at N L;simp[u,C,dX];generalize dZ W b _=ef at*
   have aN:=D.step N;have bC:=F.trans N;refine iC P dy ⟨o,b,p,r,1⟩ ⟨⟨rfl,L,E,dy⟩,dy⟩ ?_;rintro _ hE ⟨e,rfl,A,B,j,f⟩;simp only at B j f;have⟨z,g⟩:=L.tape f j;have m:=aN.step g;have fin:=It (i:=⟨o,b,p,r,d,cnt⟩) (args:=[.ptr b 0 0 0,Z d]) (cs:=[Z 14,Z 0,.str [102],.str [],dD,Z e.op,Z e.n,.str e.name,sl (e.l.map dU.t),dD,dD]) (s:=⟨14,0,[102],[],[],e,[],[]⟩) m z (bC.trans g) rfl
    (.cons (gW ..) (.cons (gW ..) (.cons (ko ..) (.cons (ko ..) (.cons (jl ..) (.cons (gW ..) (.cons (gW ..) (.cons (ko ..) (.cons (pF _ _ _ λx bN=>by obtain⟨y,_,rfl⟩:=List.mem_map.1 bN;simp) (.cons (jl ..) (.cons (jl ..) .nil)))))))))))
    (.mk (λI=>by simp at I) (λI=>by simp at I) dy (λ_=>A) dy dy) (by
      have:=CH d;rw[dO.lF];simp only[dO.sx,dO.KM,dO.vi,dO.yB,dO.iW,dU.iW];omega)
   simp[m.get,fin.1];exact fin.2
  ·simp[u];refine iC P dy ⟨o,b,p,r,1⟩ ⟨⟨rfl,c,E,dy⟩,dy⟩ ?_;rintro _ hE ⟨e,rfl,A,B,j,f⟩;simp only at B j f;have⟨z,g⟩:=c.tape f j;have m:=D.step g;have fin:=mD (i:=⟨o,b,p,r,d,cnt⟩) (args:=[.ptr b 0 0 0,Z d]) (nm:=[120]) m z (F.trans g) A J;simp[sU,m.get,fin.1];exact fin.2
 ·cases O with
  |true=>
   simp[u,C];refine iC P dy ⟨o,b,p,r,1⟩ ⟨⟨rfl,c,E,dy⟩,dy⟩ ?_;rintro _ hE ⟨e,rfl,A,B,j,f⟩;simp only at B j f;have⟨z,g⟩:=c.tape f j;have m:=D.step g;have fin:=mD (i:=⟨o,b,p,r,d,cnt⟩) (args:=[.ptr b 0 0 0,Z d]) (nm:=[120]) m z (F.trans g) A J;simp[sU,m.get,fin.1];exact fin.2
  |false=>
   simp[u,C];refine sK dy c.tp c.ok J J E λae bT c4 t4 a6=>?_;have⟨an,a7⟩:=c.tape a6 t4;have l4:=D.step a7;have bS:=F.trans a7;simp;refine ej (λS=>?_) (λS=>?_)
   ·have fin:=It (i:=⟨o,b,p,r,d,cnt⟩) (args:=[.ptr b 0 0 0,Z d]) (cs:=[Z 15,Z 0,.str [97],.str [102],dD,Z 0,Z 0,.str [],dD,dD,dD]) (s:=⟨15,0,[97],[102],[],⟨0,0,[],[]⟩,[],[]⟩) l4 an bS rfl
     (.cons (gW ..) (.cons (gW ..) (.cons (ko ..) (.cons (ko ..) (.cons (jl ..) (.cons (gW ..) (.cons (gW ..) (.cons (ko ..) (.cons (jl ..) (.cons (jl ..) (.cons (jl ..) .nil)))))))))))
     (.mk (λI=>by simp at I) (λI=>by simp at I) dy (λI=>by simp at I) dy dy) (by
       have:=CH d;rw[dO.lF,dU.lF];simp only[dO.sx,dO.KM,dO.vi,dO.yB,dO.iW,dU.iW,dU.GD];omega)
    simp[l4.get,fin.1];exact fin.2
   ·simp[u];refine iC P dy ⟨o,b,p,r,1⟩ ⟨⟨rfl,an,E,dy⟩,dy⟩ ?_;rintro _ hE ⟨e,rfl,A,B,j,f⟩;simp only at B j f;have⟨z,g⟩:=an.tape f j;have m:=l4.step g;have fin:=mD (i:=⟨o,b,p,r,d,cnt⟩) (args:=[.ptr b 0 0 0,Z d]) (nm:=[120]) m z (bS.trans g) A J;simp[sU,m.get,fin.1];exact fin.2
def aeF(a:Nat):(Wr a).Ok prog cx 136:=
 Al (λc:VU=>c.d) (λa b=>abw (a+1) (abv a b (acw a b))) a
