/- W01 -/
import Derived.Test.YtmoiekepclmgbaaGreatDoorA15
import Derived.Test.YtmoiekepclmgbaaGreatDoorA11
set_option linter.all false
set_option maxRecDepth 100000
set_option maxHeartbeats 0
namespace Go.Proofs.YtmoiekepclmgbaaGreatDoor
noncomputable section
open Go Go.TI Tryz
attribute [-simp] List.map_take List.map_drop List.map_append fU fK fh Bool.not_or Bool.not_and
attribute [simp] fT fM
def okB(a:List Int):Prop:=a.length<=140737488351232/\∀x∈a,0<=x/\x<256
def Tp(b:List Int)(c:Nat)(d:H):Prop:=∃e a,d.get c=some (dS 2 e [.agg [sl (b.map (T.int .u8)),G a]])/\0<=a
structure BJ where
 (L:List Int) (b:Nat) (n:Int)
def wO(a:BJ)(d:List T)(c:H):Prop:=d=[.ptr a.b 0 0 0,G a.n]/\Tp a.L a.b c/\iE 0 c/\1<=a.n/\a.n<=100/\okB a.L
def ui(a:BJ)(g:List T)(e:H)(f:T)(d:H):Prop:=∃c,f= G c/\0<=c/\c<a.n/\Tp a.L a.b d/\Sm a.b e d
def _root_.Go.TI.Sm.out{b:Nat}{h c:H}(a:Sm b (TI.hr h) c):Sm b h (mK h c):=⟨a.ok.out h,a.size,λd e=>by rw[il,a.get d e,iI]⟩
def Da{k:ak}{a b:Int}(d:¬b=0):binop .rem (.int k a) (.int k b)=some (.int k (a.tmod b)):=by
 have c:U7 b 0=false:=by rw[An];simp[d]
 unfold binop;simp[yX,c]
def Sx:(jY BJ wO ui).Ok prog cx 77:=by
 refine jV (tb:=⟨pt [],ht []⟩) jg iT (jr 262163 [] func77) (λ_ _=>5) (λF a h z=>by obtain⟨rfl,_⟩:=z;simp[f77]) ?_;rintro⟨c,f,k⟩ _ h ⟨rfl,⟨g,b,e,q⟩,r,w,y,s,n⟩ H o;simp only at e q w y s n;simp at o;obtain⟨i,m⟩:=o;simp[f77,i,m,e];refine fw (λj=>?_) (λj=>?_)
 ·simp[j];exact⟨0,rfl,Int.le_refl _,dO,⟨g,b,by rw[il,iI];exact e,q⟩,Sm.out (Sm.refl r.hr)⟩
 ·simp at j;have B:IntKind.i64.wrap (b+1)=b+1:=by rw[<-kh];exact kr D D
  have C:IntKind.i64.wrap b=b:=by rw[<-kh];exact kr D D
  have A:Sm f (hr h) _:=(Sm.refl r.hr).put (x:=(dS 2 g [.agg [sl (c.map (T.int .u8)),G b]])) (by rw[iI];exact e) (dS 2 (g+1) [.agg [sl (c.map (T.int .u8)),G (b+1)]]);have l:(fg (hr h) f (dS 2 (g+1) [.agg [sl (c.map (T.int .u8)),G (b+1)]])).get f=_:=(ee (h:=hr h) (by rw[iI];exact e) _ f).trans (aq rfl);simp[i,e,pP,eZ,B];generalize fg (hr h) f _=E at*
  obtain⟨d,rfl⟩:∃d:Nat,b=d:=⟨b.toNat,D⟩;have p:d<c.length:=D;have t:=n c[d] (aC p);have u: -9223372036854775808<=c[d]:=D;have v:c[d]<9223372036854775808:=D;have t0:=Int.tmod_nonneg k t.1;have t1:=Int.tmod_lt_of_pos c[d] (show 0<k by omega);simp[i,m,l,tZ,C,p,u,v,Da (a:=c[d]) (show¬k=0 by omega)];exact⟨_,rfl,t0,t1,⟨_,_,by rw[il];exact l,D⟩,Sm.out A⟩
def LP:iy:=⟨Int,λa=>[G a],λ_=>True,λa=>(eY.mk 1 a [] []).t,λa c b=>by simp at b;rw[b]⟩
def adO:LP.Ok prog cx 132:=by
 refine iq [] (jr 5 [] func132) (λ_=>5) (by simp[LP]) ?_;rintro a _ c b;simp[LP]at a b|-;simp[f132,b];simpa using eY.fold 1 a [] []
def Xb{b:gG}(ht:b.p 132=some LP)(a:Int):rl prog cx b 132 [G a]=some (eY.mk 1 a [] []).t:=iA ht adO a trivial
def Pr:iy:=⟨List Nat,λa=>[.str a],λ_=>True,λa=>(eY.mk 2 0 a []).t,λa c b=>by simp at b;rw[b]⟩
def adP:Pr.Ok prog cx 214:=by
 refine iq [] (jr 5 [] func214) (λ_=>5) (by simp[Pr]) ?_;rintro a _ c b;simp[Pr]at a b|-;simp[f214,b];simpa using eY.fold 2 0 a []
def Xc{b:gG}(ht:b.p 214=some Pr)(a:List Nat):rl prog cx b 214 [.str a]=some (eY.mk 2 0 a []).t:=iA ht adP a trivial
def Pt:iy:=⟨Int×eY×eY,λa=>[G a.1,a.2.1.t,a.2.2.t],λ_=>True,λa=>(eY.mk a.1 0 [] [a.2.1,a.2.2]).t,λa c b=>by
 simp at b;rw[b.1,eY.inj b.2.1,eY.inj b.2.2]⟩
def adR:Pt.Ok prog cx 213:=by
 refine iq [] (jr 119 [] func213) (λ_=>5) (by simp[Pt]) ?_;rintro⟨d,b,c⟩ _ e a;simp[Pt]at a|-;simp[f213,a,iF];simpa using eY.fold d 0 [] [b,c]
def dM{d:gG}(ht:d.p 213=some Pt)(c:Int)(a b:eY):rl prog cx d 213 [G c,a.t,b.t]=some (eY.mk c 0 [] [a,b]).t:=iA ht adR (c,a,b) trivial
def Pu:iy:=⟨List Nat×eY,λa=>[.str a.1,a.2.t],λ_=>True,λa=>(ei.mk 1 0 a.1 [] [] a.2 [] []).t,λa c b=>by
 simp at b;rw[b.1,eY.inj b.2]⟩
def adS:Pu.Ok prog cx 131:=by
 refine iq [] (jr 27 [] func131) (λ_=>5) (by simp[Pu]) ?_;rintro⟨b,c⟩ _ d a;simp[Pu]at a|-;simp[f131,a];rw[ei.oY];rfl
def xD:List iY:=[⟨1,0,[120],0,0,[]⟩,⟨1,0,[121],0,1,[]⟩,⟨2,0,[118],0,0,[]⟩,⟨1,0,[113],2,0,[]⟩,⟨3,0,[109],0,0,[]⟩,⟨3,0,[110],0,0,[]⟩,⟨4,0,[114],0,0,[]⟩,⟨5,0,[99],0,0,[109]⟩,⟨6,0,[102],0,0,[]⟩]
def Eq:iy:=⟨Unit,λ_=>[],λ_=>True,λ_=>sl (xD.map iY.t),λ_ _ _=>rfl⟩
def V1:Eq.Ok prog cx 129:=by
 refine iq [] (jr 1 [] func129) (λ_=>5) (by simp[Eq]) ?_;rintro _ _ b a;simp[Eq]at a|-;simp[f129,iF,xD]
def Un{a:gG}(ht:a.p 129=some Eq):rl prog cx a 129 []=some (sl (xD.map iY.t)):=iA ht V1 () trivial
def wA{c:gG}(ht:c.p 131=some Pu)(a:List Nat)(b:eY):rl prog cx c 131 [.str a,b.t]=some (ei.mk 1 0 a [] [] b [] []).t:=iA ht adS (a,b) trivial
def uF(b:Nat)(e left:Int)(set f a d:Bool)(c:T):List T:=[.ptr b 0 0 0,G e,G left,.bool set,.bool f,.bool a,.bool d,c]
structure Mk(L:List Int)(n:Nat)(h:H)(m b:Nat):Prop where
 ok:iE 0 h
 fp:∀c,Fp h m c->c<h.size
 tp:Tp L b h
 ex:∃ver th left set tx at' lp hv,∃hs:List (List Nat),h.get m=some (dS 8 ver [.agg (uF b th left set tx at' lp hv)])/\Gr h hv 1 (hs.map T.str)/\hs.length=n
def Mk.ne{e:List Int}{h:Nat}{g:H}{d b:Nat}(c:Mk e h g d b):d≠b:=λi=>by
 have⟨k,j,f,_⟩:=c.tp;have⟨_,_,_,_,_,_,_,_,_,a,_⟩:=c.ex;rw[i,f]at a;simp at a
def Mk.lt{c:List Int}{f:Nat}{b:H}{a d:Nat}(e:Mk c f b a d):a<b.size:=e.fp a (.inl rfl)
def Mk.fpb{d:List Int}{g:Nat}{b:H}{c a:Nat}(f:Mk d g b c a):Fp b c a:=by
 have⟨_,_,_,_,_,_,_,_,_,e,_⟩:=f.ex;exact .inr ⟨_,e,_,by simp[gH,T.cells,uF];exact .inl rfl,rfl⟩
def Mk.tape{i:List Int}{m:Nat}{h e:H}{d g:Nat}(f:Mk i m h d g)(a:Sm g h e)(v:Tp i g e):Mk i m e d g/\Step d h e:=by
 have j:e.get d=h.get d:=a.get d f.ne;have⟨z,C,p,_⟩:=f.tp;have⟨y,w,left,set,x,o,u,t,s,q,l,hl⟩:=f.ex;refine⟨⟨a.ok,λc b=>by rw[jt j]at b;rw[a.size];exact f.fp c b,v,y,w,left,set,x,o,u,t,s,by rw[j];exact q,l.mono λc b=>a.get c λk=>?_,hl⟩,⟨a.ok.hp,a.ok.low,by rw[a.size];exact au _⟩,λc _ r=>a.get c λk=>r (by rw[k];exact f.fpb),λc b=>by rw[jt j]at b;exact .inl b⟩;have⟨A,z,B,E,n,_⟩:=l.box b;rw[k,p]at n;simp at n
structure Tw(L:List Int)(b:Nat)(h h':H):Prop where
 ok:iE 0 h'
 size:h.size<=h'.size
 get:∀c,c<h.size->c≠b->h'.get c=h.get c
 tp:Tp L b h'
def Tw.refl{b:List Int}{c:Nat}{a:H}(d:iE 0 a)(e:Tp b c a):Tw b c a a:=⟨d,au _,λ_ _ _=>rfl,e⟩
def Tp.lt{c:List Int}{a:Nat}{b:H}(e:Tp c a b):a<b.size:=by
 obtain⟨_,_,d,_⟩:=e;exact H.fG d
def Tp.eq{b:List Int}{a:Nat}{c d:H}(i:Tp b a c)(f:d.get a=c.get a):Tp b a d:=by
 obtain⟨j,g,e,h⟩:=i;exact⟨j,g,by rw[f];exact e,h⟩
theorem Tw.cons{a:List Int}{b:Nat}{c d:H}(w:Tw a b c d)(e:jv):Tw a b c (d.cons e):=
 ⟨w.ok.cons e,by have:=w.size;simp;omega,λf g h=>by rw[ez,ao (by have:=w.size;omega)];exact w.get f g h,w.tp.eq (by rw[ez,ao (by have:=w.tp.lt;omega)])⟩
theorem Tw.put{f:List Int}{d:Nat}{a e:H}(b:Tw f d a e){c:Nat}{x:jv}(g:e.get c=some x)(m:a.size<=c)(l:d<a.size)(h:jv):Tw f d a (fg e c h):=
 ⟨b.ok.put c h,by rw[ig];exact b.size,λi j k=>by rw[ee g,ao D];exact b.get i j k,b.tp.eq (by rw[ee g,ao D])⟩
def Tw.call{b:List Int}{a:Nat}{f g c:H}(i:Tw b a f g)(d:Sm a g c)(k:Tp b a c):Tw b a f c:=
 ⟨d.ok,by rw[d.size];exact i.size,λe j h=>(d.get e h).trans (i.get e j h),k⟩
def Tw.cut{j:List Int}{e:Nat}{a d:H}(b:Tw j e (TI.hr a) d)(A:iE 0 a)(v:e<a.size){p q:T}{o:T->H->Prop}(x:∃i,jJ d a.size p=some i/\cn i=q)
 (z:Sm e a (w8 a d)->Tp j e (w8 a d)->o q (w8 a d)):Ay a p d o:=by
 obtain⟨i,u,rfl⟩:=x;have h:a.size<=d.size:=b.size;refine⟨b.ok.hp,h,λc B w l=>?_,i,u,z ⟨A.cut b.ok.hp h,rfl,λc y=>?_⟩ (b.tp.eq (Bw b.ok.hp h v))⟩
 ·by_cases f:c=e
  ·have⟨r,E,t,_⟩:=b.tp;rw[f,t]at l;cases l;refine .inr λr k=>(EX r ?_).mono (aw _);simp[gH,T.cells]at k;rcases k with rfl|rfl<;>simp
  ·exact .inl ((b.get c w f).trans (iI a c))
 ·by_cases f:c<a.size
  ·rw[Bw b.ok.hp h f,b.get c f y,iI]
  ·have m:∀g:H,g.size=a.size->g.get c=none:=λg C=>by
    cases s:g.get c with
    |none=>rfl
    |some B=>have:=H.fG s;omega
   rw[m (w8 a d) rfl,m a rfl]
def Mk.tw{h:List Int}{m:Nat}{a f:H}{b i:Nat}(c:Mk h m a b i)(d:Tw h i (TI.hr a) f):Mk h m f b i:=by
 have l:f.get b=a.get b:=(d.get b c.lt c.ne).trans (iI a b);have⟨x,B,o,_⟩:=c.tp;have⟨w,u,left,set,v,n,s,r,q,p,k,hl⟩:=c.ex;have A:a.size<=f.size:=d.size;refine⟨d.ok,λe g=>by rw[jt l]at g;have:=c.fp e g;omega,d.tp,w,u,left,set,v,n,s,r,q,by rw[l];exact p,k.mono λe g=>?_,hl⟩;have⟨y,x,z,C,j,_⟩:=k.box g;exact(d.get e (H.fG j) λt=>by rw[t,o]at j;simp at j).trans (iI a e)
def uy{g:gG}{l:Nat}{e:List Int}{b:Nat}{d:Int}{f:H}{m:af Oper}{j:aa Tmp}{k:List Oper}{o n:iz}{i:jp}(ht:g.h 77=some (jY BJ wO ui))(y:Tp e b f)(u:iE 0 f)(q:1<=d)(r:d<=100)(s:okB e)
 (p:∀(a:Nat) c,(a:Int)<d->Tp e b c->Sm b f c->XK (some (G a,c)) cx (sq prog cx g) l m j k o n i):XK (hl prog cx g 77 [.ptr b 0 0 0,G d] f) cx (sq prog cx g) l m j k o n i:=
 jm Sx ht ⟨e,b,d⟩ ⟨rfl,y,u,q,r,s⟩ (by
  rintro _ c ⟨a,rfl,z,v,w,x⟩;obtain⟨a,rfl⟩:∃t:Nat,a=t:=⟨a.toNat,D⟩;exact p a c v w x)
def M1{i:gG}{p:Nat}{f:List Int}{c:Nat}{e:Int}{b:H}{r:af Oper}{k:List (Nat×Nat)}{l:aa Tmp}{q:Op}{n:List Oper}{g:Nat}{o:List (Nat×Nat)}{m:List (Nat×H×H)}{t s:iz}{j:jp}(ht:i.h 77=some (jY BJ wO ui))(C:Tp f c b)(y:iE 0 b)(v:1<=e)(w:e<=100)(x:okB f)
 (u:∀(a:Nat) d,(a:Int)<e->Tp f c d->Sm c b d->UY (some (G a,d)) cx (sq prog cx i) p r k l q n g o m t s b j):UY (hl prog cx i 77 [.ptr c 0 0 0,G e] b) cx (sq prog cx i) p r k l q n g o m t s b j:=
 lH Sx ht ⟨f,c,e⟩ ⟨rfl,C,y,v,w,x⟩ (by
  rintro _ d ⟨a,rfl,E,z,A,B⟩;obtain⟨a,rfl⟩:∃g:Nat,a=g:=⟨a.toNat,D⟩;exact u a d z A B)
def eY.ft{b:H}{V:Nat->Prop}(a:eY)(d:Nat):FT b V (d+2) a.t a.t:= .inr (.inr ⟨_,_,a.oY,.cons (iC ..) (.cons (iC ..) (.cons (kO ..) (.cons (qM _ _ _ λe c=>by obtain⟨f,_,rfl⟩:=List.mem_map.1 c;simp) .nil))),a.oY⟩)
structure Xx where
 (L:List Int) (m b n d:Nat)
def Zz(a:Xx)(c:List T)(e:H):Prop:=c=[.ptr a.m 0 0 0,G a.d]/\Mk a.L a.n e a.m a.b/\okB a.L/\a.d<=10
def NH(a:Xx)(h:List T)(f:H)(g:T)(e:H):Prop:=∃c:eY,g=c.t/\ME c/\c.w<=3^a.d/\Tp a.L a.b e/\Sm a.b f e
def Iz{f:List Int}{m e n d:Nat}{b c:H}{z:jv}{a k:Int}{s:List Nat}{v:T}{l:List eY}{args:List T}(q:iE 0 b)(h:e<b.size)(y:Tw f e (TI.hr b) c)(g:c.get b.size=some z)
 (o:FT (fg c b.size (dS 4 1 [.agg [G a,G k,.str s,v]])) (λi=>b.size<=i) 11 v (sl (l.map eY.t))) (j:ME ⟨a,k,s,l⟩) (p:(eY.mk a k s l).w<=3^d):
 (fg c b.size (dS 4 1 [.agg [G a,G k,.str s,v]])).get b.size=some (dS 4 1 [.agg [G a,G k,.str s,v]])/\
 Ay b (.agg [G a,G k,.str s,v]) (fg c b.size (dS 4 1 [.agg [G a,G k,.str s,v]])) (NH ⟨f,m,e,n,d⟩ args b):=
 ⟨(ee g _ _).trans (aq rfl),(y.put g (au _) h _).cut q h (FT.top (au 11) (λ_ r=>r) (.cons (iC ..) (.cons (iC ..) (.cons (kO ..) (.cons o .nil))))) λu x=>⟨⟨a,k,s,l⟩,(eY.oY ⟨a,k,s,l⟩).symm,j,p,x,u⟩⟩
abbrev Ps(e:Nat):mr:=jY Xx (λa b c=>Zz a b c/\a.d<e) NH
def TJ(k:Nat)(R:(Ps k).Ok prog cx 212):(Ps (k+1)).Ok prog cx 212:=by
 refine ta (tb:=⟨pt [(132,LP),(214,Pr),(213,Pt)],ht [(77,jY BJ wO ui),(212,Ps k)]⟩) jg iT (jr 35186519589107 [(10,[(8,13),(9,13),(8,17),(9,17)])] func212) (λ_ _=>5) (λi a e bp=>by obtain⟨⟨rfl,_⟩,_⟩:=bp;simp[f212]) ?_;rintro⟨J,m,A,n,d⟩ _ e ⟨⟨rfl,b,r,a6⟩,a7⟩ c1 X;simp only at b r a6 a7;simp at X;obtain⟨w,M⟩:=X;have⟨cX,cp,left,set,cF,bS,cb,b8,b7,K,bT,hl⟩:=b.ex;simp only[uF]at K;have bn:=b.lt;have a8:(m=e.size)=False:=dN;have bi:(m=e.size+1)=False:=dN;simp[f212,w,K,a8,bi];have I:=((Tw.refl b.ok.hr (b.tp.eq (iI e A))).cons (dS 4 0 [.agg [G 0,G 0,.str [],dR]])).cons (dS 1 0 [.str [97],.str [98],.str [120],.str [121],.str [118],.str [120],.str [121]]);refine uy Y I.tp I.ok D D r λca p bX t2 E=>?_;have C:=b.tp.lt;have f:=I.call E t2;have gR:p.get e.size=some (dS 4 0 [.agg [G 0,G 0,.str [],dR]]):=(E.get _ D).trans Y;have gN:p.get (e.size+1)=some (dS 1 0 [.str [97],.str [98],.str [120],.str [121],.str [118],.str [120],.str [121]]):=(E.get _ D).trans Y;have L:=((f.get m bn b.ne).trans (iI e m)).trans K;clear E I;simp[M];refine fw (λP=>?_) (λP=>?_)
 ·simp[w,L];refine uy Y f.tp f.ok D D r λg q _ t3 h=>?_;have j:=f.call h t3;have gR:=(h.get _ D).trans gR;have fin:=Iz (m:=m) (n:=n) (d:=d) (v:=sl []) (l:=[]) (args:=[.ptr m 0 0 0,G d]) b.ok C j gR (qM _ _ _ Y) (.num g) (by rw[eY.mR];simp only[eY.Id,eY.jE];exact Nat.pow_pos D);simp[Xb,gR,fin.1];exact fin.2
 simp;refine fw (λN=>?_) (λN=>?_)
 ·simp[w,L];refine uy Y f.tp f.ok D D r λg q Z t3 h=>?_;have j:=f.call h t3;have gR:=(h.get _ D).trans gR;have gN:=(h.get _ D).trans gN;have o:∃s:List Nat,([.str [97],.str [98],.str [120],.str [121],.str [118],.str [120],.str [121]]:List T)[g]? =some (.str s):=by
   rcases(by omega:g=0\/g=1\/g=2\/g=3\/g=4\/g=5\/g=6)with rfl|rfl|rfl|rfl|rfl|rfl|rfl<;>exact⟨_,rfl⟩
  obtain⟨s,o⟩:=o;generalize([.str [97],.str [98],.str [120],.str [121],.str [118],.str [120],.str [121]]:List T)=av at gN o;have fin:=Iz (m:=m) (n:=n) (d:=d) (v:=sl []) (l:=[]) (args:=[.ptr m 0 0 0,G d]) b.ok C j gR (qM _ _ _ Y) (.nm s) (by rw[eY.mR];simp only[eY.Id,eY.jE];exact Nat.pow_pos D);have Z:g<7:=D;simp[gN,Z,o,Xc,gR,fin.1];exact fin.2
 ·simp;refine fw (λO=>?_) (λO=>?_)
  ·simp[w];simp at N P O;refine jm R Y ⟨J,m,A,n,0⟩ ⟨⟨rfl,b.tw f,r,Y⟩,dO⟩ ?_;rintro _ q ⟨c,rfl,aE,bu,t3,h⟩;simp only at bu t3 h;have j:=f.call h t3;have gR:=(h.get _ D).trans gR;have b6:=H.fG gR;have Q:(e.size=q.size)=False:=dN;have B:(q.cons (dS 4 0 [c.t])).get e.size=_:=(by rw[ez,ao D]:(q.cons (dS 4 0 [c.t])).get e.size=q.get e.size).trans gR;have fin:=Iz (m:=m) (n:=n) (d:=d) (a:=3) (k:=0) (s:=[113]) (v:= .arr q.size 0 0 1 false) (l:=[c]) (args:=[.ptr m 0 0 0,G d]) b.ok C (j.cons (dS 4 0 [c.t])) B
    (.inr (.inl ⟨q.size,0,0,1,false,[c.t],[c.t],rfl,D,by rw[iF,ee B,ao D,ez,aq rfl];simp,.cons (c.ft 8) .nil,rfl⟩)) (.ix aE) (by
      have:3^1<=3^d:=Nat.pow_le_pow_right D D;rw[eY.mR];simp only[eY.Id,eY.kL,eY.jE];omega)
   simp[gR,Q,fin.1];exact fin.2
  simp at N P O;obtain⟨d,rfl⟩:∃c,d=c+1:=⟨d-1,D⟩;have Q:(m=p.size)=False:=by have:=f.size;simp at this;simp;omega
  have ap:IntKind.i64.wrap d=(d:Int):=by rw[<-kh];exact kr D D
  simp[w,Q,L];have j:=f.cons (dS 1 0 [G 6,G 7,G 8,G 11,G 13,G 17]);refine M1 Y j.tp j.ok D D r λu x ae t4 F=>?_;have al:=j.call F t4;have b9:p.size+1=x.size:=by rw[F.size];simp
  have bW:=f.tp.lt;have gO:x.get p.size=some (dS 1 0 [G 6,G 7,G 8,G 11,G 13,G 17]):=(F.get _ D).trans Y;have B:x.get e.size=_:=((F.get _ D).trans (by rw[ez,ao (by have:=H.fG gR;omega)])).trans gR;have o:∃s:Int,([G 6,G 7,G 8,G 11,G 13,G 17]:List T)[u]? =some (G s)/\6<=s:=by
   rcases(by omega:u=0\/u=1\/u=2\/u=3\/u=4\/u=5)with rfl|rfl|rfl|rfl|rfl|rfl<;>exact⟨_,rfl,D⟩
  obtain⟨s,o,bs⟩:=o;generalize([G 6,G 7,G 8,G 11,G 13,G 17]:List T)=av at*
  have ae:u<6:=D;simp[w,M,gO,o,ae,tZ,ap];refine lH R Y ⟨J,m,A,n,d⟩ ⟨⟨rfl,b.tw al,r,dO⟩,dO⟩ ?_;rintro _ V ⟨c,rfl,aN,bA,t5,y⟩;simp only at bA t5 y;have an:=al.call y t5;have aA:=(y.get _ D).trans B;have bC:fQ x V p.size=true:=fZ (y.get _ D);simp[w,M,tZ,ap,bC];refine lH R Y ⟨J,m,A,n,d⟩ ⟨⟨rfl,b.tw an,r,dO⟩,dO⟩ ?_;rintro _ W ⟨S,rfl,aX,bB,t6,z⟩;simp only at bB t6 z;have bN:=an.call z t6;have U:=(z.get _ D).trans aA;have bH:fQ V W p.size=true:=fZ (z.get _ D);have cL:fQ x W p.size=true:=fZ ((z.get _ D).trans (y.get _ D));have fin:=Iz (m:=m) (n:=n) (d:=d+1) (a:=s) (k:=0) (s:=[]) (v:=sl [c.t,S.t]) (l:=[c,S]) (args:=[.ptr m 0 0 0,G (d+1:Nat)]) b.ok C bN U (qM _ _ _ Y) (.bin bs aN aX) (by
   have:=Nat.pow_pos (n:=d) (show 0<3 by omega);rw[eY.mR,Nat.pow_succ];simp only[eY.Id,eY.kL,eY.jE];omega)
  simp[dM,bH,U,fin.1];exact fin.2
def JQ(a:Nat):(Ps a).Ok prog cx 212:=yW (λb:Xx=>b.d) TJ a
def Nw(d c:Nat)(b:H)(e:Nat)(f:T)(a:Nat):Prop:=d<=a/\a<c/\¬Fp b e a/\eG f≠some a
def NT(a:Nat):eG .lr≠some a:=by show(none:aa Nat)≠some a;simp
def SV(f e:Nat)(b:H)(g h:Nat)(c:T)(i:List ei):Prop:=∃d,Gr b c 11 d/\jh (FT b (Nw f e b g c) (h+2)) d (i.map ei.t)/\∀a,eG c=some a->f<=a/\a<e/\¬Fp b g a
theorem SV.nil(d c:Nat)(b:H)(e a:Nat):SV d c b e a dR []:=⟨[],Gr.nil _ _,.nil,λg f=>by simp at f⟩
def SV.same{i h m k:Nat}{f g:H}{d j:Nat}{n:T}{l:List ei}(r:SV i h f d j n l)(v:m<=i)(w:h<=k)(c:∀a,i<=a->a<h->¬Fp f d a->g.get a=f.get a/\¬Fp g d a):SV m k g d j n l:=by
 obtain⟨p,q,o,e⟩:=r;refine⟨p,q.mono λa b=>(c a (e a b).1 (e a b).2.1 (e a b).2.2).1,o.ft λa b=>⟨⟨by have:=b.1;omega,by have:=b.2.1;omega,(c a b.1 b.2.1 b.2.2.1).2,b.2.2.2⟩,(c a b.1 b.2.1 b.2.2.1).1⟩,λa b=>?_⟩;have⟨s,t,u⟩:=e a b;exact⟨D,D,(c a s t u).2⟩
def SV.step{i b:Nat}{a f:H}{c e:Nat}{l:T}{h:List ei}(m:SV i b a c e l h)(k:Step c a f)(o:b<=a.size):SV i b f c e l h:=
 m.same (au _) (au _) λd _ n g=>⟨k.get d D g,λj=>(k.fp d j).elim g λj=>by omega⟩
def SV.wide{f c g d:Nat}{b:H}{h a:Nat}{i:T}{e:List ei}(l:SV f c b h a i e)(j:g<=f)(k:c<=d):SV g d b h a i e:=l.same j k λ_ _ _ m=>⟨rfl,m⟩
def SV.box{e d:Nat}{i:H}{l h:Nat}{g:T}{k:List ei}(c:SV e d i l h g k){a:Nat}(j:e<=a/\a<d->False):eG g≠some a:=λf=>by
 obtain⟨_,_,_,c⟩:=c;exact j ⟨(c a f).1,(c a f).2.1⟩
def SV.qh{f e:Nat}{b:H}{c g:Nat}{i:T}{h:List ei}(l:SV f e b c g i h){a:Nat}{m:jv}(d:Lb c b a m)(q:a<f\/e<=a)(j:jv):SV f e (fg b a j) c g i h:=
 l.same (au _) (au _) λn o p k=>⟨by rw[ee d.get,ao D],by rw[jt (show(fg b a j).get c=b.get c by rw[ee d.get,ao (br d.ne)])];exact k⟩
def SV.ft{i h:Nat}{e:H}{j d:Nat}{k:T}{a:List ei}(p:SV i h e j d k a):FT e (Nw i h e j .lr) (d+3) k (sl (a.map ei.t)):=by
 obtain⟨n,g,b,q⟩:=p;have o:=g.jM;rcases g with⟨rfl,rfl⟩|⟨c,m,y,v,A,rfl,w,x⟩
 ·cases hl:a.map ei.t with
  |nil=>exact jS _ _ _ _
  |cons z a=>rw[hl]at b;cases b
 ·have⟨r,s,u⟩:=q c rfl;exact .inr (.inl ⟨c,m,0,_,false,n,_,rfl,⟨r,s,u,NT c⟩,o,b.ft λl f=>⟨⟨f.1,f.2.1,f.2.2.1,NT l⟩,rfl⟩,rfl⟩)
def ei.ft{c:H}{V:Nat->Prop}(b:ei)(d:Nat):FT c V (d+2) b.t b.t:=by
 have f:∀a:List eY,FT c V (d+1) (sl (a.map eY.t)) (sl (a.map eY.t)):=λa=>qM _ _ _ λh e=>by obtain⟨i,_,rfl⟩:=List.mem_map.1 e;simp
 have g:∀a:List ei,FT c V (d+1) (sl (a.map ei.t)) (sl (a.map ei.t)):=λa=>qM _ _ _ λh e=>by obtain⟨i,_,rfl⟩:=List.mem_map.1 e;simp
 exact .inr (.inr ⟨_,_,b.oY,.cons (iC ..) (.cons (iC ..) (.cons (kO ..) (.cons (kO ..) (.cons (f _) (.cons (iC ..) (.cons (iC ..) (.cons (kO ..) (.cons (f _) (.cons (g _) (.cons (g _) .nil)))))))))),b.oY⟩)
def Mk.same{i:List Int}{m:Nat}{b c:H}{f g:Nat}(e:Mk i m b f g)(r:iE 0 c)(v:b.size<=c.size)(h:∀a,Fp b f a->c.get a=b.get a):Mk i m c f g:=by
 have k:=h f (.inl rfl);have⟨u,s,left,set,t,n,q,l,p,j,o,hl⟩:=e.ex;refine⟨r,λa d=>by rw[jt k]at d;have:=e.fp a d;omega,e.tp.eq (h g e.fpb),u,s,left,set,t,n,q,l,p,by rw[k];exact j,o.mono λa d=>h a (.inr ⟨_,j,l,by simp[gH,T.cells,uF],d⟩),hl⟩
theorem Mk.cons{b:List Int}{f:Nat}{d:H}{e c:Nat}(a:Mk b f d e c)(g:jv):Mk b f (d.cons g) e c:=a.same (a.ok.cons g) Y λh i=>by rw[ez,ao (by have:=a.fp h i;omega)]
def Mk.qh{d:List Int}{h:Nat}{b:H}{c e:Nat}(f:Mk d h b c e){a:Nat}{l:jv}(g:Lb c b a l)(i:jv):Mk d h (fg b a i) c e:=f.same (f.ok.put a i) (by rw[ig];exact au _) λm j=>by rw[ee g.get,ao (λk=>g.nf (by rw[<-k];exact j))]
def Mk.hr{b:List Int}{f:Nat}{a:H}{e c:Nat}(d:Mk b f a e c):Mk b f (TI.hr a) e c:=d.same d.ok.hr (au _) λg _=>iI a g
def Mk.out{b:List Int}{e:Nat}{h a:H}{m c:Nat}(d:Mk b e a m c):Mk b e (mK h a) m c:=d.same (d.ok.out h) (au _) λf _=>il h a f
def SV.out{e c:Nat}{h a:H}{m b:Nat}{f:T}{d:List ei}(j:SV e c a m b f d):SV e c (mK h a) m b f d:=
 j.same (au _) (au _) λg _ _ i=>⟨il h a g,by rw[jt (il h a m)];exact i⟩
def Mk.set{j:List Int}{h:Nat}{c:H}{d b f:Nat}{s left th' left':Int}{r t l n se' tx' at2 lp':Bool}{a:T}{g:List (List Nat)}(e:Mk j h c d b)(k:c.get d=some (dS 8 f [.agg (uF b s left r t l n a)]))(m:Gr c a 1 (g.map T.str))(hl:g.length=h):
 Step d c (fg c d (dS 8 (f+1) [.agg (uF b th' left' se' tx' at2 lp' a)]))/\Mk j h (fg c d (dS 8 (f+1) [.agg (uF b th' left' se' tx' at2 lp' a)])) d b:=by
 obtain⟨i,o,p,q⟩:=DB e.ok e.fp k (cells':=uF b th' left' se' tx' at2 lp' a) (λu a=>by
  simp only[uF,cu,cO,or_false]at a;rcases a with rfl|rfl|rfl|rfl|rfl|rfl|rfl|rfl<;>first|exact .inr (.inl rfl)|exact .inl (by simp[uF])) _ rfl
 exact⟨i,⟨i.ok.hp,i.ok.low,aw _⟩,o,e.tp.eq (by rw[ee k,ao (br e.ne)]),f+1,th',left',se',tx',at2,lp',a,g,p,q _ _ _ m dP,hl⟩
def SV.app{A:List Int}{n h p:Nat}{b:H}{d C v:Nat}{u x:T}{xs:List T}{q l2:List ei}(Z:SV h p b d v u q)(k:Mk A n b d C)(an:h<=b.size)(al:p<=b.size)(X:b.jM x=some xs)(J:jh (FT b (Nw h p b d u) (v+2)) xs (l2.map ei.t))(R:∀i∈xs,i.cells.length=11)(V:xs≠ [])(ap:q.length+l2.length<=1000000):
 ∃z f,jn cx b 193 193 u x=some (.val z f)/\SV h f.size f d v z (q++l2)/\Mk A n f d C/\(∀o,Step d o b->o.size<=h->Step d o f)/\∀e,e<h->f.get e=b.get e:=by
 obtain⟨m,O,B,r⟩:=Z;have l1:m.length=q.length:=by simpa using B.length
 have l3:xs.length=l2.length:=by simpa using J.length
 obtain⟨z,f,i,e,F,ae,N,rfl,K,g,j,l⟩:=O.app (cx:=cx) k.ok Bt rfl Br Bt rfl rfl Y X R V dN;have w:¬Fp b d e:=λI=>g.elim (λg=>(r e g).2.2 I) λg=>by have:=k.fp e I;omega
 have W:=l.sz;have U:h<=e:=g.elim (λg=>(r e g).1) λg=>by omega
 have S:=H.fG K;have y:f.get d=b.get d:=j d (λr=>w (by rw[<-r];exact .inl rfl)) k.lt;have M:∀a,Nw h p b d u a->Nw h f.size f d (.arr e F 0 (m++xs).length false) a/\f.get a=b.get a:=λa c=>by
  have L:a≠e:=λi=>g.elim (λg=>c.2.2.2 (by rw[i];exact g)) λg=>by have:=c.2.1;omega
  exact⟨⟨c.1,by have:=c.2.1;omega,by rw[jt y];exact c.2.2.1,by simp;exact br L⟩,j a L (by have:=c.2.1;omega)⟩
 refine⟨_,f,i,⟨m++xs,.inr ⟨e,F,ae,N,m++xs,rfl,K,aI⟩,?_,λa E=>?_⟩,k.same ⟨l.hp,l.low,aw _⟩ W λa c=>j a (λi=>w (by rw[<-i];exact c)) (k.fp a c),λo s hl=>⟨⟨l.hp,l.low,by have:=s.ok.sz;omega⟩,λa P Q=>?_,λa c=>by rw[jt y]at c;exact s.fp a c⟩,λa c=>j a D D⟩
 ·rw[List.map_append];exact(B.ft M).append (J.ft M)
 ·simp at E;subst E;exact⟨U,S,by rw[jt y];exact w⟩
 ·exact(j a D (by have:=s.ok.sz;omega)).trans (s.get a P Q)
def wd(a:Nat):Nat:=100*10^a
def Np(a:Nat):wd (a+1)=10*wd a:=by unfold wd;rw[Nat.pow_succ];omega
def DV(a:Nat):100<=wd a:=by
 induction a with
 |zero=>decide
 |succ a b=>rw[Np];omega
structure U8 where
 (L:List Int) (m b n d cnt:Nat)
def okM(a:U8)(c:H):Prop:=Mk a.L a.n c a.m a.b/\okB a.L/\a.d<=2/\a.n+a.d<=10/\a.cnt<=3
def RV(a:U8)(i:List T)(f:H)(h:T)(c:H):Prop:=∃e,SV f.size c.size c a.m (2*a.d+2) h e/\(∀g∈e,MS g/\g.w<=wd a.d)/\e.length<=a.cnt/\Mk a.L a.n c a.m a.b/\Step a.m f c
def HY(a:U8)(i:List T)(g:H)(h:T)(c:H):Prop:=∃f e,h= .agg f/\f.length=11/\FT c (Nw g.size c.size c a.m .lr) (2*a.d+4) h e.t/\MS e/\e.w<=wd a.d/\Mk a.L a.n c a.m a.b/\Step a.m g c
abbrev Zu(e:Nat):mr:=jY U8 (λa b c=>(b=[.ptr a.m 0 0 0,G a.d,G a.cnt]/\okM a c)/\a.d<e) RV
abbrev rMt(e:Nat):mr:=jY U8 (λa b c=>(b=[.ptr a.m 0 0 0,G a.d]/\okM a c)/\a.d<e) HY
def ad4(k:Nat)(an:(rMt k).Ok prog cx 169):(Zu k).Ok prog cx 130:=by
 refine jV (tb:=⟨pt [],ht [(169,rMt k)]⟩) jg iT (jr 4194759 [] func130) (λ_ _=>10) (λe a p Z=>by obtain⟨⟨rfl,_⟩,_⟩:=Z;simp[f130]) ?_;rintro⟨A,f,B,S,m,C⟩ _ p ⟨⟨rfl,v,I,M,P,b⟩,O⟩ h K;simp only at v I M P b O;simp at K;obtain⟨o,q,r⟩:=K;simp[f130];refine uH C (λe h n=>∃u j,SV p.size n.size n f (2*m+2) u j/\(∀l∈j,MS l/\l.w<=wd m)/\j.length=e/\Mk A S n f B/\Step f (hr p) n/\dT h 0 (.ptr f 0 0 0)/\dT h 1 (G m)/\dT h 2 (G C)/\dT h 7 u/\dT h 8 (G e)) ?_ D (k:=0) D ⟨dR,[],SV.nil _ _ _ _ _,Y,rfl,v.hr,Step.refl v.ok.hr,by simp[o,q,r]⟩;rintro e h n bi ⟨u,j,sv,hl,bn,y,z,o,q,r,F,H⟩;have⟨bC,bA,left,set,bB,aX,bu,bs,bp,E,a6,a8⟩:=y.ex;simp only[uF]at E;simp[o,r,H,E];refine fw (λN=>?_) (λN=>?_)
 ·simp at N;simp[o,q,F];refine jm an Y ⟨A,f,B,S,m,0⟩ ⟨⟨rfl,y,I,M,P,Y⟩,O⟩ ?_;rintro _ d ⟨c,l,rfl,L,ft,X,Q,g,s⟩;simp only at ft Q g s;have al:=z.ok.sz;have R:=s.ok.sz;simp at al;have aA:=((sv.step s (au _)).step (Step.cons g.ok g.lt (dS 11 0 [.agg c])) R).wide (au _) R;have J:∀i,i<d.size->(d.cons (dS 11 0 [.agg c])).get i=d.get i:=λi b=>by rw[ez,ao D]
  have W:FT (d.cons (dS 11 0 [.agg c])) (Nw p.size d.size (d.cons (dS 11 0 [.agg c])) f u) (2*m+4) (.agg c) l.t:=ft.mono λi b=>⟨⟨by have:=b.1;omega,b.2.1,by rw[jt (J f g.lt)];exact b.2.2.1,sv.box λU=>by have:=b.1;omega⟩,J i b.2.1⟩;have⟨aN,a7,V,aE,ap,av,_⟩:=aA.app (g.cons (dS 11 0 [.agg c])) (x:= .arr d.size 0 0 1 false) (xs:=[.agg c]) (l2:=[l]) dN Y (by rw[iF];simp) (.cons W .nil) (by simp[T.cells,L]) Y dN;simp[o,q,r,H,V,L,iZ (show-9223372036854775808<=(e:Int)+1 by omega) (show(e:Int)+1<9223372036854775808 by omega)];exact⟨e+1,D,D,aN,j++[l],aE,λx ae=>(List.mem_append.1 ae).elim (hl x) λU=>by rw[List.mem_singleton.1 U];exact⟨X,Q⟩,dN,ap,av _ ((z.trans s).trans (Step.cons g.ok g.lt _)) Y,Y⟩
 ·simp[F];exact⟨j,sv.out,hl,dO,y.out,z.out⟩
def Mk.held{s:List Int}{q:Nat}{c h:H}{a b f:Nat}{m left:Int}{l n g k:Bool}{p o:T}{j:List (List Nat)}{w:List Nat}(d:Mk s q c a b)(t:c.get a=some (dS 8 f [.agg (uF b m left l n g k p)]))(v:Gr c p 1 (j.map T.str))(hl:j.length=q)(x:Xt c p 1 ((j++[w]).map T.str) o h):
 h.get a=c.get a/\Step a c (fg h a (dS 8 (f+1) [.agg (uF b m left l n g k o)]))/\Mk s (q+1) (fg h a (dS 8 (f+1) [.agg (uF b m left l n g k o)])) a b:=by
 have⟨e,C⟩:=yJ (i:=7) d.ok d.fp t (by simp[uF]) dP v x;have⟨r,y,A,_⟩:=C _ rfl;have u:=e.trans t;have⟨J,I,z,_⟩:=d.tp;refine⟨e,r,⟨r.ok.hp,r.ok.low,aw _⟩,y,d.tp.eq ?_,f+1,m,left,l,n,g,k,o,j++[w],(ee u _ a).trans (aq rfl),A,dN⟩;rw[ee u,ao (br d.ne)];refine x.2.1 b d.tp.lt λB=>?_;have⟨E,f,F,K,e,_⟩:=v.box B;rw[z]at e;simp at e
def Mk.drop{p:List Int}{g:Nat}{b:H}{c a l:Nat}{i left:Int}{h j e f:Bool}{n d:T}{m:List (List Nat)}(k:Mk p (g+1) b c a)(q:b.get c=some (dS 8 l [.agg (uF a i left h j e f n)]))(hl:m.length=g+1)(r:Gr b d 1 ((m.map T.str).take g))(s:eG d=eG n):
 Step c b (fg b c (dS 8 (l+1) [.agg (uF a i left h j e f d)]))/\Mk p g (fg b c (dS 8 (l+1) [.agg (uF a i left h j e f d)])) c a:=by
 obtain⟨o,t,u,v⟩:=DB k.ok k.fp q (cells':=uF a i left h j e f d) (λw hm=>by
  simp only[uF,cu,cO,or_false]at hm;rcases hm with rfl|rfl|rfl|rfl|rfl|rfl|rfl|hm
  ·exact .inl (by simp[uF])
  iterate 6 exact .inr (.inl rfl)
  exact .inr (.inr ⟨n,by simp[uF],by rw[hm];exact s⟩)) _ rfl
 exact⟨o,⟨o.ok.hp,o.ok.low,aw _⟩,t,k.tp.eq (by rw[ee q,ao (br k.ne)]),l+1,i,left,h,j,e,f,d,m.take g,u,by rw[List.map_take];exact v _ _ _ r dP,by rw[List.length_take];omega⟩
structure IBk where
 (L:List Int) (m b n d:Nat) (s:List Nat)
def adD(a:IBk)(c:List T)(e:H):Prop:=c=[.ptr a.m 0 0 0,.str a.s,G a.d]/\Mk a.L a.n e a.m a.b/\okB a.L/\a.d<=2/\a.n+a.d<=9
abbrev rBk(g:Nat):mr:=jY IBk (λa c e=>adD a c e/\a.d<g) (λa c e h f=>RV ⟨a.L,a.m,a.b,a.n,a.d,2⟩ c e h f)
def ae2(q:Nat)(aX:(Zu q).Ok prog cx 130):(rBk q).Ok prog cx 216:=by
 refine jV (tb:=⟨pt [],ht [(77,jY BJ wO ui),(130,Zu q)]⟩) jg iT (jr 199 [] func216) (λ_ _=>10) (λi a f aN=>by obtain⟨⟨rfl,_⟩,_⟩:=aN;simp[f216]) ?_;rintro⟨R,d,S,n,T,s⟩ _ f ⟨⟨rfl,t,p,B,aA⟩,C⟩ bA A;simp only at t p B aA C;simp at A;obtain⟨z,Z,ae⟩:=A;have g:=t.hr;have⟨P,N,left,set,O,x,I,H,F,b,c,hl⟩:=g.ex;have⟨bi,al,k,j⟩:=c.my (cx:=cx) g.ok sO rfl yq rfl Y Y s dN;have⟨K,w,e⟩:=g.held b c hl j;have m:=K.trans b;simp only[uF]at b m w e;have y:f.get d=_:=(iI f d).symm.trans b;have bu:(d=f.size)=False:=by have:=t.lt;simp;omega
 rw[pB]at k;simp[f216,z,Z,ae,y,k,m,eZ,j.1.iN,j.1.cells];generalize fg al d _=bn at*
 clear b y m K j k c g;have⟨P,N,left,set,O,x,I,H,F,b,c,hl⟩:=e.ex;simp only[uF]at b;simp[b];refine uy Y e.tp e.ok D D p λr bp bs t2 a7=>?_;have⟨a6,L⟩:=e.tape a7 t2;have U:binop .add (G 1) (G r)=some (G ((1+r:Nat):Int)):=by rw[iZ D D];simp
 simp[U];refine jm aX Y ⟨R,d,S,n+1,T,1+r⟩ ⟨⟨Y,a6,p,B,dO,dO⟩,C⟩ ?_;rintro v an ⟨l,sv,E,aE,u,M⟩;simp only at sv E aE u M;have⟨P,N,left,set,O,x,I,H,F,b,c,hl⟩:=u.ex;have X:=b;simp only[uF]at b;have av:=c.len (cx:=cx) an Vi _ rfl;have⟨bi,W,o,ap⟩:=c.cut (cx:=cx) (ty:=Vi) rfl yq rfl (n:=n) dN dN;have⟨h,J⟩:=u.drop X hl o ap;have V:binop .sub (G ((n:Int)+1)) (G 1)=some (G n):=by
  rw[tZ,<-kh,kr D D];simp
 simp only[uF]at h J;simp[z,b,av,hl,V,W,eZ,o.iN,o.cells];have a8:=((w.trans L).trans M).trans h;have Q:=(w.trans L).ok.sz;simp at Q;exact⟨l,((sv.step h (au _)).wide Q (by have:=h.ok.sz;simp)).out,E,dO,J.out,a8.out⟩
def BX:mr:=⟨λe a=>∃d c b f i,e=[.ptr b 0 0 0,.str i]/\Mk d c a b f/\c<=100,λ_ a h g=>g=a/\Kr h⟩
def VX:BX.Ok prog cx 215:=by
 refine Lr (tb:=⟨pt [(124,Es)],ht []⟩) jg iT (jr 19 [] func215) false (λ_ _=>5) (λq a k=>by obtain⟨e,o,n,f,p,rfl,_⟩:=k;simp[f215]) ?_;rintro _ a ⟨e,o,n,f,p,rfl,d,s⟩ y c;simp at c;obtain⟨i,j⟩:=c;have⟨x,v,left,set,w,r,u,t,l,b,h,hl⟩:=d.ex;simp only[uF]at b;have m:=(h.mono (h':=hr a) λg _=>iI a g).qC Y;simp[f215,i,j,b,m,QU,show l.length<=1099511627776 by omega];exact sg a _ _ d.ok.hp (Fr.refl _ _) rfl ⟨rfl,Y⟩
def aia{d:H}{b:Nat->Prop}(h:ei)(c:Nat):jh (FT d b (c+1)) h.cs h.cs:=by
 have f:∀a:List eY,FT d b (c+1) (sl (a.map eY.t)) (sl (a.map eY.t)):=λa=>qM _ _ _ λi e=>by obtain⟨j,_,rfl⟩:=List.mem_map.1 e;simp
 have g:∀a:List ei,FT d b (c+1) (sl (a.map ei.t)) (sl (a.map ei.t)):=λa=>qM _ _ _ λi e=>by obtain⟨j,_,rfl⟩:=List.mem_map.1 e;simp
 exact .cons (iC ..) (.cons (iC ..) (.cons (kO ..) (.cons (kO ..) (.cons (f _) (.cons (iC ..) (.cons (iC ..) (.cons (kO ..) (.cons (f _) (.cons (g _) (.cons (g _) .nil))))))))))
def J6{i:U8}{args:List T}{a c:H}{r:jv}{cs:List T}{s:ei}(e:Lb i.m c a.size r)(g:Mk i.L i.n c i.m i.b)(p:Step i.m (TI.hr a) c)(hl:cs.length=11)(j:jh (FT c (Nw (a.size+1) c.size c i.m .lr) (2*i.d+3)) cs s.cs)(k:MS s)(o:s.w<=wd i.d):
 (fg c a.size (dS 11 1 [.agg cs])).get a.size=some (dS 11 1 [.agg cs])/\HY i args a (.agg cs) (mK a (fg c a.size (dS 11 1 [.agg cs]))):=by
 have l:(fg c a.size (dS 11 1 [.agg cs])).get i.m=c.get i.m:=by rw[ee e.get,ao (br e.ne)]
 have q:=Step.qh g.ok e (dS 11 1 [.agg cs]) _ p (au _);refine⟨(ee e.get _ _).trans (aq rfl),cs,s,rfl,hl,?_,k,o,(g.qh e _).out,q.out⟩;refine .inr (.inr ⟨cs,s.cs,rfl,j.ft λh f=>⟨⟨by have:=f.1;omega,by have:=f.2.1;simp;omega,?_,NT h⟩,?_⟩,s.oY⟩)
 ·rw[jt (il a _ i.m),jt l];exact f.2.2.1
 ·rw[il,ee e.get,ao (by have:=f.1;omega)]
def F9(c:List Nat)(b:List eY)(a:eY):ei:=⟨1,0,c,[],b,a,[],[]⟩
def FX{d:List Nat}{b:List eY}{c:eY}(g:∀i∈b,ME i)(f:ME c)(h:b≠ []->d=[113]):MS (F9 d b c):=
 .mk (λa=>by unfold F9 at a;simp at a) (λ_ a=>h a) g (λ_=>f) (λe a=>by unfold F9 at a;simp at a) (λe a=>by unfold F9 at a;simp at a)
def OM{nm:List Nat}{ix:List eY}{e:eY}{d:Nat}(a:eY.ws ix<=20)(b:e.w<=20):(F9 nm ix e).w<=wd d:=by
 have:=DV d;rw[ei.mR];unfold F9;simp only[ei.us,ei.MQ,ei.xh,ei.Ap,ei.jE];omega
abbrev afr(f:U8)(e:List T)(b d:H)(c:List Nat)(a:eY):Prop:=
 (fg d b.size (dS 11 1 [.agg [G 1,G 0,.str c,.str [],sl [],G a.op,G a.n,.str a.name,sl (a.l.map eY.t),sl [],sl []]])).get b.size=some (dS 11 1 [.agg [G 1,G 0,.str c,.str [],sl [],G a.op,G a.n,.str a.name,sl (a.l.map eY.t),sl [],sl []]])/\
 HY f e b (.agg [G 1,G 0,.str c,.str [],sl [],G a.op,G a.n,.str a.name,sl (a.l.map eY.t),sl [],sl []]) (mK b (fg d b.size (dS 11 1 [.agg [G 1,G 0,.str c,.str [],sl [],G a.op,G a.n,.str a.name,sl (a.l.map eY.t),sl [],sl []]])))
def Nc{i:U8}{args:List T}{c d:H}{k:jv}{nm:List Nat}{a:eY}(g:Lb i.m d c.size k)(h:Mk i.L i.n d i.m i.b)(j:Step i.m (TI.hr c) d)(e:ME a)(f:a.w<=20):afr i args c d nm a:=
 J6 (s:=F9 nm [] a) g h j rfl (aia (F9 nm [] a) _) (FX Y e (λc=>absurd rfl c)) (OM (by rw[eY.jE];omega) f)
def MK(a:U8){f:gG}{s:af Oper}{k:aa Tmp}{l:List Oper}{x w:iz}{i:jp}{p:Nat}{d e:H}{y:jv}(ht:f.h 212=some (Ps 11))(q:Mk a.L a.n e a.m a.b)(z:okB a.L)(o:Lb a.m e d.size y)(F:Step a.m (TI.hr d) e)
 (C:∀c hE,hE.get d.size=some y->(∀j r,afr a j d hE r c)->XK (some (eY.t c,hE)) cx (sq prog cx f) p s k l x w i):XK (hl prog cx f 212 [.ptr a.m 0 0 0,G 1] e) cx (sq prog cx f) p s k l x w i:=by
 refine jm (JQ 11) ht ⟨a.L,a.m,a.b,a.n,1⟩ ⟨⟨rfl,q,z,Y⟩,Y⟩ ?_;rintro _ hE ⟨c,rfl,A,B,v,u⟩;simp only at B v u;have⟨E,g⟩:=q.tape u v;exact C c hE (o.step g).get λj r=>Nc (o.step g) E (F.trans g) A D 
theorem _root_.Go.TI.Lb.put{d:Nat}{b:H}{a c:Nat}{x g:jv}(f:Lb d b a x)(l2:Lb d b c g)(e:a≠c)(h:jv):Lb d (fg b c h) a x:=f.md (by rw[ee l2.get,ao (br l2.ne)]) (by rw[ee l2.get,ao e])
def X9{n:List Int}{q:Nat}{k b:H}{c o a:Nat}{w:jv}(p:Mk n q b c o)(e:Lb c b a w)(v:Step c (TI.hr k) b)(r:k.size<=a)(d:jv):
 Mk n q (fg b a d) c o/\Lb c (fg b a d) a d/\Step c (TI.hr k) (fg b a d)/\(∀g m,g≠a->Lb c b g m->Lb c (fg b a d) g m)/\∀i h j l f,SV i h b c j l f->a<i\/h<=a->SV i h (fg b a d) c j l f:=
 ⟨p.qh e d,⟨(ee e.get d a).trans (aq rfl),by rw[jt (show(fg b a d).get c=b.get c by rw[ee e.get,ao (br e.ne)])];exact e.nf⟩,Step.qh p.ok e d _ v r,λg m s f=>f.put e s d,λi h j l f t u=>t.qh e u d⟩
theorem mL{o:List Int}{q:Nat}{m a:H}{b p:Nat}(g:Mk o q a b p)(s:Step b (TI.hr m) a)(c e:jv):
 Mk o q (fg (a.cons c) a.size e) b p/\Lb b (fg (a.cons c) a.size e) a.size e/\Step b (TI.hr m) (fg (a.cons c) a.size e)/\(∀h l,Lb b a h l->Lb b (fg (a.cons c) a.size e) h l)/\∀j f i k d,SV j f a b i k d->f<=a.size->SV j f (fg (a.cons c) a.size e) b i k d:=by
 have n:=Step.cons g.ok g.lt c;have v:=Lb.new g.lt g.fp c;have t:m.size<=a.size:=by simpa using s.ok.sz
 have⟨w,x,y,z,A⟩:=X9 (g.cons c) v (s.trans n) t e;exact⟨w,x,y,λh l d=>z h l (by have:=d.lt;omega) (d.step n),λj f i k d u r=>A j f i k d (u.step n r) (.inr r)⟩
def SV.gc{h e:Nat}{d:H}{i c:Nat}{a:T}{g:List ei}(f:SV h e d i c a g):a.iN=true/\a.cells=[a]:=by
 obtain⟨j,b,_⟩:=f;exact⟨b.iN,b.cells⟩
def SV.cell{g e c d:Nat}{b:H}{h a:Nat}{i:T}{f:List ei}(l:SV g e b h (2*a+2) i f)(j:c<=g)(k:e<=d):FT b (Nw c d b h .lr) (2*(a+1)+3) i (sl (f.map ei.t)):=by
 have:=(l.wide j k).ft;rw[show 2*(a+1)+3=2*a+2+3 by omega];exact this
def Az{a:List ei}{W:Nat}(c:∀b∈a,MS b/\b.w<=W):ei.ws a<=a.length*W:=by
 induction a with
 |nil=>rw[ei.jE];omega
 |cons f a e=>
  have g:=e λb d=>c b (List.mem_cons_of_mem _ d);have h:=(c f Y).2;rw[ei.kL,aP,cg];omega
def tF{k:List Int}{c m o d cnt:Nat}{args:List T}{a b:H}{p:jv}{op:Int}{nm:List Nat}{e:eY}{f g h:T}{j le:List ei}(z:Lb c b a.size p)(A:Mk k o b c m)(B:Step c (TI.hr a) b)
 (q:FT b (Nw (a.size+1) b.size b c .lr) (2*(d+1)+3) g (sl (j.map ei.t))) (r:FT b (Nw (a.size+1) b.size b c .lr) (2*(d+1)+3) h (sl (le.map ei.t))) (u:FT b (Nw (a.size+1) b.size b c .lr) (2*(d+1)+3) f (sl (e.l.map eY.t)))
 (E:2<=op/\op<=8) (hE:op<=3->ME e) (F:e.w<=20) (v:∀s∈j,MS s) (x:∀s∈le,MS s) (C:ei.ws j+ei.ws le<=5*wd d):
 (fg b a.size (dS 11 1 [.agg [G op,G 0,.str nm,.str [],dR,G e.op,G e.n,.str e.name,f,g,h]])).get a.size=some (dS 11 1 [.agg [G op,G 0,.str nm,.str [],dR,G e.op,G e.n,.str e.name,f,g,h]])/\
 HY ⟨k,c,m,o,d+1,cnt⟩ args a (.agg [G op,G 0,.str nm,.str [],dR,G e.op,G e.n,.str e.name,f,g,h]) (mK a (fg b a.size (dS 11 1 [.agg [G op,G 0,.str nm,.str [],dR,G e.op,G e.n,.str e.name,f,g,h]]))):=
 J6 (i:=⟨k,c,m,o,d+1,cnt⟩) (s:=⟨op,0,nm,[],[],e,j,le⟩) z A B rfl
  (.cons (iC ..) (.cons (iC ..) (.cons (kO ..) (.cons (kO ..) (.cons (jS ..) (.cons (iC ..) (.cons (iC ..) (.cons (kO ..) (.cons u (.cons q (.cons r .nil)))))))))))
  (.mk (λa=>by simp at a;omega) (λa=>by simp at a;omega) (λp y=>by simp at y) (λa=>by simp at a;exact hE D) v x)
  (by
    have:=DV d;rw[ei.mR,Np];simp only[ei.us,ei.MQ,ei.xh,ei.Ap,eY.jE];omega)
def SV.deep{f d:Nat}{c:H}{g a b:Nat}{h:T}{e:List ei}(m:SV f d c g a h e)(o:a<=b):SV f d c g b h e:=by
 obtain⟨j,l,i,n⟩:=m;exact⟨j,l,i.imp λ_ _ k=>k.deep D,n⟩
def ab7(a:Nat):wd 0<=wd a:=DV a
def SV.lit{g:List Int}{m:Nat}{a:H}{b j d:Nat}{es:List T}{l:List ei}(e:Mk g m a b j)(i:∀k h,jh (FT k h (d+2)) es (l.map ei.t)):SV a.size (a.size+1) (a.cons ⟨11,0,0,true,false,es⟩) b d (.arr a.size 0 0 es.length false) l:=by
 refine⟨es,.inr ⟨a.size,0,0,true,es,rfl,by rw[ez,aq rfl],aI⟩,i _ _,λn f=>?_⟩;simp at f;subst f;refine⟨au _,du _,λc=>?_⟩;rw[jt (show(a.cons ⟨11,0,0,true,false,es⟩).get b=a.get b by rw[ez,ao (by have:=e.lt;omega)])]at c;have:=e.fp _ c;omega
def Dk(a:Int):ei:=⟨a,0,[99],[],[],⟨0,0,[],[]⟩,[],[]⟩
def T1{d:H}{b:Nat->Prop}(a:Int)(c:Nat):FT d b (c+2) (.agg [G a,G 0,.str [99],.str [],dR,G 0,G 0,.str [],dR,dR,dR]) (Dk a).t:=
 .inr (.inr ⟨_,(Dk a).cs,rfl,.cons (iC ..) (.cons (iC ..) (.cons (kO ..) (.cons (kO ..) (.cons (jS ..) (.cons (iC ..) (.cons (iC ..) (.cons (kO ..) (.cons (jS ..) (.cons (jS ..) (.cons (jS ..) .nil)))))))))),ei.oY _⟩)
def T0{c:Int}(e:9<=c/\c<=11):MS (Dk c):= .mk (λ_=>rfl) (λb=>by unfold Dk at b;simp at b;omega) (λd a=>by unfold Dk at a;simp at a) (λb=>by unfold Dk at b;simp at b;omega) (λd a=>by unfold Dk at a;simp at a) (λd a=>by unfold Dk at a;simp at a)
def YJ(a:Int):(Dk a).w=5:=by
 rw[ei.mR,eY.mR];unfold Dk;simp only[ei.us,ei.MQ,ei.xh,ei.Ap,ei.jE,eY.jE,eY.Id]
def GI{b c a:Int}(d:b-c=a)(e: -9223372036854775808<=a)(f:a<9223372036854775808):binop .sub (G b) (G c)=some (G a):=by
 subst d;rw[tZ,<-kh,kr e f]
def BF{b c a:Int}(d:b+c=a)(e: -9223372036854775808<=a)(f:a<9223372036854775808):binop .add (G b) (G c)=some (G a):=by
 subst d;rw[pP,<-kh,kr e f]
def ad3(k:Nat)(cX:(Zu k).Ok prog cx 130)(eM:(rBk k).Ok prog cx 216):(rMt (k+1)).Ok prog cx 169:=by
 have⟨gw,c6⟩:=hlB VX λ_ _ _ _ B=>B;have cp:=JQ 11;refine jV (tb:=⟨pt [(132,LP),(214,Pr),(213,Pt),(131,Pu)],ht [(77,jY BJ wO ui),(212,Ps 11),(130,Zu k),(216,rBk k),(215,BX)]⟩) jg iT (jr 521481210427296124309566527199867809678935259509485941609668421502669740186866579200068820979 [(5,[(0,5),(2,5),(3,5)]),(7,[(0,5),(0,9),(6,9),(7,9)])] func169) (λ_ _=>10) (λi a B fB=>by obtain⟨⟨rfl,_⟩,_⟩:=fB;simp[f169]) ?_;rintro⟨m,b,o,r,d,cnt⟩ _ B ⟨⟨rfl,bN,u,ff,fv,fe⟩,fi⟩ gX eE;simp only at bN u ff fv fe fi;simp at eE;obtain⟨f,bp⟩:=eE;have eH:(b=B.size)=False:=by have:=bN.lt;simp;omega
 have A:=Step.cons bN.hr.ok bN.hr.lt (dS 11 0 [.agg [G 0,G 0,.str [],.str [],dR,G 0,G 0,.str [],dR,dR,dR]]);have p:Lb b _ B.size _:=Lb.new bN.hr.lt bN.hr.fp (dS 11 0 [.agg [G 0,G 0,.str [],.str [],dR,G 0,G 0,.str [],dR,dR,dR]]);have ef:=bN.hr.cons (dS 11 0 [.agg [G 0,G 0,.str [],.str [],dR,G 0,G 0,.str [],dR,dR,dR]]);have⟨b9,Z,left,set,J,W,aA,bW,z,g,R,hl⟩:=ef.ex;have⟨dk,cb⟩:=ef.set (th':=Z) (left':=IntKind.i64.wrap (left-1)) (se':=set) (tx':=J) (at2:=W) (lp':=aA) g R hl;replace p:=p.step dk;replace A:=A.trans dk;simp only[uF]at g dk cb p A;have dn:=g;rw[ez,pB,ao (by have:=bN.lt;omega),iI]at dn;simp[f169,f,dn,eH,tZ,eZ];generalize fg ((hr B).cons _) b _=gy at*
 clear g dn R ef dk eH;have⟨b9,Z,left,set,J,W,aA,bW,z,g,R,hl⟩:=cb.ex;simp only[uF]at g;simp[g];refine uy Y cb.tp cb.ok D D u λP O gD t2 eS=>?_;have⟨c,eo⟩:=cb.tape eS t2;replace p:=p.step eo;replace A:=A.trans eo;clear g R cb t2 eS eo hl;have⟨b9,Z,left,set,J,W,aA,bW,z,g,R,hl⟩:=c.ex;have c7:=g;simp only[uF]at g;simp[f,bp,g];rcases(by omega:P=0\/P=1\/P=2\/P=3\/P=4\/P=5\/P=6\/P=7\/P=8\/P=9\/P=10\/P=11\/P=12\/P=13\/P=14\/P=15\/P=16\/P=17)with rfl|rfl|rfl|rfl|rfl|rfl|rfl|rfl|rfl|rfl|rfl|rfl|rfl|rfl|rfl|rfl|rfl|rfl
 iterate 4
  ·simp[f];have E:=c.cons (dS 1 0 [.str [120],.str [121],.str [120],.str [118]]);have F:=Step.cons c.ok c.lt (dS 1 0 [.str [120],.str [121],.str [120],.str [118]]);refine lH cp Y ⟨m,b,o,r,1⟩ ⟨⟨rfl,E,u,Y⟩,Y⟩ ?_;rintro _ hE ⟨e,rfl,a8,bA,an,S⟩;simp only at bA an S;have⟨al,V⟩:=E.tape S an;have j:=(p.step F).step V;have fin:=λnm=>Nc (i:=⟨m,b,o,r,d,cnt⟩) (args:=[.ptr b 0 0 0,G d]) (nm:=nm) j al ((A.trans F).trans V) a8 D;have eu:fQ (O.cons (dS 1 0 [.str [120],.str [121],.str [120],.str [118]])) hE O.size=true:=fZ (S.get _ (by have:=c.tp.lt;omega));simp[wA,j.get,eu,λnm=>(fin nm).1];exact(fin _).2
 ·have fs:(b=O.size)=False:=by have:=c.lt;simp;omega
  simp[f,g,fs];have E:=c.cons (dS 1 0 [.str [97],.str [98]]);have F:=Step.cons c.ok c.lt (dS 1 0 [.str [97],.str [98]]);refine M1 Y E.tp E.ok D D u λU bH ca t4 aE=>?_;have⟨X,bC⟩:=E.tape aE t4;have gO:bH.get O.size=some (dS 1 0 [.str [97],.str [98]]):=(aE.get _ (by have:=c.tp.lt;omega)).trans Y;have gv:fQ (O.cons (dS 1 0 [.str [97],.str [98]])) bH O.size=true:=fZ (aE.get _ (by have:=c.tp.lt;omega));have⟨nm,e7⟩:∃nm:List Nat,([.str [97],.str [98]]:List T)[U]? =some (.str nm):=by
   rcases(by omega:U=0\/U=1)with rfl|rfl<;>exact⟨_,rfl⟩
  generalize([.str [97],.str [98]]:List T)=e6 at*
  have ca:U<2:=D;simp[f,gO,e7,ca,gv];refine lH cp Y ⟨m,b,o,r,1⟩ ⟨⟨rfl,X,u,Y⟩,Y⟩ ?_;rintro _ hE ⟨e,rfl,a8,bA,an,S⟩;simp only at bA an S;have⟨al,V⟩:=X.tape S an;have j:=((p.step F).step bC).step V;have fin:=Nc (i:=⟨m,b,o,r,d,cnt⟩) (args:=[.ptr b 0 0 0,G d]) (nm:=nm) j al (((A.trans F).trans bC).trans V) a8 D;have eu:fQ bH hE O.size=true:=fZ (S.get _ (by have:=c.tp.lt;omega));have gV:fQ (O.cons ⟨1,0,0,true,false,e6⟩) hE O.size=true:=fZ ((S.get _ (by have:=c.tp.lt;omega)).trans (aE.get _ (by have:=c.tp.lt;omega)));simp[wA,j.get,eu,fin.1];exact fin.2
 ·simp[f];refine jm cp Y ⟨m,b,o,r,0⟩ ⟨⟨rfl,c,u,Y⟩,Y⟩ ?_;rintro _ hE ⟨e,rfl,a8,bA,an,S⟩;simp only at bA an S;have⟨al,V⟩:=c.tape S an;have eR:=al.cons (dS 4 0 [e.t]);have eW:=Step.cons al.ok al.lt (dS 4 0 [e.t]);simp[f];refine jm cp Y ⟨m,b,o,r,1⟩ ⟨⟨rfl,eR,u,Y⟩,Y⟩ ?_;rintro _ eC ⟨cL,rfl,e9,fC,e4,di⟩;simp only at fC e4 di;have⟨fX,er⟩:=eR.tape di e4;have eO:=((p.step V).step eW).step er;have gF:=V.ok.sz;have gM:=p.lt;have e8:eC.get hE.size=some (dS 4 0 [e.t]):=(di.get _ (by have:=al.tp.lt;omega)).trans Y;have fE:=di.size;simp at fE;have fA:¬Fp eC b hE.size:=λq=>by
   rcases er.fp _ q with q|q
   ·rw[jt (show(hE.cons (dS 4 0 [e.t])).get b=hE.get b by rw[ez,ao (by have:=al.lt;omega)])]at q;have:=al.fp _ q;omega
   ·simp at q;omega
  have fin:=J6 (i:=⟨m,b,o,r,d,cnt⟩) (args:=[.ptr b 0 0 0,G d]) (cs:=[G 1,G 0,.str [113],.str [],.arr hE.size 0 0 1 false,G cL.op,G cL.n,.str cL.name,sl (cL.l.map eY.t),dR,dR]) (s:=F9 [113] [e] cL) eO fX (((A.trans V).trans eW).trans er) rfl
   (.cons (iC ..) (.cons (iC ..) (.cons (kO ..) (.cons (kO ..) (.cons (.inr (.inl ⟨hE.size,0,0,1,false,[e.t],[e.t],rfl,⟨D,D,fA,NT _⟩,by rw[iF,e8];simp,.cons (e.ft _) .nil,rfl⟩)) (.cons (iC ..) (.cons (iC ..) (.cons (kO ..) (.cons (qM _ _ _ λx bB=>by obtain⟨y,_,rfl⟩:=List.mem_map.1 bB;simp) (.cons (jS ..) (.cons (jS ..) .nil)))))))))))
   (FX (by simpa using a8) e9 Y) (OM (by rw[eY.kL,eY.jE];omega) D)
  simp[eO.get,fin.1];exact fin.2
 ·simp[bp];refine fw (λa6=>?_) (λa6=>?_)
  ·simp at a6;obtain⟨d,rfl⟩:∃e,d=e+1:=⟨d-1,D⟩;have aX:binop .sub (G ((d:Int)+1)) (G 1)=some (G d):=by
    rw[tZ,<-kh,kr D D];simp
   simp[f];refine jm cp Y ⟨m,b,o,r,1⟩ ⟨⟨rfl,c,u,Y⟩,Y⟩ ?_;rintro _ hE ⟨e,rfl,a8,bA,an,S⟩;simp only at bA an S;have⟨al,V⟩:=c.tape S an;simp[f,bp,aX];refine jm cX Y ⟨m,b,o,r,d,1⟩ ⟨⟨rfl,al,u,dO,dO,Y⟩,dO⟩ ?_;rintro v ae ⟨l,sv,C,L,N,H⟩;simp only at sv C L N H;have av:=(p.step V).step H;have bn:=(A.trans V).trans H;have Q:=sv.gc;have⟨xC,a7,bC,bX,b8⟩:=mL N bn (dS 11 0 [.agg [G 0,G 0,.str [],.str [],dR,G 0,G 0,.str [],dR,dR,dR]]) (dS 11 1 [.agg [G 2,G 0,.str [],.str [],dR,G e.op,G e.n,.str e.name,sl (e.l.map eY.t),v,dR]]);have bi:=bX _ _ av;have b7:=b8 _ _ _ _ _ sv (au _);have⟨b9,Z,left,set,J,W,aA,bW,z,g,R,hl⟩:=xC.ex;simp only[uF]at g;simp[f,Q.1,Q.2,g];generalize fg (ae.cons _) ae.size _=c9 at*
   refine uy Y xC.tp xC.ok D D u λU bH ca t4 aE=>?_;have⟨X,aN⟩:=xC.tape aE t4;have l4:=a7.step aN;have eb:=bi.step aN;have bS:=bC.trans aN;have gP:=xC.lt;have fL:ae.size<c9.size:=a7.lt;have e0:=b7.step aN D;have gI:=aE.size;have gz:B.size<ae.size:=av.lt;have eD:B.size<hE.size:=(p.step V).lt;simp;refine fw (λfo=>?_) (λfo=>?_)
   ·simp[f,bp,aX];refine jm cX Y ⟨m,b,o,r,d,1⟩ ⟨⟨rfl,X,u,dO,dO,Y⟩,dO⟩ ?_;rintro gn gB ⟨l2,et,ea,eI,mkV,Zd⟩;simp only at et ea eI mkV Zd;have eA:=et.gc;have⟨fY,fP,b6,gd,e5⟩:=X9 mkV (l4.step Zd) (bS.trans Zd) D (dS 11 2 [.agg [G 2,G 0,.str [],.str [],dR,G e.op,G e.n,.str e.name,sl (e.l.map eY.t),v,gn]]);have eP:=gd _ _ D (eb.step Zd);have gg:=e5 _ _ _ _ _ (e0.step Zd D) (.inr (au _));have gi:=e5 _ _ _ _ _ et (.inl D);have gQ:=Zd.ok.sz;have fin:=tF (cnt:=cnt) (args:=[.ptr b 0 0 0,G (d+1:Nat)]) (op:=2) (nm:=[]) (e:=e) eP fY b6 (gg.cell eD dN) (gi.cell D Y) (qM _ _ _ λx bB=>by obtain⟨y,_,rfl⟩:=List.mem_map.1 bB;simp) D (λ_=>a8) D (λs z=>(C s z).1) (λs z=>(ea s z).1) (by
     have cF:=Az C;have gZ:=Az ea;have:=aV (wd d) L;have:=aV (wd d) eI;omega)
    simp[(l4.step Zd).get,fP.get,eZ,eA.1,eA.2,eP.get,fin.1];exact fin.2
   ·have fin:=tF (cnt:=cnt) (args:=[.ptr b 0 0 0,G (d+1:Nat)]) (op:=2) (nm:=[]) (e:=e) (le:=[]) eb X bS (e0.cell eD D) (jS _ _ _ false) (qM _ _ _ λx bB=>by obtain⟨y,_,rfl⟩:=List.mem_map.1 bB;simp) D (λ_=>a8) D (λs z=>(C s z).1) Y (by
     have cF:=Az C;have:=aV (wd d) L;rw[ei.jE];omega)
    simp[l4.get,eb.get,eZ,fin.1];exact fin.2
  ·simp[f];refine MK ⟨m,b,o,r,d,cnt⟩ Y c u p A λe hE j fin=>?_;simp[wA,j,λnm=>(fin [] nm).1];exact(fin _ _).2
 ·simp[bp];refine fw (λa6=>?_) (λa6=>?_)
  ·simp at a6;obtain⟨d,rfl⟩:∃e,d=e+1:=⟨d-1,D⟩;have aX:binop .sub (G ((d:Int)+1)) (G 1)=some (G d):=by
    rw[tZ,<-kh,kr D D];simp
   have⟨F,E⟩:=c.set (th':=Z) (left':=left) (se':=set) (tx':=J) (at2:=W) (lp':=true) c7 R hl;simp only[uF]at F E;simp[f,g,eZ];generalize fg O b _=ds at*
   have ap:=p.step F;have bn:=A.trans F;simp[f,bp,Xb,Xc,dM,aX];refine jm cX Y ⟨m,b,o,r,d,1⟩ ⟨⟨rfl,E,u,dO,dO,Y⟩,dO⟩ ?_;rintro v ae ⟨l,sv,C,L,N,H⟩;simp only at sv C L N H;have av:=ap.step H;have bC:=bn.trans H;have eh:=Step.cons N.ok N.lt (dS 11 0 [(F9 [98] [] ⟨6,0,[],[⟨2,0,[98],[]⟩,⟨1,1,[],[]⟩]⟩).t]);have fL:=H.ok.sz;have⟨gm,eB,ey,eX,fS,eU,_⟩:=(sv.step eh (au _)).app (N.cons (dS 11 0 [(F9 [98] [] ⟨6,0,[],[⟨2,0,[98],[]⟩,⟨1,1,[],[]⟩]⟩).t])) (x:= .arr ae.size 0 0 1 false) (xs:=[(F9 [98] [] ⟨6,0,[],[⟨2,0,[98],[]⟩,⟨1,1,[],[]⟩]⟩).t]) (l2:=[F9 [98] [] ⟨6,0,[],[⟨2,0,[98],[]⟩,⟨1,1,[],[]⟩]⟩]) dN Y (by rw[iF];simp) (.cons (ei.ft _ _) .nil) Y Y dN;have bS:=eU _ (bC.trans eh) (by simpa using bn.ok.sz);have l3:=ap.step (eU _ (H.trans eh) (au _));have Q:=eX.gc;have⟨xC,a7,b6,bX,b8⟩:=mL fS bS (dS 11 0 [.agg [G 0,G 0,.str [],.str [],dR,G 0,G 0,.str [],dR,dR,dR]]) (dS 11 1 [.agg [G 3,G 0,.str [],.str [],dR,G 13,G 0,.str [],sl [(eY.mk 2 0 [98] []).t,(eY.mk 1 2 [] []).t],gm,dR]]);have bi:=bX _ _ l3;have b7:=b8 _ _ _ _ _ eX (au _);simp only[F9]at ey;simp[f,Xb,Xc,dM,wA,ey,Q.1,Q.2];generalize fg (eB.cons _) eB.size _=c9 at*
   have⟨b9,Z,left,set,J,W,gS,bW,z,g,R,hl⟩:=xC.ex;have⟨K,c1⟩:=xC.set (th':=Z) (left':=left) (se':=set) (tx':=J) (at2:=W) (lp':=aA) g R hl;have fb:=ap.lt;have eK:=a7.lt;have eL:=K.ok.sz;have fin:=tF (cnt:=cnt) (args:=[.ptr b 0 0 0,G (d+1:Nat)]) (op:=3) (nm:=[]) (e:=⟨13,0,[],[⟨2,0,[98],[]⟩,⟨1,2,[],[]⟩]⟩) (le:=[]) (bi.step K) c1 (b6.trans K) ((b7.step K D).cell fb D) (jS _ _ _ false) (qM _ _ _ λx bB=>by obtain⟨y,_,rfl⟩:=List.mem_map.1 bB;simp) D (λ_=> .bin D (.nm _) (.num _)) (by simp[eY.mR,eY.kL,eY.jE]) (λs z=>(List.mem_append.1 z).elim (λq=>(C s q).1) λq=>by rw[List.mem_singleton.1 q];exact FX Y (.bin D (.nm _) (.num _)) (λB=>absurd rfl B)) Y (by
    have cF:=Az C;have:=aV (wd d) L;have:=OM (nm:=[98]) (ix:=[]) (e:=⟨6,0,[],[⟨2,0,[98],[]⟩,⟨1,1,[],[]⟩]⟩) (d:=d) (by rw[eY.jE];omega) (by simp[eY.mR,eY.kL,eY.jE]);rw[ei.Lp,ei.kL,ei.jE];omega)
   have gT:=(a7.step K).get;have gR:=(bi.step K).get;simp only[uF]at g gT gR fin;simp[g,gT,gR,eZ];simp at fin;simp[fin.1];exact fin.2
  ·simp[f];refine MK ⟨m,b,o,r,d,cnt⟩ Y c u p A λe hE j fin=>?_;simp[wA,j,λnm=>(fin [] nm).1];exact(fin _ _).2
 iterate 2
  ·by_cases I:(decide (0<d)&&decide (0<left)&& !J)=true
   ·simp at I;obtain⟨⟨a6,bs⟩,bu⟩:=I;subst bu;obtain⟨d,rfl⟩:∃e,d=e+1:=⟨d-1,D⟩;have aX:binop .sub (G ((d:Int)+1)) (G 1)=some (G d):=by
     rw[tZ,<-kh,kr D D];simp
    have E:=c.cons (dS 1 0 [.str [109],.str [110]]);have bT:=λ{tb:gG} (ht:tb.h 215=some BX) s=>c6 ht [.ptr b 0 0 0,.str s] (O.cons (dS 1 0 [.str [109],.str [110]])) ⟨m,r,b,o,s,rfl,E,D⟩;have F:=Step.cons c.ok c.lt (dS 1 0 [.str [109],.str [110]]);have ap:=p.step F;have dd:binop .sub (G 8) (G 8)=some (G 0):=GI D D D;have de:binop .sub (G 9) (G 8)=some (G 1):=GI D D D;simp[f,bs,bT,dd,de];refine fw (λM=>?_) (λM=>?_)
    ·simp[f,bp,dd,de];have fW:=E.cons (dS 1 0 [.str [109],.str [110]]);have eV:=Step.cons E.ok E.lt (dS 1 0 [.str [109],.str [110]]);have eN:=ap.step eV;simp[aX];refine jm eM Y ⟨m,b,o,r,d,_⟩ ⟨⟨rfl,fW,u,dO,dO⟩,dO⟩ ?_;rintro v ae ⟨l,sv,C,L,N,H⟩;simp only at sv C L N H;have Q:=sv.gc;have av:=eN.step H;have fin:=λnm=>tF (cnt:=cnt) (args:=[.ptr b 0 0 0,G (d+1:Nat)]) (op:=4) (nm:=nm) (e:=⟨0,0,[],[]⟩) (le:=[]) av N (((A.trans F).trans eV).trans H) (sv.cell eN.lt (au _)) (jS _ _ _ false) (jS _ _ _ false) D (λB=>by omega) (by simp[eY.mR,eY.jE]) (λs z=>(C s z).1) Y (by
      have cF:=Az C;have:=aV (wd d) L;rw[ei.jE];omega)
     simp only[eY.zk,eY.J5,eY.rG]at fin;simp[Q.1,Q.2,av.get,λnm=>(fin nm).1];exact(fin _).2
    ·simp[f];refine MK ⟨m,b,o,r,d+1,cnt⟩ Y E u ap (A.trans F) λe hE j fin=>?_;simp[wA,j,λnm=>(fin [] nm).1];exact(fin _ _).2
   ·have I:(decide (0<d)&&decide (0<left)&& !J)=false:=by simpa using I
    simp[f,I];refine MK ⟨m,b,o,r,d,cnt⟩ Y c u p A λe hE j fin=>?_;simp[wA,j,λnm=>(fin [] nm).1];exact(fin _ _).2
 iterate 2
  ·by_cases I:(decide (0<d)&&decide (0<left)&& !J)=true
   ·simp at I;obtain⟨⟨a6,bs⟩,bu⟩:=I;subst bu;obtain⟨d,rfl⟩:∃e,d=e+1:=⟨d-1,D⟩;have aX:binop .sub (G ((d:Int)+1)) (G 1)=some (G d):=by
     rw[tZ,<-kh,kr D D];simp
    have bT:=λ{tb:gG} (ht:tb.h 215=some BX) s=>c6 ht [.ptr b 0 0 0,.str s] O ⟨m,r,b,o,s,rfl,c,D⟩;have dd:binop .sub (G 10) (G 10)=some (G 0):=GI D D D;have gj:binop .sub (G 11) (G 10)=some (G 1):=GI D D D;have gk:binop .add (G 1) (G 5)=some (G 6):=BF D D D;have de:binop .add (G 0) (G 5)=some (G 5):=BF D D D;simp[f,bs,bT];refine fw (λM=>?_) (λM=>?_)
    ·simp[f,bp,dd,de,gj,gk,aX];refine jm eM Y ⟨m,b,o,r,d,_⟩ ⟨⟨rfl,c,u,dO,dO⟩,dO⟩ ?_;rintro v ae ⟨l,sv,C,L,N,H⟩;simp only at sv C L N H;have Q:=sv.gc;have av:=p.step H;have fin:=λop (gE:op=5\/op=6) nm=>tF (cnt:=cnt) (args:=[.ptr b 0 0 0,G (d+1:Nat)]) (op:=op) (nm:=nm) (e:=⟨0,0,[],[]⟩) (le:=[]) av N (A.trans H) (sv.cell p.lt (au _)) (jS _ _ _ false) (jS _ _ _ false) D (λB=>by omega) (by simp[eY.mR,eY.jE]) (λs z=>(C s z).1) Y (by
      have cF:=Az C;have:=aV (wd d) L;rw[ei.jE];omega)
     simp only[eY.zk,eY.J5,eY.rG]at fin;simp[Q.1,Q.2,av.get,λnm=>(fin 5 (.inl rfl) nm).1,λnm=>(fin 6 (.inr rfl) nm).1];exact(fin _ Y _).2
    ·simp[f];refine MK ⟨m,b,o,r,d+1,cnt⟩ Y c u p A λe hE j fin=>?_;simp[wA,j,λnm=>(fin [] nm).1];exact(fin _ _).2
   ·have I:(decide (0<d)&&decide (0<left)&& !J)=false:=by simpa using I
    simp[f,I];refine MK ⟨m,b,o,r,d,cnt⟩ Y c u p A λe hE j fin=>?_;simp[wA,j,λnm=>(fin [] nm).1];exact(fin _ _).2
 ·simp;refine fw (λM=>?_) (λM=>?_)
  ·simp at M;obtain⟨⟨a6,bs⟩,bu⟩:=M;obtain⟨d,rfl⟩:∃e,d=e+1:=⟨d-1,D⟩;have aX:binop .sub (G ((d:Int)+1)) (G 1)=some (G d):=by
    rw[tZ,<-kh,kr D D];simp
   have⟨F,E⟩:=c.set (th':=Z) (left':=left) (se':=set) (tx':=true) (at2:=W) (lp':=aA) c7 R hl;simp only[uF]at F E;simp[f,g,eZ];generalize fg O b _=ds at*
   have ap:=p.step F;have bn:=A.trans F;have⟨b9,Z,left,set,J,W,aA,bW,z,g,R,hl⟩:=E.ex;simp only[uF]at g;simp[g];refine uy Y E.tp E.ok D D u λU bH ca t4 aE=>?_;have⟨X,aN⟩:=E.tape aE t4;have l4:=ap.step aN;have dm:binop .add (G 1) (G U)=some (G ((1+U:Nat):Int)):=BF Y D D;simp[dm];refine jm cX Y ⟨m,b,o,r,0,1+U⟩ ⟨⟨Y,X,u,Y,dO,dO⟩,dO⟩ ?_;rintro v ae ⟨l,sv,C,L,N,H⟩;simp only at sv C L N H;replace L:l.length<=2:=D;replace sv:=sv.deep (show 2*0+2<=2*d+2 by omega);replace C:∀s∈l,MS s/\s.w<=wd d:=λs z=>⟨(C s z).1,aQ (C s z).2 (ab7 d)⟩;have av:=l4.step H;have bS:=(bn.trans aN).trans H;have Q:=sv.gc;have⟨xC,a7,b6,bX,b8⟩:=mL N bS (dS 11 0 [.agg [G 0,G 0,.str [],.str [],dR,G 0,G 0,.str [],dR,dR,dR]]) (dS 11 1 [.agg [G 7,G 0,.str [],.str [],dR,G 0,G 0,.str [],dR,v,dR]]);have bi:=bX _ _ av;have b7:=b8 _ _ _ _ _ sv (au _);simp[f,Q.1,Q.2];generalize fg (ae.cons _) ae.size _=c9 at*
   have⟨b9,Z,left,set,J,W,aA,bW,z,g,R,hl⟩:=xC.ex;have⟨K,c1⟩:=xC.set (th':=Z) (left':=left) (se':=set) (tx':=false) (at2:=W) (lp':=aA) g R hl;have eK:=a7.lt;have eL:=K.ok.sz;have fin:=tF (cnt:=cnt) (args:=[.ptr b 0 0 0,G (d+1:Nat)]) (op:=7) (nm:=[]) (e:=⟨0,0,[],[]⟩) (le:=[]) (bi.step K) c1 (b6.trans K) ((b7.step K D).cell l4.lt D) (jS _ _ _ false) (jS _ _ _ false) D (λB=>by omega) (by simp[eY.mR,eY.jE]) (λs z=>(C s z).1) Y (by
    have cF:=Az C;have:=aV (wd d) L;rw[ei.jE];omega)
   have gT:=(a7.step K).get;have gR:=(bi.step K).get;simp only[uF,eY.zk,eY.J5,eY.rG]at g gT gR fin;simp[g,gT,gR,eZ,fin.1];exact fin.2
  ·simp[f];refine MK ⟨m,b,o,r,d,cnt⟩ Y c u p A λe hE j fin=>?_;simp[wA,j,λnm=>(fin [] nm).1];exact(fin _ _).2
 ·simp[f,g];refine fw (λM=>?_) (λM=>?_)
  ·simp at M;obtain⟨⟨⟨a6,bs⟩,bu⟩,eF⟩:=M;obtain⟨d,rfl⟩:∃e,d=e+1:=⟨d-1,D⟩;have aX:binop .sub (G ((d:Int)+1)) (G 1)=some (G d):=by
    rw[tZ,<-kh,kr D D];simp
   have⟨F,E⟩:=c.set (th':=Z) (left':=left) (se':=set) (tx':=J) (at2:=true) (lp':=aA) c7 R hl;simp only[uF]at F E;simp[f,bp,g,eZ,aX];generalize fg O b _=ds at*
   have ap:=p.step F;have bn:=A.trans F;refine jm cX Y ⟨m,b,o,r,d,2⟩ ⟨⟨rfl,E,u,dO,dO,Y⟩,dO⟩ ?_;rintro v ae ⟨l,sv,C,L,N,H⟩;simp only at sv C L N H;have av:=ap.step H;have bS:=bn.trans H;have Q:=sv.gc;have⟨xC,a7,b6,bX,b8⟩:=mL N bS (dS 11 0 [.agg [G 0,G 0,.str [],.str [],dR,G 0,G 0,.str [],dR,dR,dR]]) (dS 11 1 [.agg [G 8,G 0,.str [],.str [],dR,G 0,G 0,.str [],dR,v,dR]]);have bi:=bX _ _ av;have b7:=b8 _ _ _ _ _ sv (au _);simp[f,Q.1,Q.2];generalize fg (ae.cons _) ae.size _=c9 at*
   have⟨b9,Z,left,set,J,W,aA,bW,z,g,R,hl⟩:=xC.ex;have⟨K,c1⟩:=xC.set (th':=Z) (left':=left) (se':=set) (tx':=J) (at2:=false) (lp':=aA) g R hl;have eK:=a7.lt;have eL:=K.ok.sz;have fin:=tF (cnt:=cnt) (args:=[.ptr b 0 0 0,G (d+1:Nat)]) (op:=8) (nm:=[]) (e:=⟨0,0,[],[]⟩) (le:=[]) (bi.step K) c1 (b6.trans K) ((b7.step K D).cell ap.lt D) (jS _ _ _ false) (jS _ _ _ false) D (λB=>by omega) (by simp[eY.mR,eY.jE]) (λs z=>(C s z).1) Y (by
    have cF:=Az C;have:=aV (wd d) L;rw[ei.jE];omega)
   have gT:=(a7.step K).get;have gR:=(bi.step K).get;simp only[uF,eY.zk,eY.J5,eY.rG]at g gT gR fin;simp[g,gT,gR,eZ,fin.1];exact fin.2
  ·simp[f];refine MK ⟨m,b,o,r,d,cnt⟩ Y c u p A λe hE j fin=>?_;simp[wA,j,λnm=>(fin [] nm).1];exact(fin _ _).2
 ·by_cases I:(decide (0<d)&&decide (0<left)&& !J&& !W)=true
  ·simp at I;obtain⟨⟨⟨a6,bs⟩,bu⟩,eF⟩:=I;subst bu;subst eF;obtain⟨d,rfl⟩:∃e,d=e+1:=⟨d-1,D⟩;have bT:=λ{tb:gG} (ht:tb.h 215=some BX) s=>c6 ht [.ptr b 0 0 0,.str s] O ⟨m,r,b,o,s,rfl,c,D⟩;simp[f,g,bs,bT];refine fw (λM=>?_) (λM=>?_)
   ·simp[Xc,wA];have dv:(B.size=O.size)=False:=by have:=p.lt;simp;omega
    have sv:=SV.lit (d:=2*d+2) (l:=[Dk 9,F9 [97] [] ⟨2,0,[120],[]⟩]) (es:=[.agg [G 9,G 0,.str [99],.str [],dR,G 0,G 0,.str [],dR,dR,dR],(F9 [97] [] ⟨2,0,[120],[]⟩).t]) c (λ_ _=> .cons (T1 _ _) (.cons (ei.ft _ _) .nil));have c4:=Step.cons c.ok c.lt (dS 11 0 [.agg [G 9,G 0,.str [99],.str [],dR,G 0,G 0,.str [],dR,dR,dR],(F9 [97] [] ⟨2,0,[120],[]⟩).t]);have ec:=p.step c4;have fin:=tF (cnt:=cnt) (args:=[.ptr b 0 0 0,G (d+1:Nat)]) (op:=4) (nm:=[109]) (e:=⟨0,0,[],[]⟩) (le:=[]) ec (c.cons _) (A.trans c4) (sv.cell p.lt Y) (jS _ _ _ false) (jS _ _ _ false) D (λB=>by omega) (by simp[eY.mR,eY.jE]) (λs z=>by
     rcases List.mem_cons.1 z with rfl|z
     ·exact T0 D
     ·rw[List.mem_singleton.1 z];exact FX Y (.nm _) (λB=>absurd rfl B)) Y (by
     have:=DV d;simp[ei.kL,ei.jE,YJ,F9,ei.mR (ei.mk 1 0 [97] [] [] (eY.mk 2 0 [120] []) [] []),eY.mR,eY.jE];omega)
    simp only[eY.zk,eY.J5,eY.rG,F9]at fin;simp at fin;simp[dv,p.get,fin.1];exact fin.2
   ·simp[f];refine MK ⟨m,b,o,r,d+1,cnt⟩ Y c u p A λe hE j fin=>?_;simp[wA,j,λnm=>(fin [] nm).1];exact(fin _ _).2
  ·have I:(decide (0<d)&&decide (0<left)&& !J&& !W)=false:=by simpa using I
   simp[f,g,I];refine MK ⟨m,b,o,r,d,cnt⟩ Y c u p A λe hE j fin=>?_;simp[wA,j,λnm=>(fin [] nm).1];exact(fin _ _).2
 ·by_cases I:(decide (0<d)&&decide (0<left)&& !J)=true
  ·simp at I;obtain⟨⟨a6,bs⟩,bu⟩:=I;subst bu
   skip
   obtain⟨d,rfl⟩:∃e,d=e+1:=⟨d-1,D⟩;have bT:=λ{tb:gG} (ht:tb.h 215=some BX) s=>c6 ht [.ptr b 0 0 0,.str s] O ⟨m,r,b,o,s,rfl,c,D⟩;simp[f,bs,bT];refine fw (λM=>?_) (λM=>?_)
   ·simp[f,g];refine uy Y c.tp c.ok D D u λU bH ca t4 aE=>?_;have⟨X,aN⟩:=c.tape aE t4;have l4:=p.step aN;have dm:binop .add (G 10) (G U)=some (G (10+U)):=BF Y D D;simp[dm];have dv:(B.size=bH.size)=False:=by have:=l4.lt;simp;omega
    have sv:=SV.lit (d:=2*d+2) (l:=[Dk (10+U)]) (es:=[.agg [G (10+U),G 0,.str [99],.str [],dR,G 0,G 0,.str [],dR,dR,dR]]) X (λ_ _=> .cons (T1 _ _) .nil);have c4:=Step.cons X.ok X.lt (dS 11 0 [.agg [G (10+U),G 0,.str [99],.str [],dR,G 0,G 0,.str [],dR,dR,dR]]);have ec:=l4.step c4;have fin:=tF (cnt:=cnt) (args:=[.ptr b 0 0 0,G (d+1:Nat)]) (op:=4) (nm:=[109]) (e:=⟨0,0,[],[]⟩) (le:=[]) ec (X.cons _) ((A.trans aN).trans c4) (sv.cell l4.lt Y) (jS _ _ _ false) (jS _ _ _ false) D (λB=>by omega) (by simp[eY.mR,eY.jE]) (λs z=>by rw[List.mem_singleton.1 z];exact T0 D) Y (by
     have:=DV d;simp[ei.kL,ei.jE,YJ];omega)
    simp only[eY.zk,eY.J5,eY.rG]at fin;simp at fin;simp[dv,l4.get,fin.1];exact fin.2
   ·simp[f];refine MK ⟨m,b,o,r,d+1,cnt⟩ Y c u p A λe hE j fin=>?_;simp[wA,j,λnm=>(fin [] nm).1];exact(fin _ _).2
  ·have I:(decide (0<d)&&decide (0<left)&& !J)=false:=by simpa using I
   simp[f,I];refine MK ⟨m,b,o,r,d,cnt⟩ Y c u p A λe hE j fin=>?_;simp[wA,j,λnm=>(fin [] nm).1];exact(fin _ _).2
 ·simp[f,g];refine fw (λM=>?_) (λM=>?_)
  ·have⟨F,E⟩:=c.set (th':=Z) (left':=left) (se':=true) (tx':=J) (at2:=W) (lp':=aA) c7 R hl;simp only[uF]at F E;simp[f,g,eZ];generalize fg O b _=ds at*
   have ap:=p.step F;have bn:=A.trans F;refine jm cp Y ⟨m,b,o,r,1⟩ ⟨⟨rfl,E,u,Y⟩,Y⟩ ?_;rintro _ hE ⟨e,rfl,a8,bA,an,S⟩;simp only at bA an S;have⟨al,V⟩:=E.tape S an;have j:=ap.step V;have fin:=J6 (i:=⟨m,b,o,r,d,cnt⟩) (args:=[.ptr b 0 0 0,G d]) (cs:=[G 14,G 0,.str [102],.str [],dR,G e.op,G e.n,.str e.name,sl (e.l.map eY.t),dR,dR]) (s:=⟨14,0,[102],[],[],e,[],[]⟩) j al (bn.trans V) rfl
    (.cons (iC ..) (.cons (iC ..) (.cons (kO ..) (.cons (kO ..) (.cons (jS ..) (.cons (iC ..) (.cons (iC ..) (.cons (kO ..) (.cons (qM _ _ _ λx bB=>by obtain⟨y,_,rfl⟩:=List.mem_map.1 bB;simp) (.cons (jS ..) (.cons (jS ..) .nil)))))))))))
    (.mk (λB=>by simp at B) (λB=>by simp at B) Y (λ_=>a8) Y Y) (by
      have:=DV d;rw[ei.mR];simp only[ei.us,ei.MQ,ei.xh,ei.Ap,ei.jE,eY.jE];omega)
   simp[j.get,fin.1];exact fin.2
  ·simp[f];refine MK ⟨m,b,o,r,d,cnt⟩ Y c u p A λe hE j fin=>?_;simp[wA,j,λnm=>(fin [] nm).1];exact(fin _ _).2
 ·cases J with
  |true=>
   simp[f,g];refine MK ⟨m,b,o,r,d,cnt⟩ Y c u p A λe hE j fin=>?_;simp[wA,j,λnm=>(fin [] nm).1];exact(fin _ _).2
  |false=>
   simp[f,g];refine uy Y c.tp c.ok D D u λU bH ca t4 aE=>?_;have⟨X,aN⟩:=c.tape aE t4;have l4:=p.step aN;have bC:=A.trans aN;simp;refine fw (λM=>?_) (λM=>?_)
   ·have fin:=J6 (i:=⟨m,b,o,r,d,cnt⟩) (args:=[.ptr b 0 0 0,G d]) (cs:=[G 15,G 0,.str [97],.str [102],dR,G 0,G 0,.str [],dR,dR,dR]) (s:=⟨15,0,[97],[102],[],⟨0,0,[],[]⟩,[],[]⟩) l4 X bC rfl
     (.cons (iC ..) (.cons (iC ..) (.cons (kO ..) (.cons (kO ..) (.cons (jS ..) (.cons (iC ..) (.cons (iC ..) (.cons (kO ..) (.cons (jS ..) (.cons (jS ..) (.cons (jS ..) .nil)))))))))))
     (.mk (λB=>by simp at B) (λB=>by simp at B) Y (λB=>by simp at B) Y Y) (by
       have:=DV d;rw[ei.mR,eY.mR];simp only[ei.us,ei.MQ,ei.xh,ei.Ap,ei.jE,eY.jE,eY.Id];omega)
    simp[l4.get,fin.1];exact fin.2
   ·simp[f];refine MK ⟨m,b,o,r,d,cnt⟩ Y X u l4 bC λe hE j fin=>?_;simp[wA,j,λnm=>(fin [] nm).1];exact(fin _ _).2
def ahj(a:Nat):(Zu a).Ok prog cx 130:=
 yW (λc:U8=>c.d) (λa b=>ad4 (a+1) (ad3 a b (ae2 a b))) a
