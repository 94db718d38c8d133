/- W01 -/
import Derived.Test.YtnfojkibhgjfmaaGreatDoorA11
import Derived.Test.YtnfojkibhgjfmaaGreatDoorA7
set_option linter.all false
set_option maxRecDepth 100000
set_option maxHeartbeats 0
namespace Go.Proofs.YtnfojkibhgjfmaaGreatDoor
noncomputable section
open Go Go.TI Tryz
attribute [-simp] List.map_take List.map_drop List.map_append ij fU fH Bool.not_or Bool.not_and
def okB(a:List Int):Prop:=a.length<=140737488351232/\∀x∈a,0<=x/\x<256
def Tp(b:List Int)(c:Nat)(d:H):Prop:=∃e a,d.get c=D (dU 2 e [.eQ [sl (b.map (T.int .u8)),J a]])/\0<=a
structure De where
 (L:List Int) (b:Nat) (n:Int)
def yc(a:De)(d:List T)(c:H):Prop:=d=[dY a.b,J a.n]/\Tp a.L a.b c/\iS 0 c/\1<=a.n/\a.n<=100/\okB a.L
def vi(a:De)(g:List T)(e:H)(f:T)(d:H):Prop:=∃c,f= J c/\0<=c/\c<a.n/\Tp a.L a.b d/\Sm a.b e d
def _root_.Go.TI.Sm.out{b:Nat}{h c:H}(a:Sm b (TI.hr h) c):Sm b h (mF h c):=⟨a.ok.out h,a.size,λd e=>by rw[iA,a.get d e,iI]⟩
def Gf{k:ak}{a b:Int}(d:¬b=0):binop .rem (.int k a) (.int k b)=D (.int k (a.tmod b)):=by
 have c:XA b 0=false:=by rw[BM];simp[d]
 unfold binop;simp[AS,c]
def UX:(jS De yc vi).Ok prog cx 91:=by
 refine jz (tb:=⟨pt [],ht []⟩) jk iX (js 262163 [] func91) (λ_ _=>5) (λA a h u=>by obtain⟨rfl,_⟩:=u;simp[f91]) ?_;rintro⟨c,e,j⟩ _ h ⟨rfl,⟨g,b,f,l⟩,m,s,t,o,k⟩ B p
 dsimp at f l s t o k
 simp at p;simp[*,f91];refine fG (λi=>?_) (λi=>?_);simp[i];exact⟨0,rfl,Int.le_refl _,dQ,⟨g,b,by rw[iA,iI];exact f,l⟩,Sm.out (Sm.refl m.hr)⟩;simp at i;have C:IntKind.i64.wrap (b+1)=b+1:=by rw[<-kz];exact kI G G
 have E:IntKind.i64.wrap b=b:=by rw[<-kz];exact kI G G
 have v:Sm e (hr h) _:=(Sm.refl m.hr).put (x:=(dU 2 g [.eQ [sl (c.map (T.int .u8)),J b]])) (by rw[iI];exact f) (dU 2 (g+1) [.eQ [sl (c.map (T.int .u8)),J (b+1)]]);have n:(fF (hr h) e (dU 2 (g+1) [.eQ [sl (c.map (T.int .u8)),J (b+1)]])).get e=_:=(ez (h:=hr h) (by rw[iI];exact f) _ e).trans (ax rfl);simp[*,qI,fD];generalize fF (hr h) e _=w at*
 obtain⟨d,rfl⟩:∃d:Nat,b=d:=⟨b.toNat,G⟩;have r:d<c.length:=G;have q:=k c[d] (aH r);have y: -9223372036854775808<=c[d]:=G;have z:c[d]<9223372036854775808:=G;have t0:=Int.tmod_nonneg j q.1;have t1:=Int.tmod_lt_of_pos c[d] (show 0<j by omega);simp[*,tv,Gf (a:=c[d]) (show¬j=0 by omega)];exact⟨_,rfl,t0,t1,⟨_,_,by rw[iA];exact n,G⟩,Sm.out v⟩
def NT:iE:=⟨Int,λa=>[J a],λ_=>True,λa=>(fy.mk 1 a [] []).t,λa c b=>by simp at b;rw[b]⟩
def af3:NT.Ok prog cx 159:=by refine iz [] (js 5 [] func159) (λ_=>5) (by simp[NT]) ?_;rintro a _ c b;simp[NT]at a b|-;simp[f159,b];simpa using fy.fold 1 a [] []
def Zn{b:ik}(ht:b.p 159=D NT)(a:Int):rl prog cx b 159 [J a]=D (fy.mk 1 a [] []).t:=iF ht af3 a trivial
def RE:iE:=⟨List Nat,λa=>[.str a],λ_=>True,λa=>(fy.mk 2 0 a []).t,λa c b=>by simp at b;rw[b]⟩
def af4:RE.Ok prog cx 246:=by refine iz [] (js 5 [] func246) (λ_=>5) (by simp[RE]) ?_;rintro a _ c b;simp[RE]at a b|-;simp[f246,b];simpa using fy.fold 2 0 a []
def Zo{b:ik}(ht:b.p 246=D RE)(a:List Nat):rl prog cx b 246 [.str a]=D (fy.mk 2 0 a []).t:=iF ht af4 a trivial
def RG:iE:=⟨Int×fy×fy,λa=>[J a.1,a.2.1.t,a.2.2.t],λ_=>True,λa=>(fy.mk a.1 0 [] [a.2.1,a.2.2]).t,λa c b=>by
 simp at b;rw[b.1,fy.inj b.2.1,fy.inj b.2.2]⟩
def af9:RG.Ok prog cx 245:=by refine iz [] (js 119 [] func245) (λ_=>5) (by simp[RG]) ?_;rintro⟨d,b,c⟩ _ e a;simp[RG]at a|-;simp[f245,a,iU];simpa using fy.fold d 0 [] [b,c]
def adq{d:ik}(ht:d.p 245=D RG)(c:Int)(a b:fy):rl prog cx d 245 [J c,a.t,b.t]=D (fy.mk c 0 [] [a,b]).t:=iF ht af9 (c,a,b) trivial
def RH:iE:=⟨List Nat×fy,λa=>[.str a.1,a.2.t],λ_=>True,λa=>(eY.mk 1 0 a.1 [] [] a.2 [] []).t,λa c b=>by
 simp at b;rw[b.1,fy.inj b.2]⟩
def aga:RH.Ok prog cx 158:=by refine iz [] (js 27 [] func158) (λ_=>5) (by simp[RH]) ?_;rintro⟨b,c⟩ _ d a;simp[RH]at a|-;simp[f158,a];rw[eY.pY];rfl
def yQ:List jp:=[⟨1,0,[120],0,0,[]⟩,⟨1,0,[121],0,1,[]⟩,⟨2,0,[118],0,0,[]⟩,⟨1,0,[113],2,0,[]⟩,⟨3,0,[109],0,0,[]⟩,⟨3,0,[110],0,0,[]⟩,⟨4,0,[114],0,0,[]⟩,⟨5,0,[99],0,0,[109]⟩,⟨6,0,[102],0,0,[]⟩]
def Gq:iE:=⟨Unit,λ_=>[],λ_=>True,λ_=>sl (yQ.map jp.t),λ_ _ _=>rfl⟩
def Yt:Gq.Ok prog cx 156:=by refine iz [] (js 1 [] func156) (λ_=>5) (by simp[Gq]) ?_;rintro _ _ b a;simp[Gq]at a|-;simp[f156,iU,yQ]
def WA{a:ik}(ht:a.p 156=D Gq):rl prog cx a 156 []=D (sl (yQ.map jp.t)):=iF ht Yt () trivial
def xP{c:ik}(ht:c.p 158=D RH)(a:List Nat)(b:fy):rl prog cx c 158 [.str a,b.t]=D (eY.mk 1 0 a [] [] b [] []).t:=iF ht aga (a,b) trivial
def vS(b:Nat)(e left:Int)(set f a d:Bool)(c:T):List T:=[dY b,J e,J left,.ej set,.ej f,.ej a,.ej d,c]
structure Mk(L:List Int)(n:Nat)(h:H)(m b:Nat):Prop where
 ok:iS 0 h
 fp:∀c,Fp h m c->c<h.size
 tp:Tp L b h
 ex:∃ver th left set tx at' lp hv,∃hs:List (List Nat),h.get m=D (dU 8 ver [.eQ (vS b th left set tx at' lp hv)])/\Gr h hv 1 (hs.map T.str)/\hs.length=n
def Mk.ne{e:List Int}{h:Nat}{g:H}{d b:Nat}(c:Mk e h g d b):d≠b:=λi=>by
 have⟨k,j,f,_⟩:=c.tp;have⟨_,_,_,_,_,_,_,_,_,a,_⟩:=c.ex;rw[i,f]at a;simp at a
def Mk.lt{c:List Int}{f:Nat}{b:H}{a d:Nat}(e:Mk c f b a d):a<b.size:=e.fp a (.inl rfl)
def Mk.fpb{d:List Int}{g:Nat}{b:H}{c a:Nat}(f:Mk d g b c a):Fp b c a:=by have⟨_,_,_,_,_,_,_,_,_,e,_⟩:=f.ex;exact .inr ⟨_,e,_,by simp[ir,T.cells,vS];exact .inl rfl,rfl⟩
def Mk.tape{i:List Int}{m:Nat}{h e:H}{d g:Nat}(f:Mk i m h d g)(a:Sm g h e)(v:Tp i g e):Mk i m e d g/\Step d h e:=by have j:e.get d=h.get d:=a.get d f.ne;have⟨z,C,p,_⟩:=f.tp;have⟨y,w,left,set,x,o,u,t,s,q,l,hl⟩:=f.ex;refine⟨⟨a.ok,λc b=>by rw[jN j]at b;rw[a.size];exact f.fp c b,v,y,w,left,set,x,o,u,t,s,j▸q,l.mono λc b=>a.get c λk=>?_,hl⟩,⟨a.ok.hp,a.ok.low,a.size▸az _⟩,λc _ r=>a.get c λk=>r (k▸f.fpb),λc b=>by rw[jN j]at b;exact .inl b⟩;have⟨A,z,B,E,n,_⟩:=l.box b;rw[k,p]at n;simp at n
structure Tw(L:List Int)(b:Nat)(h h':H):Prop where
 ok:iS 0 h'
 size:h.size<=h'.size
 get:∀c,c<h.size->c≠b->h'.get c=h.get c
 tp:Tp L b h'
def Tw.refl{b:List Int}{c:Nat}{a:H}(d:iS 0 a)(e:Tp b c a):Tw b c a a:=⟨d,az _,λ_ _ _=>rfl,e⟩
def Tp.lt{c:List Int}{a:Nat}{b:H}(e:Tp c a b):a<b.size:=by obtain⟨_,_,d,_⟩:=e;exact H.fN d
def Tp.eq{b:List Int}{a:Nat}{c d:H}(i:Tp b a c)(f:d.get a=c.get a):Tp b a d:=by obtain⟨j,g,e,h⟩:=i;exact⟨j,g,f▸e,h⟩
theorem Tw.cons{a:List Int}{b:Nat}{c d:H}(w:Tw a b c d)(e:jI):Tw a b c (d.cons e):=
 ⟨w.ok.cons e,qN w.size,λf g h=>by rw[fg,aw (iH w.size)];exact w.get f g h,w.tp.eq (by rw[fg,aw (iH w.tp.lt)])⟩
theorem Tw.put{f:List Int}{d:Nat}{a e:H}(b:Tw f d a e){c:Nat}{x:jI}(g:e.get c=D x)(m:a.size<=c)(l:d<a.size)(h:jI):Tw f d a (fF e c h):=
 ⟨b.ok.put c h,by rw[iB];exact b.size,λi j k=>by rw[ez g,aw G];exact b.get i j k,b.tp.eq (by rw[ez g,aw G])⟩
def Tw.call{b:List Int}{a:Nat}{f g c:H}(i:Tw b a f g)(d:Sm a g c)(k:Tp b a c):Tw b a f c:=
 ⟨d.ok,d.size▸i.size,λe j h=>(d.get e h).trans (i.get e j h),k⟩
def Tw.cut{j:List Int}{e:Nat}{a d:H}(b:Tw j e (TI.hr a) d)(A:iS 0 a)(v:e<a.size){p q:T}{o:T->H->Prop}(x:∃i,j4 d a.size p=D i/\cn i=q)
 (z:Sm e a (yo a d)->Tp j e (yo a d)->o q (yo a d)):BY a p d o:=by
 obtain⟨i,u,rfl⟩:=x;have h:a.size<=d.size:=b.size;refine⟨b.ok.hp,h,λc B w l=>?_,i,u,z ⟨A.cut b.ok.hp h,rfl,λc y=>?_⟩ (b.tp.eq (CZ b.ok.hp h v))⟩;by_cases f:c=e;have⟨r,E,t,_⟩:=b.tp;rw[f,t]at l;cases l;refine .inr λr k=>(G5 r ?_).mono (aB _);simp[ir,T.cells]at k;rcases k with rfl|rfl<;>simp;exact .inl ((b.get c w f).trans (iI a c));by_cases f:c<a.size;rw[CZ b.ok.hp h f,b.get c f y,iI];have m:∀g:H,g.size=a.size->g.get c=none:=λg C=>by
  rcases s:g.get c with _|B;rfl;have:=H.fN s;omega
 rw[m (yo a d) rfl,m a rfl]
def Mk.tw{h:List Int}{m:Nat}{a f:H}{b i:Nat}(c:Mk h m a b i)(d:Tw h i (TI.hr a) f):Mk h m f b i:=by have l:f.get b=a.get b:=(d.get b c.lt c.ne).trans (iI a b);have⟨x,B,o,_⟩:=c.tp;have⟨w,u,left,set,v,n,s,r,q,p,k,hl⟩:=c.ex;have A:a.size<=f.size:=d.size;refine⟨d.ok,λe g=>by rw[jN l]at g;have:=c.fp e g;omega,d.tp,w,u,left,set,v,n,s,r,q,l▸p,k.mono λe g=>?_,hl⟩;have⟨y,x,z,C,j,_⟩:=k.box g;exact(d.get e (H.fN j) λt=>by rw[t,o]at j;simp at j).trans (iI a e)
def vK{g:ik}{l:Nat}{e:List Int}{b:Nat}{d:Int}{f:H}{m:af Oper}{j:aa Tmp}{k:List Oper}{o n:iP}{i:jD}(ht:g.h 91=D (jS De yc vi))(y:Tp e b f)(u:iS 0 f)(q:1<=d)(r:d<=100)(s:okB e)
 (p:∀(a:Nat) c,(a:Int)<d->Tp e b c->Sm b f c->XK (some (J a,c)) cx (rY prog cx g) l m j k o n i):XK (hl prog cx g 91 [dY b,J d] f) cx (rY prog cx g) l m j k o n i:=
 jl UX ht ⟨e,b,d⟩ ⟨rfl,y,u,q,r,s⟩ (by
  rintro _ c ⟨a,rfl,z,v,w,x⟩;obtain⟨a,rfl⟩:∃t:Nat,a=t:=⟨a.toNat,G⟩;exact p a c v w x)
def Pf{i:ik}{p:Nat}{f:List Int}{c:Nat}{e:Int}{b:H}{r:af Oper}{k:List (Nat×Nat)}{l:aa Tmp}{q:Op}{n:List Oper}{g:Nat}{o:List (Nat×Nat)}{m:List (Nat×H×H)}{t s:iP}{j:jD}(ht:i.h 91=D (jS De yc vi))(C:Tp f c b)(y:iS 0 b)(v:1<=e)(w:e<=100)(x:okB f)
 (u:∀(a:Nat) d,(a:Int)<e->Tp f c d->Sm c b d->Xn (some (J a,d)) cx (rY prog cx i) p r k l q n g o m t s b j):Xn (hl prog cx i 91 [dY c,J e] b) cx (rY prog cx i) p r k l q n g o m t s b j:=
 ma UX ht ⟨f,c,e⟩ ⟨rfl,C,y,v,w,x⟩ (by
  rintro _ d ⟨a,rfl,E,z,A,B⟩;obtain⟨a,rfl⟩:∃g:Nat,a=g:=⟨a.toNat,G⟩;exact u a d z A B)
def fy.ft{b:H}{Vq:Nat->Prop}(a:fy)(d:Nat):FT b Vq (d+2) a.t a.t:= .inr (.inr ⟨_,_,a.pY,.cons (iL ..) (.cons (iL ..) (.cons (lI ..) (.cons (sa _ _ _ λe c=>by obtain⟨f,_,rfl⟩:=List.mem_map.1 c;simp) .nil))),a.pY⟩)
structure ZJ where
 (L:List Int) (m b n d:Nat)
def abK(a:ZJ)(c:List T)(e:H):Prop:=c=[dY a.m,J a.d]/\Mk a.L a.n e a.m a.b/\okB a.L/\a.d<=10
def PZ(a:ZJ)(h:List T)(f:H)(g:T)(e:H):Prop:=∃c:fy,g=c.t/\ME c/\c.w<=3^a.d/\Tp a.L a.b e/\Sm a.b f e
def Ku{f:List Int}{m e n d:Nat}{b c:H}{z:jI}{a k:Int}{s:List Nat}{v:T}{l:List fy}{args:List T}(q:iS 0 b)(h:e<b.size)(y:Tw f e (TI.hr b) c)(g:c.get b.size=D z)
 (o:FT (fF c b.size (dU 4 1 [.eQ [J a,J k,.str s,v]])) (λi=>b.size<=i) 11 v (sl (l.map fy.t))) (j:ME ⟨a,k,s,l⟩) (p:(fy.mk a k s l).w<=3^d):
 (fF c b.size (dU 4 1 [.eQ [J a,J k,.str s,v]])).get b.size=D (dU 4 1 [.eQ [J a,J k,.str s,v]])/\
 BY b (.eQ [J a,J k,.str s,v]) (fF c b.size (dU 4 1 [.eQ [J a,J k,.str s,v]])) (PZ ⟨f,m,e,n,d⟩ args b):=
 ⟨(ez g _ _).trans (ax rfl),(y.put g (az _) h _).cut q h (FT.top (az 11) (λ_ r=>r) (.cons (iL ..) (.cons (iL ..) (.cons (lI ..) (.cons o .nil))))) λu x=>⟨⟨a,k,s,l⟩,(fy.pY ⟨a,k,s,l⟩).symm,j,p,x,u⟩⟩
abbrev RF(e:Nat):mU:=jS ZJ (λa b c=>abK a b c/\a.d<e) PZ
def VU(k:Nat)(R:(RF k).Ok prog cx 244):(RF (k+1)).Ok prog cx 244:=by
 refine uB (tb:=⟨pt [(159,NT),(246,RE),(245,RG)],ht [(91,jS De yc vi),(244,RF k)]⟩) jk iX (js 35186519589107 [(10,[(8,13),(9,13),(8,17),(9,17)])] func244) (λ_ _=>5) (λi a e bp=>by obtain⟨⟨rfl,_⟩,_⟩:=bp;simp[f244]) ?_;rintro⟨K,m,A,n,d⟩ _ e ⟨⟨rfl,b,u,aX⟩,a7⟩ c1 j
 dsimp at b u aX a7
 simp at j;have⟨cX,cp,left,set,cv,bT,cb,b8,b7,L,bW,hl⟩:=b.ex;simp[vS]at L;have bn:=b.lt;have a8:(m=e.size)=False:=dP;have bi:(m=e.size+1)=False:=dP;simp[f244,j,L,a8,bi];have I:=((Tw.refl b.ok.hr (b.tp.eq (iI e A))).cons (dU 4 0 [.eQ [J 0,J 0,.str [],dT]])).cons (dU 1 0 [.str [97],.str [98],.str [120],.str [121],.str [118],.str [120],.str [121]]);refine vK V I.tp I.ok G G u λca q bZ t2 E=>?_;have C:=b.tp.lt;have f:=I.call E t2;have gR:q.get e.size=D (dU 4 0 [.eQ [J 0,J 0,.str [],dT]]):=(E.get _ G).trans V;have gN:q.get (e.size+1)=D (dU 1 0 [.str [97],.str [98],.str [120],.str [121],.str [118],.str [120],.str [121]]):=(E.get _ G).trans V;have M:=((f.get m bn b.ne).trans (iI e m)).trans L;clear E I;simp[j];refine fG (λP=>?_) (λP=>?_);simp[j,M];refine vK V f.tp f.ok G G u λg r _ t3 h=>?_;have o:=f.call h t3;have gR:=(h.get _ G).trans gR;have fin:=Ku (m:=m) (n:=n) (d:=d) (v:=sl []) (l:=[]) (args:=[dY m,J d]) b.ok C o gR (sa _ _ _ V) (.num g) (by rw[fy.nG];simp[fy.Kb,fy.jX];exact Nat.pow_pos G);simp[Zn,gR,fin.1];exact fin.2;simp;refine fG (λN=>?_) (λN=>?_);simp[j,M];refine vK V f.tp f.ok G G u λg r Y t3 h=>?_;have o:=f.call h t3;have gR:=(h.get _ G).trans gR;have gN:=(h.get _ G).trans gN;have p:∃s:List Nat,([.str [97],.str [98],.str [120],.str [121],.str [118],.str [120],.str [121]]:List T)[g]? =D (.str s):=by
  rcases(by omega:g=0\/g=1\/g=2\/g=3\/g=4\/g=5\/g=6)with rfl|rfl|rfl|rfl|rfl|rfl|rfl<;>exact⟨_,rfl⟩
 obtain⟨s,p⟩:=p;generalize([.str [97],.str [98],.str [120],.str [121],.str [118],.str [120],.str [121]]:List T)=ap at gN p;have fin:=Ku (m:=m) (n:=n) (d:=d) (v:=sl []) (l:=[]) (args:=[dY m,J d]) b.ok C o gR (sa _ _ _ V) (.nm s) (by rw[fy.nG];simp[fy.Kb,fy.jX];exact Nat.pow_pos G);have Y:g<7:=G;simp[gN,Y,p,Zo,gR,fin.1];exact fin.2;simp;refine fG (λO=>?_) (λO=>?_);simp[j];simp at N P O;refine jl R V ⟨K,m,A,n,0⟩ ⟨⟨rfl,b.tw f,u,V⟩,dQ⟩ ?_;rintro _ r ⟨c,rfl,aA,bu,t3,h⟩
 dsimp at bu t3 h
 have o:=f.call h t3;have gR:=(h.get _ G).trans gR;have b6:=H.fN gR;have Q:(e.size=r.size)=False:=dP;have B:(r.cons (dU 4 0 [c.t])).get e.size=_:=(by rw[fg,aw G]:(r.cons (dU 4 0 [c.t])).get e.size=r.get e.size).trans gR;have fin:=Ku (m:=m) (n:=n) (d:=d) (a:=3) (k:=0) (s:=[113]) (v:= .arr r.size 0 0 1 false) (l:=[c]) (args:=[dY m,J d]) b.ok C (o.cons (dU 4 0 [c.t])) B
  (.inr (.inl ⟨r.size,0,0,1,false,[c.t],[c.t],rfl,G,by rw[iU,ez B,aw G,fg,ax rfl];simp,.cons (c.ft 8) .nil,rfl⟩)) (.ix aA) (by
    have:3^1<=3^d:=Nat.pow_le_pow_right G G;rw[fy.nG];simp[fy.Kb,fy.lq,fy.jX];omega)
 simp[gR,Q,fin.1];exact fin.2;simp at N P O;obtain⟨d,rfl⟩:∃c,d=c+1:=⟨d-1,G⟩;have Q:(m=q.size)=False:=by have:=f.size;simp at this;simp;omega
 have an:IntKind.i64.wrap d=(d:Int):=by rw[<-kz];exact kI G G
 simp[j,Q,M];have o:=f.cons (dU 1 0 [J 6,J 7,J 8,J 11,J 13,J 17]);refine Pf V o.tp o.ok G G u λw x Z t4 F=>?_;have ae:=o.call F t4;have b9:q.size+1=x.size:=by rw[F.size];simp
 have bX:=f.tp.lt;have gO:x.get q.size=D (dU 1 0 [J 6,J 7,J 8,J 11,J 13,J 17]):=(F.get _ G).trans V;have B:x.get e.size=_:=((F.get _ G).trans (by rw[fg,aw (iH (H.fN gR))])).trans gR;have p:∃s:Int,([J 6,J 7,J 8,J 11,J 13,J 17]:List T)[w]? =D (J s)/\6<=s:=by
  rcases(by omega:w=0\/w=1\/w=2\/w=3\/w=4\/w=5)with rfl|rfl|rfl|rfl|rfl|rfl<;>exact⟨_,rfl,G⟩
 obtain⟨s,p,bs⟩:=p;generalize([J 6,J 7,J 8,J 11,J 13,J 17]:List T)=ap at*
 have Z:w<6:=G;simp[j,gO,p,Z,tv,an];refine ma R V ⟨K,m,A,n,d⟩ ⟨⟨rfl,b.tw ae,u,dQ⟩,dQ⟩ ?_;rintro _ W ⟨c,rfl,aE,bA,t5,y⟩
 dsimp at bA t5 y
 have al:=ae.call y t5;have av:=(y.get _ G).trans B;have bH:gJ x W q.size:=il (y.get _ G);simp[j,tv,an,bH];refine ma R V ⟨K,m,A,n,d⟩ ⟨⟨rfl,b.tw al,u,dQ⟩,dQ⟩ ?_;rintro _ X ⟨S,rfl,aN,bC,t6,z⟩
 dsimp at bC t6 z
 have bS:=al.call z t6;have U:=(z.get _ G).trans av;have bN:gJ W X q.size:=il (z.get _ G);have cL:gJ x X q.size:=il ((z.get _ G).trans (y.get _ G));have fin:=Ku (m:=m) (n:=n) (d:=d+1) (a:=s) (k:=0) (s:=[]) (v:=sl [c.t,S.t]) (l:=[c,S]) (args:=[dY m,J (d+1:Nat)]) b.ok C bS U (sa _ _ _ V) (.bin bs aE aN) (by
  have:=Nat.pow_pos (n:=d) (show 0<3 by omega);rw[fy.nG,Nat.pow_succ];simp[fy.Kb,fy.lq,fy.jX];omega)
 simp[adq,bN,U,fin.1];exact fin.2
def LR(a:Nat):(RF a).Ok prog cx 244:=yE (λb:ZJ=>b.d) VU a
def Nw(d c:Nat)(b:H)(e:Nat)(f:T)(a:Nat):Prop:=d<=a/\a<c/\¬Fp b e a/\fa f≠some a
def Qi(a:Nat):fa .mf≠some a:=by show(none:aa Nat)≠some a;simp
def SV(f e:Nat)(b:H)(g h:Nat)(c:T)(i:List eY):Prop:=∃d,Gr b c 11 d/\jr (FT b (Nw f e b g c) (h+2)) d (i.map eY.t)/\∀a,fa c=D a->f<=a/\a<e/\¬Fp b g a
theorem SV.nil(d c:Nat)(b:H)(e a:Nat):SV d c b e a dT []:=⟨[],Gr.nil _ _,.nil,V⟩
def SV.same{i h m k:Nat}{f g:H}{d j:Nat}{n:T}{l:List eY}(r:SV i h f d j n l)(v:m<=i)(w:h<=k)(c:∀a,i<=a->a<h->¬Fp f d a->g.get a=f.get a/\¬Fp g d a):SV m k g d j n l:=by obtain⟨p,q,o,e⟩:=r;refine⟨p,q.mono λa b=>(c a (e a b).1 (e a b).2.1 (e a b).2.2).1,o.ft λa b=>⟨⟨iH b.1,iH b.2.1,(c a b.1 b.2.1 b.2.2.1).2,b.2.2.2⟩,(c a b.1 b.2.1 b.2.2.1).1⟩,λa b=>?_⟩;have⟨s,t,u⟩:=e a b;exact⟨G,G,(c a s t u).2⟩
def SV.step{i b:Nat}{a f:H}{c e:Nat}{l:T}{h:List eY}(m:SV i b a c e l h)(k:Step c a f)(o:b<=a.size):SV i b f c e l h:=
 m.same (az _) (az _) λd _ n g=>⟨k.get d G g,λj=>(k.fp d j).elim g λj=>by omega⟩
def SV.wide{f c g d:Nat}{b:H}{h a:Nat}{i:T}{e:List eY}(l:SV f c b h a i e)(j:g<=f)(k:c<=d):SV g d b h a i e:=l.same j k λ_ _ _ m=>⟨rfl,m⟩
def SV.box{e d:Nat}{i:H}{l h:Nat}{g:T}{k:List eY}(c:SV e d i l h g k){a:Nat}(j:e<=a/\a<d->False):fa g≠some a:=λf=>by
 obtain⟨_,_,_,c⟩:=c;exact j ⟨(c a f).1,(c a f).2.1⟩
def SV.rx{f e:Nat}{b:H}{c g:Nat}{i:T}{h:List eY}(l:SV f e b c g i h){a:Nat}{m:jI}(d:Lb c b a m)(q:a<f\/e<=a)(j:jI):SV f e (fF b a j) c g i h:=
 l.same (az _) (az _) λn o p k=>⟨by rw[ez d.get,aw G],by rw[jN (show(fF b a j).get c=b.get c by rw[ez d.get,aw (bE d.ne)])];exact k⟩
def SV.ft{i h:Nat}{e:H}{j d:Nat}{k:T}{a:List eY}(p:SV i h e j d k a):FT e (Nw i h e j .mf) (d+3) k (sl (a.map eY.t)):=by obtain⟨n,g,b,q⟩:=p;have o:=g.jQ;rcases g with⟨rfl,rfl⟩|⟨c,m,y,v,A,rfl,w,x⟩;rcases hl:a.map eY.t with _|⟨z,a⟩;exact kc _ _ _ _;rw[hl]at b;cases b;have⟨r,s,u⟩:=q c rfl;exact .inr (.inl ⟨c,m,0,_,false,n,_,rfl,⟨r,s,u,Qi c⟩,o,b.ft λl f=>⟨⟨f.1,f.2.1,f.2.2.1,Qi l⟩,rfl⟩,rfl⟩)
def eY.ft{c:H}{Vq:Nat->Prop}(b:eY)(d:Nat):FT c Vq (d+2) b.t b.t:=by
 have f:∀a:List fy,FT c Vq (d+1) (sl (a.map fy.t)) (sl (a.map fy.t)):=λa=>sa _ _ _ λh e=>by obtain⟨i,_,rfl⟩:=List.mem_map.1 e;simp
 have g:∀a:List eY,FT c Vq (d+1) (sl (a.map eY.t)) (sl (a.map eY.t)):=λa=>sa _ _ _ λh e=>by obtain⟨i,_,rfl⟩:=List.mem_map.1 e;simp
 exact .inr (.inr ⟨_,_,b.pY,.cons (iL ..) (.cons (iL ..) (.cons (lI ..) (.cons (lI ..) (.cons (f _) (.cons (iL ..) (.cons (iL ..) (.cons (lI ..) (.cons (f _) (.cons (g _) (.cons (g _) .nil)))))))))),b.pY⟩)
def Mk.same{i:List Int}{m:Nat}{b c:H}{f g:Nat}(e:Mk i m b f g)(r:iS 0 c)(v:b.size<=c.size)(h:∀a,Fp b f a->c.get a=b.get a):Mk i m c f g:=by have k:=h f (.inl rfl);have⟨u,s,left,set,t,n,q,l,p,j,o,hl⟩:=e.ex;refine⟨r,λa d=>by rw[jN k]at d;have:=e.fp a d;omega,e.tp.eq (h g e.fpb),u,s,left,set,t,n,q,l,p,k▸j,o.mono λa d=>h a (.inr ⟨_,j,l,by simp[ir,T.cells,vS],d⟩),hl⟩
theorem Mk.cons{b:List Int}{f:Nat}{d:H}{e c:Nat}(a:Mk b f d e c)(g:jI):Mk b f (d.cons g) e c:=a.same (a.ok.cons g) V λh i=>by rw[fg,aw (iH (a.fp h i))]
def Mk.rx{d:List Int}{h:Nat}{b:H}{c e:Nat}(f:Mk d h b c e){a:Nat}{l:jI}(g:Lb c b a l)(i:jI):Mk d h (fF b a i) c e:=f.same (f.ok.put a i) (by rw[iB];exact az _) λm j=>by rw[ez g.get,aw (λk=>g.nf (by rw[<-k];exact j))]
def Mk.hr{b:List Int}{f:Nat}{a:H}{e c:Nat}(d:Mk b f a e c):Mk b f (TI.hr a) e c:=d.same d.ok.hr (az _) λg _=>iI a g
def Mk.out{b:List Int}{e:Nat}{h a:H}{m c:Nat}(d:Mk b e a m c):Mk b e (mF h a) m c:=d.same (d.ok.out h) (az _) λf _=>iA h a f
def SV.out{e c:Nat}{h a:H}{m b:Nat}{f:T}{d:List eY}(j:SV e c a m b f d):SV e c (mF h a) m b f d:=
 j.same (az _) (az _) λg _ _ i=>⟨iA h a g,by rw[jN (iA h a m)];exact i⟩
def Mk.set{j:List Int}{h:Nat}{c:H}{d b f:Nat}{s left th' left':Int}{r t l n se' tx' at2 lp':Bool}{a:T}{g:List (List Nat)}(e:Mk j h c d b)(k:c.get d=D (dU 8 f [.eQ (vS b s left r t l n a)]))(m:Gr c a 1 (g.map T.str))(hl:g.length=h):
 Step d c (fF c d (dU 8 (f+1) [.eQ (vS b th' left' se' tx' at2 lp' a)]))/\Mk j h (fF c d (dU 8 (f+1) [.eQ (vS b th' left' se' tx' at2 lp' a)])) d b:=by
 obtain⟨i,o,p,q⟩:=Fq e.ok e.fp k (cells':=vS b th' left' se' tx' at2 lp' a) (λu a=>by
  simp[vS,cz,cV,or_false]at a;rcases a with rfl|rfl|rfl|rfl|rfl|rfl|rfl|rfl<;>first|exact .inr (.inl rfl)|exact .inl (by simp[vS])) _ rfl
 exact⟨i,⟨i.ok.hp,i.ok.low,aB _⟩,o,e.tp.eq (by rw[ez k,aw (bE e.ne)]),f+1,th',left',se',tx',at2,lp',a,g,p,q _ _ _ m dR,hl⟩
def SV.app{B:List Int}{n h q:Nat}{b:H}{d E w:Nat}{v x:T}{xs:List T}{r l2:List eY}(k:SV h q b d w v r)(l:Mk B n b d E)(ap:h<=b.size)(an:q<=b.size)(ae:b.jQ x=D xs)(L:jr (FT b (Nw h q b d v) (w+2)) xs (l2.map eY.t))(U:∀i∈xs,i.cells.length=11)(Y:xs≠ [])(av:r.length+l2.length<=1000000):
 ∃A f,ju cx b 203 203 v x=be A f/\SV h f.size f d w A (r++l2)/\Mk B n f d E/\(∀p,Step d p b->p.size<=h->Step d p f)/\∀e,e<h->f.get e=b.get e:=by
 obtain⟨o,Q,C,s⟩:=k;have l1:o.length=r.length:=iD C.length;have l3:xs.length=l2.length:=iD L.length;obtain⟨A,f,i,e,I,al,P,rfl,M,g,j,m⟩:=Q.app (cx:=cx) l.ok CX rfl CW CX rfl rfl V ae U Y dP;have y:¬Fp b d e:=λK=>g.elim (λg=>(s e g).2.2 K) λg=>iH (l.fp e K);have Z:=m.sz;have X:h<=e:=g.elim (λg=>(s e g).1) λg=>by omega
 have W:=H.fN M;have z:f.get d=b.get d:=j d (λs=>y (s▸ .inl rfl)) l.lt;have O:∀a,Nw h q b d v a->Nw h f.size f d (.arr e I 0 (o++xs).length false) a/\f.get a=b.get a:=λa c=>by
  have N:a≠e:=λi=>g.elim (λg=>c.2.2.2 (i▸g)) λg=>iH c.2.1;exact⟨⟨c.1,by have:=c.2.1;omega,by rw[jN z];exact c.2.2.1,by simp;exact bE N⟩,j a N (by have:=c.2.1;omega)⟩
 refine⟨_,f,i,⟨o++xs,.inr ⟨e,I,al,P,o++xs,rfl,M,aM⟩,?_,λa F=>?_⟩,l.same ⟨m.hp,m.low,aB _⟩ Z λa c=>j a (λi=>y (i▸c)) (l.fp a c),λp u hl=>⟨⟨m.hp,m.low,iH u.ok.sz⟩,λa R S=>?_,λa c=>by rw[jN z]at c;exact u.fp a c⟩,λa c=>j a G G⟩;rw[List.map_append];exact(C.ft O).append (L.ft O);simp at F;subst F;exact⟨X,W,by rw[jN z];exact y⟩;exact(j a G (iH u.ok.sz)).trans (u.get a R S)
def wd(a:Nat):Nat:=100*10^a
def PC(a:Nat):wd (a+1)=10*wd a:=by unfold wd;rw[Nat.pow_succ];omega
def FR(a:Nat):100<=wd a:=by
 induction a with
 |zero=>decide
 |succ a b=>rw[PC];omega
structure XC where
 (L:List Int) (m b n d cnt:Nat)
def okM(a:XC)(c:H):Prop:=Mk a.L a.n c a.m a.b/\okB a.L/\a.d<=2/\a.n+a.d<=10/\a.cnt<=3
def Us(a:XC)(i:List T)(f:H)(h:T)(c:H):Prop:=∃e,SV f.size c.size c a.m (2*a.d+2) h e/\(∀g∈e,MS g/\g.w<=wd a.d)/\e.length<=a.cnt/\Mk a.L a.n c a.m a.b/\Step a.m f c
def JS(a:XC)(i:List T)(g:H)(h:T)(c:H):Prop:=∃f e,h= .eQ f/\f.length=11/\FT c (Nw g.size c.size c a.m .mf) (2*a.d+4) h e.t/\MS e/\e.w<=wd a.d/\Mk a.L a.n c a.m a.b/\Step a.m g c
abbrev rMs(e:Nat):mU:=jS XC (λa b c=>(b=[dY a.m,J a.d,J a.cnt]/\okM a c)/\a.d<e) Us
abbrev rMt(e:Nat):mU:=jS XC (λa b c=>(b=[dY a.m,J a.d]/\okM a c)/\a.d<e) JS
def ags(k:Nat)(ae:(rMt k).Ok prog cx 196):(rMs k).Ok prog cx 157:=by
 refine jz (tb:=⟨pt [],ht [(196,rMt k)]⟩) jk iX (js 4194759 [] func157) (λ_ _=>10) (λe a o W=>by obtain⟨⟨rfl,_⟩,_⟩:=W;simp[f157]) ?_;rintro⟨y,f,z,P,m,A⟩ _ o ⟨⟨rfl,s,C,I,M,b⟩,L⟩ h F
 dsimp at s C I M b L
 simp at F;simp[f157];refine pU A (λe h n=>∃r j,SV o.size n.size n f (2*m+2) r j/\(∀l∈j,MS l/\l.w<=wd m)/\j.length=e/\Mk y P n f z/\Step f (hr o) n/\TI.Y h 0=D (dY f)/\TI.Y h 1=D (J m)/\TI.Y h 2=D (J A)/\TI.Y h 7=D r/\TI.Y h 8=D (J e)) ?_ G (k:=0) G ⟨dT,[],SV.nil _ _ _ _ _,V,rfl,s.hr,Step.refl s.ok.hr,by simp[F]⟩;rintro e h n a8 ⟨r,j,sv,hl,bi,u,v,p⟩;have⟨bC,bu,left,set,bA,aE,bs,bp,bn,B,aN,a7⟩:=u.ex;simp[vS]at B;simp[p,B];refine fG (λK=>?_) (λK=>?_);simp at K;simp[p];refine jl ae V ⟨y,f,z,P,m,0⟩ ⟨⟨rfl,u,C,I,M,V⟩,L⟩ ?_;rintro _ d ⟨c,l,rfl,H,ft,U,N,g,q⟩
 dsimp at ft N g q
 have Z:=v.ok.sz;have O:=q.ok.sz;simp at Z;have ap:=((sv.step q (az _)).step (Step.cons g.ok g.lt (dU 11 0 [.eQ c])) O).wide (az _) O;have E:∀i,i<d.size->(d.cons (dU 11 0 [.eQ c])).get i=d.get i:=λi b=>by rw[fg,aw G]
 have S:FT (d.cons (dU 11 0 [.eQ c])) (Nw o.size d.size (d.cons (dU 11 0 [.eQ c])) f r) (2*m+4) (.eQ c) l.t:=ft.mono λi b=>⟨⟨by have:=b.1;omega,b.2.1,by rw[jN (E f g.lt)];exact b.2.2.1,sv.box λQ=>by have:=b.1;omega⟩,E i b.2.1⟩;have⟨aA,aX,R,av,al,an,_⟩:=ap.app (g.cons (dU 11 0 [.eQ c])) (x:= .arr d.size 0 0 1 false) (xs:=[.eQ c]) (l2:=[l]) dP V d4 (.cons S .nil) (by simp[T.cells,H]) V dP;simp[p,R,H,jf (show-9223372036854775808<=(e:Int)+1 by omega) (show(e:Int)+1<9223372036854775808 by omega)];exact⟨e+1,G,G,aA,j++[l],av,λx X=>(List.mem_append.1 X).elim (hl x) λQ=>List.mem_singleton.1 Q▸⟨U,N⟩,dP,al,an _ ((v.trans q).trans (Step.cons g.ok g.lt _)) V,V⟩;simp[p];exact⟨j,sv.out,hl,dQ,u.out,v.out⟩
def Mk.held{s:List Int}{q:Nat}{c h:H}{a b f:Nat}{m left:Int}{l n g k:Bool}{p o:T}{j:List (List Nat)}{w:List Nat}(d:Mk s q c a b)(t:c.get a=D (dU 8 f [.eQ (vS b m left l n g k p)]))(v:Gr c p 1 (j.map T.str))(hl:j.length=q)(x:Xt c p 1 ((j++[w]).map T.str) o h):
 h.get a=c.get a/\Step a c (fF h a (dU 8 (f+1) [.eQ (vS b m left l n g k o)]))/\Mk s (q+1) (fF h a (dU 8 (f+1) [.eQ (vS b m left l n g k o)])) a b:=by
 have⟨e,C⟩:=AD (i:=7) d.ok d.fp t (by simp[vS]) dR v x;have⟨r,y,A,_⟩:=C _ rfl;have u:=e.trans t;have⟨K,I,z,_⟩:=d.tp;refine⟨e,r,⟨r.ok.hp,r.ok.low,aB _⟩,y,d.tp.eq ?_,f+1,m,left,l,n,g,k,o,j++[w],(ez u _ a).trans (ax rfl),A,dP⟩;rw[ez u,aw (bE d.ne)];refine x.2.1 b d.tp.lt λB=>?_;have⟨E,f,F,L,e,_⟩:=v.box B;rw[z]at e;simp at e
def Mk.drop{p:List Int}{g:Nat}{b:H}{c a l:Nat}{i left:Int}{h j e f:Bool}{n d:T}{m:List (List Nat)}(k:Mk p (g+1) b c a)(q:b.get c=D (dU 8 l [.eQ (vS a i left h j e f n)]))(hl:m.length=g+1)(r:Gr b d 1 ((m.map T.str).take g))(s:fa d=fa n):
 Step c b (fF b c (dU 8 (l+1) [.eQ (vS a i left h j e f d)]))/\Mk p g (fF b c (dU 8 (l+1) [.eQ (vS a i left h j e f d)])) c a:=by
 obtain⟨o,t,u,v⟩:=Fq k.ok k.fp q (cells':=vS a i left h j e f d) (λw hm=>by
  simp[vS,cz,cV,or_false]at hm;rcases hm with rfl|rfl|rfl|rfl|rfl|rfl|rfl|hm
  exact .inl (by simp[vS])
  iterate 6 exact .inr (.inl rfl)
  exact .inr (.inr ⟨n,by simp[vS],hm▸s⟩)) _ rfl
 exact⟨o,⟨o.ok.hp,o.ok.low,aB _⟩,t,k.tp.eq (by rw[ez q,aw (bE k.ne)]),l+1,i,left,h,j,e,f,d,m.take g,u,List.map_take▸v _ _ _ r dR,by rw[List.length_take];omega⟩
structure IBk where
 (L:List Int) (m b n d:Nat) (s:List Nat)
def afR(a:IBk)(c:List T)(e:H):Prop:=c=[dY a.m,.str a.s,J a.d]/\Mk a.L a.n e a.m a.b/\okB a.L/\a.d<=2/\a.n+a.d<=9
abbrev rBk(g:Nat):mU:=jS IBk (λa c e=>afR a c e/\a.d<g) (λa c e h f=>Us ⟨a.L,a.m,a.b,a.n,a.d,2⟩ c e h f)
def ahw(o:Nat)(an:(rMs o).Ok prog cx 157):(rBk o).Ok prog cx 248:=by
 refine jz (tb:=⟨pt [],ht [(91,jS De yc vi),(157,rMs o)]⟩) jk iX (js 199 [] func248) (λ_ _=>10) (λi a f al=>by obtain⟨⟨rfl,_⟩,_⟩:=al;simp[f248]) ?_;rintro⟨P,d,Q,n,R,s⟩ _ f ⟨⟨rfl,q,m,y,Z⟩,z⟩ bu X
 dsimp at q m y Z z
 simp at X;have g:=q.hr;have⟨N,L,left,set,M,u,E,C,B,b,c,hl⟩:=g.ex;have⟨aE,U,w,j⟩:=c.mR (cx:=cx) g.ok un rfl xL rfl V V s dP;have⟨H,t,e⟩:=g.held b c hl j;have x:=H.trans b;simp[vS]at b x t e;have S:f.get d=_:=(iI f d).symm.trans b;have bs:(d=f.size)=False:=qN q.lt;rw[qq]at w;simp[*,f248,fD,j.1.iW,j.1.cells];generalize fF U d _=a8 at*
 clear b S x H j w c g;have⟨N,L,left,set,M,u,E,C,B,b,c,hl⟩:=e.ex;simp[vS]at b;simp[*];refine vK V e.tp e.ok G G m λp bi bn t2 av=>?_;have⟨ap,I⟩:=e.tape av t2;have aN:binop .add (J 1) (J p)=D (J ((1+p:Nat):Int)):=by rw[jf G G];simp
 simp[*];refine jl an V ⟨P,d,Q,n+1,R,1+p⟩ ⟨⟨V,ap,m,y,dQ,dQ⟩,z⟩ ?_;rintro v W ⟨l,sv,A,ae,r,K⟩
 dsimp at sv A ae r K
 have⟨N,L,left,set,M,u,E,C,B,b,c,hl⟩:=r.ex;have T:=b;simp[vS]at b;have bp:=c.len (cx:=cx) W XM _ rfl;have⟨aE,a7,k,Y⟩:=c.cut (cx:=cx) (ty:=XM) rfl xL rfl (n:=n) dP dP;have⟨h,F⟩:=r.drop T hl k Y;have aX:binop .sub (J ((n:Int)+1)) (J 1)=D (J n):=by
  rw[tv,<-kz,kI G G];simp
 simp[vS]at h F;simp[*,fD,k.iW,k.cells];have aA:=((t.trans I).trans K).trans h;have O:=(t.trans I).ok.sz;simp at O;exact⟨l,((sv.step h (az _)).wide O (by have:=h.ok.sz;simp)).out,A,dQ,F.out,aA.out⟩
def DG:mU:=⟨λe a=>∃d c b f i,e=[dY b,.str i]/\Mk d c a b f/\c<=100,λ_ a h g=>g=a/\E8 h⟩
def Yp:DG.Ok prog cx 247:=by refine Nv (tb:=⟨pt [(151,Gt)],ht []⟩) jk iX (js 19 [] func247) false (λ_ _=>5) (λo a i=>by obtain⟨e,m,l,f,n,rfl,_⟩:=i;simp[f247]) ?_;rintro _ a ⟨e,m,l,f,n,rfl,d,q⟩ w c;simp at c;have⟨v,t,left,set,u,p,s,r,j,b,h,hl⟩:=d.ex;simp[vS]at b;have k:=(h.mono (h':=hr a) λg _=>iI a g).qY V;simp[f247,c,b,k,Tu,show j.length<=1099511627776 by omega];exact tR a _ _ d.ok.hp (Fr.refl _ _) rfl ⟨rfl,V⟩
def akD{d:H}{b:Nat->Prop}(h:eY)(c:Nat):jr (FT d b (c+1)) h.cs h.cs:=by
 have f:∀a:List fy,FT d b (c+1) (sl (a.map fy.t)) (sl (a.map fy.t)):=λa=>sa _ _ _ λi e=>by obtain⟨j,_,rfl⟩:=List.mem_map.1 e;simp
 have g:∀a:List eY,FT d b (c+1) (sl (a.map eY.t)) (sl (a.map eY.t)):=λa=>sa _ _ _ λi e=>by obtain⟨j,_,rfl⟩:=List.mem_map.1 e;simp
 exact .cons (iL ..) (.cons (iL ..) (.cons (lI ..) (.cons (lI ..) (.cons (f _) (.cons (iL ..) (.cons (iL ..) (.cons (lI ..) (.cons (f _) (.cons (g _) (.cons (g _) .nil))))))))))
def L7{i:XC}{args:List T}{a c:H}{r:jI}{cs:List T}{s:eY}(e:Lb i.m c a.size r)(g:Mk i.L i.n c i.m i.b)(p:Step i.m (TI.hr a) c)(hl:cs.length=11)(j:jr (FT c (Nw (a.size+1) c.size c i.m .mf) (2*i.d+3)) cs s.cs)(k:MS s)(o:s.w<=wd i.d):
 (fF c a.size (dU 11 1 [.eQ cs])).get a.size=D (dU 11 1 [.eQ cs])/\JS i args a (.eQ cs) (mF a (fF c a.size (dU 11 1 [.eQ cs]))):=by
 have l:(fF c a.size (dU 11 1 [.eQ cs])).get i.m=c.get i.m:=by rw[ez e.get,aw (bE e.ne)]
 have q:=Step.rx g.ok e (dU 11 1 [.eQ cs]) _ p (az _);refine⟨(ez e.get _ _).trans (ax rfl),cs,s,rfl,hl,?_,k,o,(g.rx e _).out,q.out⟩;refine .inr (.inr ⟨cs,s.cs,rfl,j.ft λh f=>⟨⟨iH f.1,qN f.2.1,?_,Qi h⟩,?_⟩,s.pY⟩);rw[jN (iA a _ i.m),jN l];exact f.2.2.1;rw[iA,ez e.get,aw (iH f.1)]
def Ib(c:List Nat)(b:List fy)(a:fy):eY:=⟨1,0,c,[],b,a,[],[]⟩
def HV{d:List Nat}{b:List fy}{c:fy}(g:∀i∈b,ME i)(f:ME c)(h:b≠ []->d=[113]):MS (Ib d b c):=
 .mk (λa=>by unfold Ib at a;simp at a) (λ_ a=>h a) g (λ_=>f) (λe a=>by unfold Ib at a;simp at a) (λe a=>by unfold Ib at a;simp at a)
def Q6{nm:List Nat}{ix:List fy}{e:fy}{d:Nat}(a:fy.ws ix<=20)(b:e.w<=20):(Ib nm ix e).w<=wd d:=by have:=FR d;rw[eY.nG];unfold Ib;simp[eY.vC,eY.O0,eY.yw,eY.BN,eY.jX];omega
abbrev ahS(f:XC)(e:List T)(b d:H)(c:List Nat)(a:fy):Prop:=
 (fF d b.size (dU 11 1 [.eQ [J 1,J 0,.str c,.str [],sl [],J a.op,J a.n,.str a.name,sl (a.l.map fy.t),sl [],sl []]])).get b.size=D (dU 11 1 [.eQ [J 1,J 0,.str c,.str [],sl [],J a.op,J a.n,.str a.name,sl (a.l.map fy.t),sl [],sl []]])/\
 JS f e b (.eQ [J 1,J 0,.str c,.str [],sl [],J a.op,J a.n,.str a.name,sl (a.l.map fy.t),sl [],sl []]) (mF b (fF d b.size (dU 11 1 [.eQ [J 1,J 0,.str c,.str [],sl [],J a.op,J a.n,.str a.name,sl (a.l.map fy.t),sl [],sl []]])))
def Pq{i:XC}{args:List T}{c d:H}{k:jI}{nm:List Nat}{a:fy}(g:Lb i.m d c.size k)(h:Mk i.L i.n d i.m i.b)(j:Step i.m (TI.hr c) d)(e:ME a)(f:a.w<=20):ahS i args c d nm a:=
 L7 (s:=Ib nm [] a) g h j rfl (akD (Ib nm [] a) _) (HV V e (λc=>absurd rfl c)) (Q6 (by rw[fy.jX];omega) f)
def OU(a:XC){f:ik}{s:af Oper}{k:aa Tmp}{l:List Oper}{x w:iP}{i:jD}{p:Nat}{d e:H}{y:jI}(ht:f.h 244=D (RF 11))(q:Mk a.L a.n e a.m a.b)(z:okB a.L)(o:Lb a.m e d.size y)(F:Step a.m (TI.hr d) e)
 (C:∀c hE,hE.get d.size=D y->(∀j r,ahS a j d hE r c)->XK (some (fy.t c,hE)) cx (rY prog cx f) p s k l x w i):XK (hl prog cx f 244 [dY a.m,J 1] e) cx (rY prog cx f) p s k l x w i:=by
 refine jl (LR 11) ht ⟨a.L,a.m,a.b,a.n,1⟩ ⟨⟨rfl,q,z,V⟩,V⟩ ?_;rintro _ hE ⟨c,rfl,A,B,v,u⟩
 dsimp at B v u
 have⟨E,g⟩:=q.tape u v;exact C c hE (o.step g).get λj r=>Pq (o.step g) E (F.trans g) A G 
theorem _root_.Go.TI.Lb.put{d:Nat}{b:H}{a c:Nat}{x g:jI}(f:Lb d b a x)(l2:Lb d b c g)(e:a≠c)(h:jI):Lb d (fF b c h) a x:=f.mp (by rw[ez l2.get,aw (bE l2.ne)]) (by rw[ez l2.get,aw e])
def aao{n:List Int}{q:Nat}{k b:H}{c o a:Nat}{w:jI}(p:Mk n q b c o)(e:Lb c b a w)(v:Step c (TI.hr k) b)(r:k.size<=a)(d:jI):
 Mk n q (fF b a d) c o/\Lb c (fF b a d) a d/\Step c (TI.hr k) (fF b a d)/\(∀g m,g≠a->Lb c b g m->Lb c (fF b a d) g m)/\∀i h j l f,SV i h b c j l f->a<i\/h<=a->SV i h (fF b a d) c j l f:=
 ⟨p.rx e d,⟨(ez e.get d a).trans (ax rfl),by rw[jN (show(fF b a d).get c=b.get c by rw[ez e.get,aw (bE e.ne)])];exact e.nf⟩,Step.rx p.ok e d _ v r,λg m s f=>f.put e s d,λi h j l f t u=>t.rx e u d⟩
theorem ny{o:List Int}{q:Nat}{m a:H}{b p:Nat}(g:Mk o q a b p)(s:Step b (TI.hr m) a)(c e:jI):
 Mk o q (fF (a.cons c) a.size e) b p/\Lb b (fF (a.cons c) a.size e) a.size e/\Step b (TI.hr m) (fF (a.cons c) a.size e)/\(∀h l,Lb b a h l->Lb b (fF (a.cons c) a.size e) h l)/\∀j f i k d,SV j f a b i k d->f<=a.size->SV j f (fF (a.cons c) a.size e) b i k d:=by
 have n:=Step.cons g.ok g.lt c;have v:=Lb.new g.lt g.fp c;have t:m.size<=a.size:=iD s.ok.sz;have⟨w,x,y,z,A⟩:=aao (g.cons c) v (s.trans n) t e;exact⟨w,x,y,λh l d=>z h l (iH d.lt) (d.step n),λj f i k d u r=>A j f i k d (u.step n r) (.inr r)⟩
def SV.gc{h e:Nat}{d:H}{i c:Nat}{a:T}{g:List eY}(f:SV h e d i c a g):a.iW/\a.cells=[a]:=by obtain⟨j,b,_⟩:=f;exact⟨b.iW,b.cells⟩
def SV.cell{g e c d:Nat}{b:H}{h a:Nat}{i:T}{f:List eY}(l:SV g e b h (2*a+2) i f)(j:c<=g)(k:e<=d):FT b (Nw c d b h .mf) (2*(a+1)+3) i (sl (f.map eY.t)):=by have:=(l.wide j k).ft;rw[show 2*(a+1)+3=2*a+2+3 by omega];exact this
def B2{a:List eY}{W:Nat}(c:∀b∈a,MS b/\b.w<=W):eY.ws a<=a.length*W:=by
 induction a with
 |nil=>rw[eY.jX];omega
 |cons f a e=>
  have g:=e λb d=>c b (List.mem_cons_of_mem _ d);have h:=(c f V).2;rw[eY.lq,aZ,cD];omega
def uK{k:List Int}{c m o d cnt:Nat}{args:List T}{a b:H}{p:jI}{op:Int}{nm:List Nat}{e:fy}{f g h:T}{j le:List eY}(z:Lb c b a.size p)(A:Mk k o b c m)(B:Step c (TI.hr a) b)
 (q:FT b (Nw (a.size+1) b.size b c .mf) (2*(d+1)+3) g (sl (j.map eY.t))) (r:FT b (Nw (a.size+1) b.size b c .mf) (2*(d+1)+3) h (sl (le.map eY.t))) (u:FT b (Nw (a.size+1) b.size b c .mf) (2*(d+1)+3) f (sl (e.l.map fy.t)))
 (E:2<=op/\op<=8) (hE:op<=3->ME e) (F:e.w<=20) (v:∀s∈j,MS s) (x:∀s∈le,MS s) (C:eY.ws j+eY.ws le<=5*wd d):
 (fF b a.size (dU 11 1 [.eQ [J op,J 0,.str nm,.str [],dT,J e.op,J e.n,.str e.name,f,g,h]])).get a.size=D (dU 11 1 [.eQ [J op,J 0,.str nm,.str [],dT,J e.op,J e.n,.str e.name,f,g,h]])/\
 JS ⟨k,c,m,o,d+1,cnt⟩ args a (.eQ [J op,J 0,.str nm,.str [],dT,J e.op,J e.n,.str e.name,f,g,h]) (mF a (fF b a.size (dU 11 1 [.eQ [J op,J 0,.str nm,.str [],dT,J e.op,J e.n,.str e.name,f,g,h]]))):=
 L7 (i:=⟨k,c,m,o,d+1,cnt⟩) (s:=⟨op,0,nm,[],[],e,j,le⟩) z A B rfl
  (.cons (iL ..) (.cons (iL ..) (.cons (lI ..) (.cons (lI ..) (.cons (kc ..) (.cons (iL ..) (.cons (iL ..) (.cons (lI ..) (.cons u (.cons q (.cons r .nil)))))))))))
  (.mk (λa=>by simp at a;omega) (λa=>by simp at a;omega) V (λa=>by simp at a;exact hE G) v x)
  (by
    have:=FR d;rw[eY.nG,PC];simp[eY.vC,eY.O0,eY.yw,eY.BN,fy.jX];omega)
def SV.deep{f d:Nat}{c:H}{g a b:Nat}{h:T}{e:List eY}(m:SV f d c g a h e)(o:a<=b):SV f d c g b h e:=by obtain⟨j,l,i,n⟩:=m;exact⟨j,l,i.imp λ_ _ k=>k.deep G,n⟩
def aew(a:Nat):wd 0<=wd a:=FR a
def SV.lit{g:List Int}{m:Nat}{a:H}{b j d:Nat}{es:List T}{l:List eY}(e:Mk g m a b j)(i:∀k h,jr (FT k h (d+2)) es (l.map eY.t)):SV a.size (a.size+1) (a.cons ⟨11,0,0,true,false,es⟩) b d (.arr a.size 0 0 es.length false) l:=by refine⟨es,.inr ⟨a.size,0,0,true,es,rfl,by rw[fg,ax rfl],aM⟩,i _ _,λn f=>?_⟩;simp at f;subst f;refine⟨az _,dA _,λc=>?_⟩;rw[jN (show(a.cons ⟨11,0,0,true,false,es⟩).get b=a.get b by rw[fg,aw (iH e.lt)])]at c;have:=e.fp _ c;omega
def Fc(a:Int):eY:=⟨a,0,[99],[],[],⟨0,0,[],[]⟩,[],[]⟩
def Wa{d:H}{b:Nat->Prop}(a:Int)(c:Nat):FT d b (c+2) (.eQ [J a,J 0,.str [99],.str [],dT,J 0,J 0,.str [],dT,dT,dT]) (Fc a).t:=
 .inr (.inr ⟨_,(Fc a).cs,rfl,.cons (iL ..) (.cons (iL ..) (.cons (lI ..) (.cons (lI ..) (.cons (kc ..) (.cons (iL ..) (.cons (iL ..) (.cons (lI ..) (.cons (kc ..) (.cons (kc ..) (.cons (kc ..) .nil)))))))))),eY.pY _⟩)
def V9{c:Int}(e:9<=c/\c<=11):MS (Fc c):= .mk (λ_=>rfl) (λb=>by unfold Fc at b;simp at b;omega) (λd a=>by unfold Fc at a;simp at a) (λb=>by unfold Fc at b;simp at b;omega) (λd a=>by unfold Fc at a;simp at a) (λd a=>by unfold Fc at a;simp at a)
def aaY(a:Int):(Fc a).w=5:=by rw[eY.nG,fy.nG];unfold Fc;simp[eY.vC,eY.O0,eY.yw,eY.BN,eY.jX,fy.jX,fy.Kb]
def Ey{b c a:Int}(d:b-c=a)(e: -9223372036854775808<=a)(f:a<9223372036854775808):binop .sub (J b) (J c)=D (J a):=by subst d;rw[tv,<-kz,kI e f]
def Db{b c a:Int}(d:b+c=a)(e: -9223372036854775808<=a)(f:a<9223372036854775808):binop .add (J b) (J c)=D (J a):=by subst d;rw[qI,<-kz,kI e f]
def agr(k:Nat)(c1:(rMs k).Ok prog cx 157)(eM:(rBk k).Ok prog cx 248):(rMt (k+1)).Ok prog cx 196:=by
 have⟨gn,c7⟩:=hlB Yp λ_ _ _ _ B=>B;have cv:=LR 11;refine jz (tb:=⟨pt [(159,NT),(246,RE),(245,RG),(158,RH)],ht [(91,jS De yc vi),(244,RF 11),(157,rMs k),(248,rBk k),(247,DG)]⟩) jk iX (js 521481210427296124309566527199867809678935259509485941609668421502669740186866579200068820979 [(5,[(0,5),(2,5),(3,5)]),(7,[(0,5),(0,9),(6,9),(7,9)])] func196) (λ_ _=>10) (λi a B fA=>by obtain⟨⟨rfl,_⟩,_⟩:=fA;simp[f196]) ?_;rintro⟨m,b,o,r,d,cnt⟩ _ B ⟨⟨rfl,bT,u,ff,fs,fe⟩,fi⟩ gS f;simp only at bT u ff fs fe fi;simp at f;have eH:(b=B.size)=False:=qN bT.lt;have A:=Step.cons bT.hr.ok bT.hr.lt (dU 11 0 [.eQ [J 0,J 0,.str [],.str [],dT,J 0,J 0,.str [],dT,dT,dT]]);have p:Lb b _ B.size _:=Lb.new bT.hr.lt bT.hr.fp (dU 11 0 [.eQ [J 0,J 0,.str [],.str [],dT,J 0,J 0,.str [],dT,dT,dT]]);have eh:=bT.hr.cons (dU 11 0 [.eQ [J 0,J 0,.str [],.str [],dT,J 0,J 0,.str [],dT,dT,dT]]);have⟨ca,ae,left,set,K,Y,aE,bZ,z,g,S,hl⟩:=eh.ex;have⟨dm,cp⟩:=eh.set (th':=ae) (left':=IntKind.i64.wrap (left-1)) (se':=set) (tx':=K) (at2:=Y) (lp':=aE) g S hl;replace p:=p.step dm;replace A:=A.trans dm;simp only[vS]at g dm cp p A;have ds:=g;rw[fg,qq,aw (iH bT.lt),iI]at ds;simp[f196,f,ds,eH,tv,fD];generalize fF ((hr B).cons _) b _=gv at*
 clear g ds S eh dm eH;have⟨ca,ae,left,set,K,Y,aE,bZ,z,g,S,hl⟩:=cp.ex;simp only[vS]at g;simp[g];refine vK V cp.tp cp.ok G G u λQ P gz t2 eS=>?_;have⟨c,er⟩:=cp.tape eS t2;replace p:=p.step er;replace A:=A.trans er;clear g S cp t2 eS er hl;have⟨ca,ae,left,set,K,Y,aE,bZ,z,g,S,hl⟩:=c.ex;have c9:=g;simp only[vS]at g;simp[f,g];rcases(by omega:Q=0\/Q=1\/Q=2\/Q=3\/Q=4\/Q=5\/Q=6\/Q=7\/Q=8\/Q=9\/Q=10\/Q=11\/Q=12\/Q=13\/Q=14\/Q=15\/Q=16\/Q=17)with rfl|rfl|rfl|rfl|rfl|rfl|rfl|rfl|rfl|rfl|rfl|rfl|rfl|rfl|rfl|rfl|rfl|rfl
 iterate 4
  simp[f];have E:=c.cons (dU 1 0 [.str [120],.str [121],.str [120],.str [118]]);have F:=Step.cons c.ok c.lt (dU 1 0 [.str [120],.str [121],.str [120],.str [118]]);refine ma cv V ⟨m,b,o,r,1⟩ ⟨⟨rfl,E,u,V⟩,V⟩ ?_;rintro _ hE ⟨e,rfl,bn,bC,ap,U⟩;simp only at bC ap U;have⟨an,X⟩:=E.tape U ap;have j:=(p.step F).step X;have fin:=λnm=>Pq (i:=⟨m,b,o,r,d,cnt⟩) (args:=[dY b,J d]) (nm:=nm) j an ((A.trans F).trans X) bn G;have ey:gJ (P.cons (dU 1 0 [.str [120],.str [121],.str [120],.str [118]])) hE P.size:=il (U.get _ (iH c.tp.lt));simp[xP,j.get,ey,λnm=>(fin nm).1];exact(fin _).2
 have fo:(b=P.size)=False:=qN c.lt;simp[f,g,fo];have E:=c.cons (dU 1 0 [.str [97],.str [98]]);have F:=Step.cons c.ok c.lt (dU 1 0 [.str [97],.str [98]]);refine Pf V E.tp E.ok G G u λW bS cb t4 aN=>?_;have⟨Z,bN⟩:=E.tape aN t4;have gO:bS.get P.size=D (dU 1 0 [.str [97],.str [98]]):=(aN.get _ (iH c.tp.lt)).trans V;have gm:gJ (P.cons (dU 1 0 [.str [97],.str [98]])) bS P.size:=il (aN.get _ (iH c.tp.lt));have⟨nm,e7⟩:∃nm:List Nat,([.str [97],.str [98]]:List T)[W]? =D (.str nm):=by
  rcases(by omega:W=0\/W=1)with rfl|rfl<;>exact⟨_,rfl⟩
 generalize([.str [97],.str [98]]:List T)=e6 at*
 have cb:W<2:=G;simp[f,gO,e7,cb,gm];refine ma cv V ⟨m,b,o,r,1⟩ ⟨⟨rfl,Z,u,V⟩,V⟩ ?_;rintro _ hE ⟨e,rfl,bn,bC,ap,U⟩;simp only at bC ap U;have⟨an,X⟩:=Z.tape U ap;have j:=((p.step F).step bN).step X;have fin:=Pq (i:=⟨m,b,o,r,d,cnt⟩) (args:=[dY b,J d]) (nm:=nm) j an (((A.trans F).trans bN).trans X) bn G;have ey:gJ bS hE P.size:=il (U.get _ (iH c.tp.lt));have gQ:gJ (P.cons ⟨1,0,0,true,false,e6⟩) hE P.size:=il ((U.get _ (iH c.tp.lt)).trans (aN.get _ (iH c.tp.lt)));simp[xP,j.get,ey,fin.1];exact fin.2;simp[f];refine jl cv V ⟨m,b,o,r,0⟩ ⟨⟨rfl,c,u,V⟩,V⟩ ?_;rintro _ hE ⟨e,rfl,bn,bC,ap,U⟩;simp only at bC ap U;have⟨an,X⟩:=c.tape U ap;have eR:=an.cons (dU 4 0 [e.t]);have eW:=Step.cons an.ok an.lt (dU 4 0 [e.t]);simp[f];refine jl cv V ⟨m,b,o,r,1⟩ ⟨⟨rfl,eR,u,V⟩,V⟩ ?_;rintro _ eD ⟨cX,rfl,e9,fB,e4,dk⟩;simp only at fB e4 dk;have⟨fS,et⟩:=eR.tape dk e4;have eO:=((p.step X).step eW).step et;have gD:=X.ok.sz;have gF:=p.lt;have e8:eD.get hE.size=D (dU 4 0 [e.t]):=(dk.get _ (iH an.tp.lt)).trans V;have fC:=dk.size;simp at fC;have fv:¬Fp eD b hE.size:=λq=>by
  rcases et.fp _ q with q|q;rw[jN (show(hE.cons (dU 4 0 [e.t])).get b=hE.get b by rw[fg,aw (iH an.lt)])]at q;have:=an.fp _ q;omega;simp at q;omega
 have fin:=L7 (i:=⟨m,b,o,r,d,cnt⟩) (args:=[dY b,J d]) (cs:=[J 1,J 0,.str [113],.str [],.arr hE.size 0 0 1 false,J cX.op,J cX.n,.str cX.name,sl (cX.l.map fy.t),dT,dT]) (s:=Ib [113] [e] cX) eO fS (((A.trans X).trans eW).trans et) rfl
  (.cons (iL ..) (.cons (iL ..) (.cons (lI ..) (.cons (lI ..) (.cons (.inr (.inl ⟨hE.size,0,0,1,false,[e.t],[e.t],rfl,⟨G,G,fv,Qi _⟩,by rw[iU,e8];simp,.cons (e.ft _) .nil,rfl⟩)) (.cons (iL ..) (.cons (iL ..) (.cons (lI ..) (.cons (sa _ _ _ λx bH=>by obtain⟨y,_,rfl⟩:=List.mem_map.1 bH;simp) (.cons (kc ..) (.cons (kc ..) .nil)))))))))))
  (HV (iD bn) e9 V) (Q6 (by rw[fy.lq,fy.jX];omega) G)
 simp[eO.get,fin.1];exact fin.2;simp[f];refine fG (λa8=>?_) (λa8=>?_);simp at a8;obtain⟨d,rfl⟩:∃e,d=e+1:=⟨d-1,G⟩;have a7:binop .sub (J ((d:Int)+1)) (J 1)=D (J d):=by
  rw[tv,<-kz,kI G G];simp
 simp[f];refine jl cv V ⟨m,b,o,r,1⟩ ⟨⟨rfl,c,u,V⟩,V⟩ ?_;rintro _ hE ⟨e,rfl,bn,bC,ap,U⟩;simp only at bC ap U;have⟨an,X⟩:=c.tape U ap;simp[f,a7];refine jl c1 V ⟨m,b,o,r,d,1⟩ ⟨⟨rfl,an,u,dQ,dQ,V⟩,dQ⟩ ?_;rintro v al ⟨l,sv,C,M,O,H⟩;simp only at sv C M O H;have aA:=(p.step X).step H;have bs:=(A.trans X).trans H;have R:=sv.gc;have⟨yP,bi,bN,b6,b9⟩:=ny O bs (dU 11 0 [.eQ [J 0,J 0,.str [],.str [],dT,J 0,J 0,.str [],dT,dT,dT]]) (dU 11 1 [.eQ [J 2,J 0,.str [],.str [],dT,J e.op,J e.n,.str e.name,sl (e.l.map fy.t),v,dT]]);have bp:=b6 _ _ aA;have b8:=b9 _ _ _ _ _ sv (az _);have⟨ca,ae,left,set,K,Y,aE,bZ,z,g,S,hl⟩:=yP.ex;simp only[vS]at g;simp[f,R.1,R.2,g];generalize fF (al.cons _) al.size _=dd at*
 refine vK V yP.tp yP.ok G G u λW bS cb t4 aN=>?_;have⟨Z,aX⟩:=yP.tape aN t4;have l4:=bi.step aX;have ee:=bp.step aX;have bW:=bN.trans aX;have gI:=yP.lt;have fE:al.size<dd.size:=bi.lt;have e0:=b8.step aX G;have gE:=aN.size;have gw:B.size<al.size:=aA.lt;have eE:B.size<hE.size:=(p.step X).lt;simp;refine fG (λfl=>?_) (λfl=>?_);simp[f,a7];refine jl c1 V ⟨m,b,o,r,d,1⟩ ⟨⟨rfl,Z,u,dQ,dQ,V⟩,dQ⟩ ?_;rintro gk gy ⟨l2,eu,ec,eI,mkV,stV⟩;simp only at eu ec eI mkV stV;have eB:=eu.gc;have⟨fW,fL,b7,fX,e5⟩:=aao mkV (l4.step stV) (bW.trans stV) G (dU 11 2 [.eQ [J 2,J 0,.str [],.str [],dT,J e.op,J e.n,.str e.name,sl (e.l.map fy.t),v,gk]]);have eP:=fX _ _ G (ee.step stV);have fY:=e5 _ _ _ _ _ (e0.step stV G) (.inr (az _));have gd:=e5 _ _ _ _ _ eu (.inl G);have gM:=stV.ok.sz;have fin:=uK (cnt:=cnt) (args:=[dY b,J (d+1:Nat)]) (op:=2) (nm:=[]) (e:=e) eP fW b7 (fY.cell eE dP) (gd.cell G V) (sa _ _ _ λx bH=>by obtain⟨y,_,rfl⟩:=List.mem_map.1 bH;simp) G (λ_=>bn) G (λs z=>(C s z).1) (λs z=>(ec s z).1) (by
  have cL:=B2 C;have gV:=B2 ec;have:=bD (wd d) M;have:=bD (wd d) eI;omega)
 simp[(l4.step stV).get,fL.get,fD,eB.1,eB.2,eP.get,fin.1];exact fin.2;have fin:=uK (cnt:=cnt) (args:=[dY b,J (d+1:Nat)]) (op:=2) (nm:=[]) (e:=e) (le:=[]) ee Z bW (e0.cell eE G) (kc _ _ _ false) (sa _ _ _ λx bH=>by obtain⟨y,_,rfl⟩:=List.mem_map.1 bH;simp) G (λ_=>bn) G (λs z=>(C s z).1) V (by
  have cL:=B2 C;have:=bD (wd d) M;rw[eY.jX];omega)
 simp[l4.get,ee.get,fD,fin.1];exact fin.2;simp[f];refine OU ⟨m,b,o,r,d,cnt⟩ V c u p A λe hE j fin=>?_;simp[xP,j,λnm=>(fin [] nm).1];exact(fin _ _).2;simp[f];refine fG (λa8=>?_) (λa8=>?_);simp at a8;obtain⟨d,rfl⟩:∃e,d=e+1:=⟨d-1,G⟩;have a7:binop .sub (J ((d:Int)+1)) (J 1)=D (J d):=by
  rw[tv,<-kz,kI G G];simp
 have⟨F,E⟩:=c.set (th':=ae) (left':=left) (se':=set) (tx':=K) (at2:=Y) (lp':=true) c9 S hl;simp only[vS]at F E;simp[f,g,fD];generalize fF P b _=ea at*
 have av:=p.step F;have bs:=A.trans F;simp[f,Zn,Zo,adq,a7];refine jl c1 V ⟨m,b,o,r,d,1⟩ ⟨⟨rfl,E,u,dQ,dQ,V⟩,dQ⟩ ?_;rintro v al ⟨l,sv,C,M,O,H⟩;simp only at sv C M O H;have aA:=av.step H;have bN:=bs.trans H;have eo:=Step.cons O.ok O.lt (dU 11 0 [(Ib [98] [] ⟨6,0,[],[⟨2,0,[98],[]⟩,⟨1,1,[],[]⟩]⟩).t]);have fE:=H.ok.sz;have⟨gj,eC,eA,eX,fM,eU,_⟩:=(sv.step eo (az _)).app (O.cons (dU 11 0 [(Ib [98] [] ⟨6,0,[],[⟨2,0,[98],[]⟩,⟨1,1,[],[]⟩]⟩).t])) (x:= .arr al.size 0 0 1 false) (xs:=[(Ib [98] [] ⟨6,0,[],[⟨2,0,[98],[]⟩,⟨1,1,[],[]⟩]⟩).t]) (l2:=[Ib [98] [] ⟨6,0,[],[⟨2,0,[98],[]⟩,⟨1,1,[],[]⟩]⟩]) dP V d4 (.cons (eY.ft _ _) .nil) V V dP;have bW:=eU _ (bN.trans eo) (iD bs.ok.sz);have l3:=av.step (eU _ (H.trans eo) (az _));have R:=eX.gc;have⟨yP,bi,b7,b6,b9⟩:=ny fM bW (dU 11 0 [.eQ [J 0,J 0,.str [],.str [],dT,J 0,J 0,.str [],dT,dT,dT]]) (dU 11 1 [.eQ [J 3,J 0,.str [],.str [],dT,J 13,J 0,.str [],sl [(fy.mk 2 0 [98] []).t,(fy.mk 1 2 [] []).t],gj,dT]]);have bp:=b6 _ _ l3;have b8:=b9 _ _ _ _ _ eX (az _);simp only[Ib]at eA;simp[f,Zn,Zo,adq,xP,eA,R.1,R.2];generalize fF (eC.cons _) eC.size _=dd at*
 have⟨ca,ae,left,set,K,Y,gP,bZ,z,g,S,hl⟩:=yP.ex;have⟨L,c4⟩:=yP.set (th':=ae) (left':=left) (se':=set) (tx':=K) (at2:=Y) (lp':=aE) g S hl;have fb:=av.lt;have eK:=bi.lt;have eL:=L.ok.sz;have fin:=uK (cnt:=cnt) (args:=[dY b,J (d+1:Nat)]) (op:=3) (nm:=[]) (e:=⟨13,0,[],[⟨2,0,[98],[]⟩,⟨1,2,[],[]⟩]⟩) (le:=[]) (bp.step L) c4 (b7.trans L) ((b8.step L G).cell fb G) (kc _ _ _ false) (sa _ _ _ λx bH=>by obtain⟨y,_,rfl⟩:=List.mem_map.1 bH;simp) G (λ_=> .bin G (.nm _) (.num _)) (by simp[fy.nG,fy.lq,fy.jX]) (λs z=>(List.mem_append.1 z).elim (λq=>(C s q).1) λq=>List.mem_singleton.1 q▸HV V (.bin G (.nm _) (.num _)) (λB=>absurd rfl B)) V (by
  have cL:=B2 C;have:=bD (wd d) M;have:=Q6 (nm:=[98]) (ix:=[]) (e:=⟨6,0,[],[⟨2,0,[98],[]⟩,⟨1,1,[],[]⟩]⟩) (d:=d) (by rw[fy.jX];omega) (by simp[fy.nG,fy.lq,fy.jX]);rw[eY.Nt,eY.lq,eY.jX];omega)
 have gT:=(bi.step L).get;have gR:=(bp.step L).get;simp only[vS]at g gT gR fin;simp[g,gT,gR,fD];simp at fin;simp[fin.1];exact fin.2;simp[f];refine OU ⟨m,b,o,r,d,cnt⟩ V c u p A λe hE j fin=>?_;simp[xP,j,λnm=>(fin [] nm).1];exact(fin _ _).2
 iterate 2
  by_cases I:(decide (0<d)&&decide (0<left)&& !K)=true;simp at I;obtain⟨⟨a8,bu⟩,bA⟩:=I;subst bA;obtain⟨d,rfl⟩:∃e,d=e+1:=⟨d-1,G⟩;have a7:binop .sub (J ((d:Int)+1)) (J 1)=D (J d):=by
   rw[tv,<-kz,kI G G];simp
  have E:=c.cons (dU 1 0 [.str [109],.str [110]]);have bX:=λ{tb:ik} (ht:tb.h 247=D DG) s=>c7 ht [dY b,.str s] (P.cons (dU 1 0 [.str [109],.str [110]])) ⟨m,r,b,o,s,rfl,E,G⟩;have F:=Step.cons c.ok c.lt (dU 1 0 [.str [109],.str [110]]);have av:=p.step F;have de:binop .sub (J 8) (J 8)=D (J 0):=Ey G G G;have di:binop .sub (J 9) (J 8)=D (J 1):=Ey G G G;simp[f,bu,bX,de,di];refine fG (λN=>?_) (λN=>?_);simp[f,de,di];have fP:=E.cons (dU 1 0 [.str [109],.str [110]]);have eV:=Step.cons E.ok E.lt (dU 1 0 [.str [109],.str [110]]);have eN:=av.step eV;simp[a7];refine jl eM V ⟨m,b,o,r,d,_⟩ ⟨⟨rfl,fP,u,dQ,dQ⟩,dQ⟩ ?_;rintro v al ⟨l,sv,C,M,O,H⟩;simp only at sv C M O H;have R:=sv.gc;have aA:=eN.step H;have fin:=λnm=>uK (cnt:=cnt) (args:=[dY b,J (d+1:Nat)]) (op:=4) (nm:=nm) (e:=⟨0,0,[],[]⟩) (le:=[]) aA O (((A.trans F).trans eV).trans H) (sv.cell eN.lt (az _)) (kc _ _ _ false) (kc _ _ _ false) G (λB=>by omega) (by simp[fy.nG,fy.jX]) (λs z=>(C s z).1) V (by
   have cL:=B2 C;have:=bD (wd d) M;rw[eY.jX];omega)
  simp only[fy.A3,fy.L6,fy.sY]at fin;simp[R.1,R.2,aA.get,λnm=>(fin nm).1];exact(fin _).2;simp[f];refine OU ⟨m,b,o,r,d+1,cnt⟩ V E u av (A.trans F) λe hE j fin=>?_;simp[xP,j,λnm=>(fin [] nm).1];exact(fin _ _).2;have I:(decide (0<d)&&decide (0<left)&& !K)=false:=iD I;simp[f,I];refine OU ⟨m,b,o,r,d,cnt⟩ V c u p A λe hE j fin=>?_;simp[xP,j,λnm=>(fin [] nm).1];exact(fin _ _).2
 iterate 2
  by_cases I:(decide (0<d)&&decide (0<left)&& !K)=true;simp at I;obtain⟨⟨a8,bu⟩,bA⟩:=I;subst bA;obtain⟨d,rfl⟩:∃e,d=e+1:=⟨d-1,G⟩;have a7:binop .sub (J ((d:Int)+1)) (J 1)=D (J d):=by
   rw[tv,<-kz,kI G G];simp
  have bX:=λ{tb:ik} (ht:tb.h 247=D DG) s=>c7 ht [dY b,.str s] P ⟨m,r,b,o,s,rfl,c,G⟩;have de:binop .sub (J 10) (J 10)=D (J 0):=Ey G G G;have gg:binop .sub (J 11) (J 10)=D (J 1):=Ey G G G;have gi:binop .add (J 1) (J 5)=D (J 6):=Db G G G;have di:binop .add (J 0) (J 5)=D (J 5):=Db G G G;simp[f,bu,bX];refine fG (λN=>?_) (λN=>?_);simp[f,de,di,gg,gi,a7];refine jl eM V ⟨m,b,o,r,d,_⟩ ⟨⟨rfl,c,u,dQ,dQ⟩,dQ⟩ ?_;rintro v al ⟨l,sv,C,M,O,H⟩;simp only at sv C M O H;have R:=sv.gc;have aA:=p.step H;have fin:=λop (gB:op=5\/op=6) nm=>uK (cnt:=cnt) (args:=[dY b,J (d+1:Nat)]) (op:=op) (nm:=nm) (e:=⟨0,0,[],[]⟩) (le:=[]) aA O (A.trans H) (sv.cell p.lt (az _)) (kc _ _ _ false) (kc _ _ _ false) G (λB=>by omega) (by simp[fy.nG,fy.jX]) (λs z=>(C s z).1) V (by
   have cL:=B2 C;have:=bD (wd d) M;rw[eY.jX];omega)
  simp only[fy.A3,fy.L6,fy.sY]at fin;simp[R.1,R.2,aA.get,λnm=>(fin 5 (.inl rfl) nm).1,λnm=>(fin 6 (.inr rfl) nm).1];exact(fin _ V _).2;simp[f];refine OU ⟨m,b,o,r,d+1,cnt⟩ V c u p A λe hE j fin=>?_;simp[xP,j,λnm=>(fin [] nm).1];exact(fin _ _).2;have I:(decide (0<d)&&decide (0<left)&& !K)=false:=iD I;simp[f,I];refine OU ⟨m,b,o,r,d,cnt⟩ V c u p A λe hE j fin=>?_;simp[xP,j,λnm=>(fin [] nm).1];exact(fin _ _).2
 simp;refine fG (λN=>?_) (λN=>?_);simp at N;obtain⟨⟨a8,bu⟩,bA⟩:=N;obtain⟨d,rfl⟩:∃e,d=e+1:=⟨d-1,G⟩;have a7:binop .sub (J ((d:Int)+1)) (J 1)=D (J d):=by
  rw[tv,<-kz,kI G G];simp
 have⟨F,E⟩:=c.set (th':=ae) (left':=left) (se':=set) (tx':=true) (at2:=Y) (lp':=aE) c9 S hl;simp only[vS]at F E;simp[f,g,fD];generalize fF P b _=ea at*
 have av:=p.step F;have bs:=A.trans F;have⟨ca,ae,left,set,K,Y,aE,bZ,z,g,S,hl⟩:=E.ex;simp only[vS]at g;simp[g];refine vK V E.tp E.ok G G u λW bS cb t4 aN=>?_;have⟨Z,aX⟩:=E.tape aN t4;have l4:=av.step aX;have dn:binop .add (J 1) (J W)=D (J ((1+W:Nat):Int)):=Db V G G;simp[dn];refine jl c1 V ⟨m,b,o,r,0,1+W⟩ ⟨⟨V,Z,u,V,dQ,dQ⟩,dQ⟩ ?_;rintro v al ⟨l,sv,C,M,O,H⟩;simp only at sv C M O H;replace M:l.length<=2:=G;replace sv:=sv.deep (show 2*0+2<=2*d+2 by omega);replace C:∀s∈l,MS s/\s.w<=wd d:=λs z=>⟨(C s z).1,aU (C s z).2 (aew d)⟩;have aA:=l4.step H;have bW:=(bs.trans aX).trans H;have R:=sv.gc;have⟨yP,bi,b7,b6,b9⟩:=ny O bW (dU 11 0 [.eQ [J 0,J 0,.str [],.str [],dT,J 0,J 0,.str [],dT,dT,dT]]) (dU 11 1 [.eQ [J 7,J 0,.str [],.str [],dT,J 0,J 0,.str [],dT,v,dT]]);have bp:=b6 _ _ aA;have b8:=b9 _ _ _ _ _ sv (az _);simp[f,R.1,R.2];generalize fF (al.cons _) al.size _=dd at*
 have⟨ca,ae,left,set,K,Y,aE,bZ,z,g,S,hl⟩:=yP.ex;have⟨L,c4⟩:=yP.set (th':=ae) (left':=left) (se':=set) (tx':=false) (at2:=Y) (lp':=aE) g S hl;have eK:=bi.lt;have eL:=L.ok.sz;have fin:=uK (cnt:=cnt) (args:=[dY b,J (d+1:Nat)]) (op:=7) (nm:=[]) (e:=⟨0,0,[],[]⟩) (le:=[]) (bp.step L) c4 (b7.trans L) ((b8.step L G).cell l4.lt G) (kc _ _ _ false) (kc _ _ _ false) G (λB=>by omega) (by simp[fy.nG,fy.jX]) (λs z=>(C s z).1) V (by
  have cL:=B2 C;have:=bD (wd d) M;rw[eY.jX];omega)
 have gT:=(bi.step L).get;have gR:=(bp.step L).get;simp only[vS,fy.A3,fy.L6,fy.sY]at g gT gR fin;simp[g,gT,gR,fD,fin.1];exact fin.2;simp[f];refine OU ⟨m,b,o,r,d,cnt⟩ V c u p A λe hE j fin=>?_;simp[xP,j,λnm=>(fin [] nm).1];exact(fin _ _).2;simp[f,g];refine fG (λN=>?_) (λN=>?_);simp at N;obtain⟨⟨⟨a8,bu⟩,bA⟩,eF⟩:=N;obtain⟨d,rfl⟩:∃e,d=e+1:=⟨d-1,G⟩;have a7:binop .sub (J ((d:Int)+1)) (J 1)=D (J d):=by
  rw[tv,<-kz,kI G G];simp
 have⟨F,E⟩:=c.set (th':=ae) (left':=left) (se':=set) (tx':=K) (at2:=true) (lp':=aE) c9 S hl;simp only[vS]at F E;simp[f,g,fD,a7];generalize fF P b _=ea at*
 have av:=p.step F;have bs:=A.trans F;refine jl c1 V ⟨m,b,o,r,d,2⟩ ⟨⟨rfl,E,u,dQ,dQ,V⟩,dQ⟩ ?_;rintro v al ⟨l,sv,C,M,O,H⟩;simp only at sv C M O H;have aA:=av.step H;have bW:=bs.trans H;have R:=sv.gc;have⟨yP,bi,b7,b6,b9⟩:=ny O bW (dU 11 0 [.eQ [J 0,J 0,.str [],.str [],dT,J 0,J 0,.str [],dT,dT,dT]]) (dU 11 1 [.eQ [J 8,J 0,.str [],.str [],dT,J 0,J 0,.str [],dT,v,dT]]);have bp:=b6 _ _ aA;have b8:=b9 _ _ _ _ _ sv (az _);simp[f,R.1,R.2];generalize fF (al.cons _) al.size _=dd at*
 have⟨ca,ae,left,set,K,Y,aE,bZ,z,g,S,hl⟩:=yP.ex;have⟨L,c4⟩:=yP.set (th':=ae) (left':=left) (se':=set) (tx':=K) (at2:=false) (lp':=aE) g S hl;have eK:=bi.lt;have eL:=L.ok.sz;have fin:=uK (cnt:=cnt) (args:=[dY b,J (d+1:Nat)]) (op:=8) (nm:=[]) (e:=⟨0,0,[],[]⟩) (le:=[]) (bp.step L) c4 (b7.trans L) ((b8.step L G).cell av.lt G) (kc _ _ _ false) (kc _ _ _ false) G (λB=>by omega) (by simp[fy.nG,fy.jX]) (λs z=>(C s z).1) V (by
  have cL:=B2 C;have:=bD (wd d) M;rw[eY.jX];omega)
 have gT:=(bi.step L).get;have gR:=(bp.step L).get;simp only[vS,fy.A3,fy.L6,fy.sY]at g gT gR fin;simp[g,gT,gR,fD,fin.1];exact fin.2;simp[f];refine OU ⟨m,b,o,r,d,cnt⟩ V c u p A λe hE j fin=>?_;simp[xP,j,λnm=>(fin [] nm).1];exact(fin _ _).2;by_cases I:(decide (0<d)&&decide (0<left)&& !K&& !Y)=true;simp at I;obtain⟨⟨⟨a8,bu⟩,bA⟩,eF⟩:=I;subst bA;subst eF;obtain⟨d,rfl⟩:∃e,d=e+1:=⟨d-1,G⟩;have bX:=λ{tb:ik} (ht:tb.h 247=D DG) s=>c7 ht [dY b,.str s] P ⟨m,r,b,o,s,rfl,c,G⟩;simp[f,g,bu,bX];refine fG (λN=>?_) (λN=>?_);simp[Zo,xP];have eb:(B.size=P.size)=False:=qN p.lt;have sv:=SV.lit (d:=2*d+2) (l:=[Fc 9,Ib [97] [] ⟨2,0,[120],[]⟩]) (es:=[.eQ [J 9,J 0,.str [99],.str [],dT,J 0,J 0,.str [],dT,dT,dT],(Ib [97] [] ⟨2,0,[120],[]⟩).t]) c (λ_ _=> .cons (Wa _ _) (.cons (eY.ft _ _) .nil));have c6:=Step.cons c.ok c.lt (dU 11 0 [.eQ [J 9,J 0,.str [99],.str [],dT,J 0,J 0,.str [],dT,dT,dT],(Ib [97] [] ⟨2,0,[120],[]⟩).t]);have ef:=p.step c6;have fin:=uK (cnt:=cnt) (args:=[dY b,J (d+1:Nat)]) (op:=4) (nm:=[109]) (e:=⟨0,0,[],[]⟩) (le:=[]) ef (c.cons _) (A.trans c6) (sv.cell p.lt V) (kc _ _ _ false) (kc _ _ _ false) G (λB=>by omega) (by simp[fy.nG,fy.jX]) (λs z=>by
  rcases List.mem_cons.1 z with rfl|z;exact V9 G;rw[List.mem_singleton.1 z];exact HV V (.nm _) (λB=>absurd rfl B)) V (by
  have:=FR d;simp[eY.lq,eY.jX,aaY,Ib,eY.nG (eY.mk 1 0 [97] [] [] (fy.mk 2 0 [120] []) [] []),fy.nG,fy.jX];omega)
 simp only[fy.A3,fy.L6,fy.sY,Ib]at fin;simp at fin;simp[eb,p.get,fin.1];exact fin.2;simp[f];refine OU ⟨m,b,o,r,d+1,cnt⟩ V c u p A λe hE j fin=>?_;simp[xP,j,λnm=>(fin [] nm).1];exact(fin _ _).2;have I:(decide (0<d)&&decide (0<left)&& !K&& !Y)=false:=iD I;simp[f,g,I];refine OU ⟨m,b,o,r,d,cnt⟩ V c u p A λe hE j fin=>?_;simp[xP,j,λnm=>(fin [] nm).1];exact(fin _ _).2
 .by_cases I:(decide (0<d)&&decide (0<left)&& !K)=true
  .simp at I;obtain⟨⟨a8,bu⟩,bA⟩:=I;subst bA
   skip
   obtain⟨d,rfl⟩:∃e,d=e+1:=⟨d-1,G⟩;have bX:=λ{tb:ik} (ht:tb.h 247=D DG) s=>c7 ht [dY b,.str s] P ⟨m,r,b,o,s,rfl,c,G⟩;simp[f,bu,bX];refine fG (λN=>?_) (λN=>?_);simp[f,g];refine vK V c.tp c.ok G G u λW bS cb t4 aN=>?_;have⟨Z,aX⟩:=c.tape aN t4;have l4:=p.step aX;have dn:binop .add (J 10) (J W)=D (J (10+W)):=Db V G G;simp[dn];have eb:(B.size=bS.size)=False:=qN l4.lt;have sv:=SV.lit (d:=2*d+2) (l:=[Fc (10+W)]) (es:=[.eQ [J (10+W),J 0,.str [99],.str [],dT,J 0,J 0,.str [],dT,dT,dT]]) Z (λ_ _=> .cons (Wa _ _) .nil);have c6:=Step.cons Z.ok Z.lt (dU 11 0 [.eQ [J (10+W),J 0,.str [99],.str [],dT,J 0,J 0,.str [],dT,dT,dT]]);have ef:=l4.step c6;have fin:=uK (cnt:=cnt) (args:=[dY b,J (d+1:Nat)]) (op:=4) (nm:=[109]) (e:=⟨0,0,[],[]⟩) (le:=[]) ef (Z.cons _) ((A.trans aX).trans c6) (sv.cell l4.lt V) (kc _ _ _ false) (kc _ _ _ false) G (λB=>by omega) (by simp[fy.nG,fy.jX]) (λs z=>List.mem_singleton.1 z▸V9 G) V (by
    have:=FR d;simp[eY.lq,eY.jX,aaY];omega)
   simp only[fy.A3,fy.L6,fy.sY]at fin;simp at fin;simp[eb,l4.get,fin.1];exact fin.2;simp[f];refine OU ⟨m,b,o,r,d+1,cnt⟩ V c u p A λe hE j fin=>?_;simp[xP,j,λnm=>(fin [] nm).1];exact(fin _ _).2
  have I:(decide (0<d)&&decide (0<left)&& !K)=false:=iD I;simp[f,I];refine OU ⟨m,b,o,r,d,cnt⟩ V c u p A λe hE j fin=>?_;simp[xP,j,λnm=>(fin [] nm).1];exact(fin _ _).2
 simp[f,g];refine fG (λN=>?_) (λN=>?_);have⟨F,E⟩:=c.set (th':=ae) (left':=left) (se':=true) (tx':=K) (at2:=Y) (lp':=aE) c9 S hl;simp only[vS]at F E;simp[f,g,fD];generalize fF P b _=ea at*
 have av:=p.step F;have bs:=A.trans F;refine jl cv V ⟨m,b,o,r,1⟩ ⟨⟨rfl,E,u,V⟩,V⟩ ?_;rintro _ hE ⟨e,rfl,bn,bC,ap,U⟩;simp only at bC ap U;have⟨an,X⟩:=E.tape U ap;have j:=av.step X;have fin:=L7 (i:=⟨m,b,o,r,d,cnt⟩) (args:=[dY b,J d]) (cs:=[J 14,J 0,.str [102],.str [],dT,J e.op,J e.n,.str e.name,sl (e.l.map fy.t),dT,dT]) (s:=⟨14,0,[102],[],[],e,[],[]⟩) j an (bs.trans X) rfl
  (.cons (iL ..) (.cons (iL ..) (.cons (lI ..) (.cons (lI ..) (.cons (kc ..) (.cons (iL ..) (.cons (iL ..) (.cons (lI ..) (.cons (sa _ _ _ λx bH=>by obtain⟨y,_,rfl⟩:=List.mem_map.1 bH;simp) (.cons (kc ..) (.cons (kc ..) .nil)))))))))))
  (.mk V V V (λ_=>bn) V V) (by
    have:=FR d;rw[eY.nG];simp only[eY.vC,eY.O0,eY.yw,eY.BN,eY.jX,fy.jX];omega)
 simp[j.get,fin.1];exact fin.2;simp[f];refine OU ⟨m,b,o,r,d,cnt⟩ V c u p A λe hE j fin=>?_;simp[xP,j,λnm=>(fin [] nm).1];exact(fin _ _).2;cases K;simp[f,g];refine vK V c.tp c.ok G G u λW bS cb t4 aN=>?_;have⟨Z,aX⟩:=c.tape aN t4;have l4:=p.step aX;have bN:=A.trans aX;simp;refine fG (λN=>?_) (λN=>?_);have fin:=L7 (i:=⟨m,b,o,r,d,cnt⟩) (args:=[dY b,J d]) (cs:=[J 15,J 0,.str [97],.str [102],dT,J 0,J 0,.str [],dT,dT,dT]) (s:=⟨15,0,[97],[102],[],⟨0,0,[],[]⟩,[],[]⟩) l4 Z bN rfl
  (.cons (iL ..) (.cons (iL ..) (.cons (lI ..) (.cons (lI ..) (.cons (kc ..) (.cons (iL ..) (.cons (iL ..) (.cons (lI ..) (.cons (kc ..) (.cons (kc ..) (.cons (kc ..) .nil)))))))))))
  (.mk V V V V V V) (by
    have:=FR d;rw[eY.nG,fy.nG];simp only[eY.vC,eY.O0,eY.yw,eY.BN,eY.jX,fy.jX,fy.Kb];omega)
 simp[l4.get,fin.1];exact fin.2;simp[f];refine OU ⟨m,b,o,r,d,cnt⟩ V Z u l4 bN λe hE j fin=>?_;simp[xP,j,λnm=>(fin [] nm).1];exact(fin _ _).2;simp[f,g];refine OU ⟨m,b,o,r,d,cnt⟩ V c u p A λe hE j fin=>?_;simp[xP,j,λnm=>(fin [] nm).1];exact(fin _ _).2
def ajM(a:Nat):(rMs a).Ok prog cx 157:=
 yE (λc:XC=>c.d) (λa b=>ags (a+1) (agr a b (ahw a b))) a
