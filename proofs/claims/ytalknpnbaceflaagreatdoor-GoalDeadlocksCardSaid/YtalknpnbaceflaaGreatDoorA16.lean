/- W01 -/
import Derived.Test.YtalknpnbaceflaaGreatDoorA15
import Derived.Test.YtalknpnbaceflaaGreatDoorA11
set_option linter.all false
set_option maxRecDepth 100000
set_option maxHeartbeats 0
namespace Go.Proofs.YtalknpnbaceflaaGreatDoor
noncomputable section
open Go Go.TI Tryz
attribute [-simp] List.map_take List.map_drop List.map_append ij gG fK Bool.not_or Bool.not_and
attribute [simp] ig gJ
def okB(a:List Int):Prop:=a.length<=140737488351232/\∀x∈a,0<=x/\x<256
def Tp(b:List Int)(c:Nat)(d:H):Prop:=∃e a,d.get c=some (X 2 e [.eZ [sl (b.map (T.int .u8)),C a]])/\0<=a
structure Cv where
 (L:List Int) (b:Nat) (n:Int)
def xp(a:Cv)(d:List T)(c:H):Prop:=d=[.fc a.b 0 0 0,C a.n]/\Tp a.L a.b c/\iQ 0 c/\1<=a.n/\a.n<=100/\okB a.L
def uJ(a:Cv)(g:List T)(e:H)(f:T)(d:H):Prop:=∃c,f= C c/\0<=c/\c<a.n/\Tp a.L a.b d/\Sm a.b e d
def _root_.Go.TI.Sm.out{b:Nat}{h c:H}(a:Sm b (TI.hr h) c):Sm b h (mX h c):=⟨a.ok.out h,a.size,λd e=>by rw[iB,a.get d e,iU]⟩
def D1{k:ao}{a b:Int}(d:¬b=0):binop .rem (.int k a) (.int k b)=some (.int k (a.tmod b)):=by
 have c:VW b 0=false:=by rw[AZ];simp[d]
 unfold binop;simp[Aa,c]
def TL:(km Cv xp uJ).Ok prog cx 79:=by
 refine kh (tb:=⟨pt [],ht []⟩) jv jl (jF 262163 [] func79) (λ_ _=>5) (λH a h z=>by obtain⟨rfl,_⟩:=z;simp[f79]) ?_;rintro⟨c,f,k⟩ _ h ⟨rfl,⟨g,b,e,q⟩,r,w,y,s,n⟩ I o;simp only at e q w y s n;simp at o;obtain⟨i,m⟩:=o;simp[f79,i,m,e];refine fN (λj=>?_) (λj=>?_)
 ·simp[j];exact⟨0,rfl,Int.le_refl _,dS,⟨g,b,by rw[iB,iU];exact e,q⟩,Sm.out (Sm.refl r.hr)⟩
 ·simp at j;have D:IntKind.i64.wrap (b+1)=b+1:=by rw[<-kv];exact kG B B
  have E:IntKind.i64.wrap b=b:=by rw[<-kv];exact kG B B
  have A:Sm f (hr h) _:=(Sm.refl r.hr).put (x:=(X 2 g [.eZ [sl (c.map (T.int .u8)),C b]])) (by rw[iU];exact e) (X 2 (g+1) [.eZ [sl (c.map (T.int .u8)),C (b+1)]]);have l:(fJ (hr h) f (X 2 (g+1) [.eZ [sl (c.map (T.int .u8)),C (b+1)]])).get f=_:=(eG (h:=hr h) (by rw[iU];exact e) _ f).trans (au rfl);simp[i,e,qm,fG,D];generalize fJ (hr h) f _=F at*
  obtain⟨d,rfl⟩:∃d:Nat,b=d:=⟨b.toNat,B⟩;have p:d<c.length:=B;have t:=n c[d] (aG p);have u: -9223372036854775808<=c[d]:=B;have v:c[d]<9223372036854775808:=B;have t0:=Int.tmod_nonneg k t.1;have t1:=Int.tmod_lt_of_pos c[d] (show 0<k by omega);simp[i,m,l,uf,E,p,u,v,D1 (a:=c[d]) (show¬k=0 by omega)];exact⟨_,rfl,t0,t1,⟨_,_,by rw[iB];exact l,B⟩,Sm.out A⟩
def MN:iK:=⟨Int,λa=>[C a],λ_=>True,λa=>(fF.mk 1 a [] []).t,λa c b=>by simp at b;rw[b]⟩
def aex:MN.Ok prog cx 134:=by
 refine iF [] (jF 5 [] func134) (λ_=>5) (by simp[MN]) ?_;rintro a _ c b;simp[MN]at a b|-;simp[f134,b];simpa using fF.fold 1 a [] []
def XZ{b:io}(ht:b.p 134=some MN)(a:Int):rl prog cx b 134 [C a]=some (fF.mk 1 a [] []).t:=iN ht aex a trivial
def Qy:iK:=⟨List Nat,λa=>[.str a],λ_=>True,λa=>(fF.mk 2 0 a []).t,λa c b=>by simp at b;rw[b]⟩
def aey:Qy.Ok prog cx 215:=by
 refine iF [] (jF 5 [] func215) (λ_=>5) (by simp[Qy]) ?_;rintro a _ c b;simp[Qy]at a b|-;simp[f215,b];simpa using fF.fold 2 0 a []
def X0{b:io}(ht:b.p 215=some Qy)(a:List Nat):rl prog cx b 215 [.str a]=some (fF.mk 2 0 a []).t:=iN ht aey a trivial
def QA:iK:=⟨Int×fF×fF,λa=>[C a.1,a.2.1.t,a.2.2.t],λ_=>True,λa=>(fF.mk a.1 0 [] [a.2.1,a.2.2]).t,λa c b=>by
 simp at b;rw[b.1,fF.inj b.2.1,fF.inj b.2.2]⟩
def aeA:QA.Ok prog cx 214:=by
 refine iF [] (jF 119 [] func214) (λ_=>5) (by simp[QA]) ?_;rintro⟨d,b,c⟩ _ e a;simp[QA]at a|-;simp[f214,a,iR];simpa using fF.fold d 0 [] [b,c]
def abK{d:io}(ht:d.p 214=some QA)(c:Int)(a b:fF):rl prog cx d 214 [C c,a.t,b.t]=some (fF.mk c 0 [] [a,b]).t:=iN ht aeA (c,a,b) trivial
def QB:iK:=⟨List Nat×fF,λa=>[.str a.1,a.2.t],λ_=>True,λa=>(eQ.mk 1 0 a.1 [] [] a.2 [] []).t,λa c b=>by
 simp at b;rw[b.1,fF.inj b.2]⟩
def aeB:QB.Ok prog cx 133:=by
 refine iF [] (jF 27 [] func133) (λ_=>5) (by simp[QB]) ?_;rintro⟨b,c⟩ _ d a;simp[QB]at a|-;simp[f133,a];rw[eQ.pJ];rfl
def yf:List jo:=[⟨1,0,[120],0,0,[]⟩,⟨1,0,[121],0,1,[]⟩,⟨2,0,[118],0,0,[]⟩,⟨1,0,[113],2,0,[]⟩,⟨3,0,[109],0,0,[]⟩,⟨3,0,[110],0,0,[]⟩,⟨4,0,[114],0,0,[]⟩,⟨5,0,[99],0,0,[109]⟩,⟨6,0,[102],0,0,[]⟩]
def Fd:iK:=⟨Unit,λ_=>[],λ_=>True,λ_=>sl (yf.map jo.t),λ_ _ _=>rfl⟩
def WT:Fd.Ok prog cx 131:=by
 refine iF [] (jF 1 [] func131) (λ_=>5) (by simp[Fd]) ?_;rintro _ _ b a;simp[Fd]at a|-;simp[f131,iR,yf]
def Vc{a:io}(ht:a.p 131=some Fd):rl prog cx a 131 []=some (sl (yf.map jo.t)):=iN ht WT () trivial
def w7{c:io}(ht:c.p 133=some QB)(a:List Nat)(b:fF):rl prog cx c 133 [.str a,b.t]=some (eQ.mk 1 0 a [] [] b [] []).t:=iN ht aeB (a,b) trivial
def u9(b:Nat)(e left:Int)(set f a d:Bool)(c:T):List T:=[.fc b 0 0 0,C e,C left,.ez set,.ez f,.ez a,.ez d,c]
structure Mk(L:List Int)(n:Nat)(h:H)(m b:Nat):Prop where
 ok:iQ 0 h
 fp:∀c,Fp h m c->c<h.size
 tp:Tp L b h
 ex:∃ver th left set tx at' lp hv,∃hs:List (List Nat),h.get m=some (X 8 ver [.eZ (u9 b th left set tx at' lp hv)])/\Gr h hv 1 (hs.map T.str)/\hs.length=n
def Mk.ne{e:List Int}{h:Nat}{g:H}{d b:Nat}(c:Mk e h g d b):d≠b:=λi=>by
 have⟨k,j,f,_⟩:=c.tp;have⟨_,_,_,_,_,_,_,_,_,a,_⟩:=c.ex;rw[i,f]at a;simp at a
def Mk.lt{c:List Int}{f:Nat}{b:H}{a d:Nat}(e:Mk c f b a d):a<b.size:=e.fp a (.inl rfl)
def Mk.fpb{d:List Int}{g:Nat}{b:H}{c a:Nat}(f:Mk d g b c a):Fp b c a:=by
 have⟨_,_,_,_,_,_,_,_,_,e,_⟩:=f.ex;exact .inr ⟨_,e,_,by simp[iq,T.cells,u9];exact .inl rfl,rfl⟩
def Mk.tape{i:List Int}{m:Nat}{h e:H}{d g:Nat}(f:Mk i m h d g)(a:Sm g h e)(v:Tp i g e):Mk i m e d g/\Step d h e:=by
 have j:e.get d=h.get d:=a.get d f.ne;have⟨z,E,p,_⟩:=f.tp;have⟨y,w,left,set,x,o,u,t,s,q,l,hl⟩:=f.ex;refine⟨⟨a.ok,λc b=>by rw[jJ j]at b;rw[a.size];exact f.fp c b,v,y,w,left,set,x,o,u,t,s,by rw[j];exact q,l.mono λc b=>a.get c λk=>?_,hl⟩,⟨a.ok.hp,a.ok.low,by rw[a.size];exact ax _⟩,λc _ r=>a.get c λk=>r (by rw[k];exact f.fpb),λc b=>by rw[jJ j]at b;exact .inl b⟩;have⟨A,z,D,F,n,_⟩:=l.box b;rw[k,p]at n;simp at n
structure Tw(L:List Int)(b:Nat)(h h':H):Prop where
 ok:iQ 0 h'
 size:h.size<=h'.size
 get:∀c,c<h.size->c≠b->h'.get c=h.get c
 tp:Tp L b h'
def Tw.refl{b:List Int}{c:Nat}{a:H}(d:iQ 0 a)(e:Tp b c a):Tw b c a a:=⟨d,ax _,λ_ _ _=>rfl,e⟩
def Tp.lt{c:List Int}{a:Nat}{b:H}(e:Tp c a b):a<b.size:=by
 obtain⟨_,_,d,_⟩:=e;exact H.gh d
def Tp.eq{b:List Int}{a:Nat}{c d:H}(i:Tp b a c)(f:d.get a=c.get a):Tp b a d:=by
 obtain⟨j,g,e,h⟩:=i;exact⟨j,g,by rw[f];exact e,h⟩
theorem Tw.cons{a:List Int}{b:Nat}{c d:H}(w:Tw a b c d)(e:jK):Tw a b c (d.cons e):=
 ⟨w.ok.cons e,by have:=w.size;simp;omega,λf g h=>by rw[fk,Z (by have:=w.size;omega)];exact w.get f g h,w.tp.eq (by rw[fk,Z (by have:=w.tp.lt;omega)])⟩
theorem Tw.put{f:List Int}{d:Nat}{a e:H}(b:Tw f d a e){c:Nat}{x:jK}(g:e.get c=some x)(m:a.size<=c)(l:d<a.size)(h:jK):Tw f d a (fJ e c h):=
 ⟨b.ok.put c h,by rw[iy];exact b.size,λi j k=>by rw[eG g,Z B];exact b.get i j k,b.tp.eq (by rw[eG g,Z B])⟩
def Tw.call{b:List Int}{a:Nat}{f g c:H}(i:Tw b a f g)(d:Sm a g c)(k:Tp b a c):Tw b a f c:=
 ⟨d.ok,by rw[d.size];exact i.size,λe j h=>(d.get e h).trans (i.get e j h),k⟩
def Tw.cut{j:List Int}{e:Nat}{a d:H}(b:Tw j e (TI.hr a) d)(A:iQ 0 a)(v:e<a.size){p q:T}{o:T->H->Prop}(x:∃i,jX d a.size p=some i/\cn i=q)
 (z:Sm e a (xH a d)->Tp j e (xH a d)->o q (xH a d)):Bc a p d o:=by
 obtain⟨i,u,rfl⟩:=x;have h:a.size<=d.size:=b.size;refine⟨b.ok.hp,h,λc D w l=>?_,i,u,z ⟨A.cut b.ok.hp h,rfl,λc y=>?_⟩ (b.tp.eq (Ci b.ok.hp h v))⟩
 ·by_cases f:c=e
  ·have⟨r,F,t,_⟩:=b.tp;rw[f,t]at l;cases l;refine .inr λr k=>(FR r ?_).mono (ay _);simp[iq,T.cells]at k;rcases k with rfl|rfl<;>simp
  ·exact .inl ((b.get c w f).trans (iU a c))
 ·by_cases f:c<a.size
  ·rw[Ci b.ok.hp h f,b.get c f y,iU]
  ·have m:∀g:H,g.size=a.size->g.get c=none:=λg E=>by
    cases s:g.get c with
    |none=>rfl
    |some D=>have:=H.gh s;omega
   rw[m (xH a d) rfl,m a rfl]
def Mk.tw{h:List Int}{m:Nat}{a f:H}{b i:Nat}(c:Mk h m a b i)(d:Tw h i (TI.hr a) f):Mk h m f b i:=by
 have l:f.get b=a.get b:=(d.get b c.lt c.ne).trans (iU a b);have⟨x,D,o,_⟩:=c.tp;have⟨w,u,left,set,v,n,s,r,q,p,k,hl⟩:=c.ex;have A:a.size<=f.size:=d.size;refine⟨d.ok,λe g=>by rw[jJ l]at g;have:=c.fp e g;omega,d.tp,w,u,left,set,v,n,s,r,q,by rw[l];exact p,k.mono λe g=>?_,hl⟩;have⟨y,x,z,E,j,_⟩:=k.box g;exact(d.get e (H.gh j) λt=>by rw[t,o]at j;simp at j).trans (iU a e)
def uW{g:io}{l:Nat}{e:List Int}{b:Nat}{d:Int}{f:H}{m:ah Oper}{j:aa Tmp}{k:List Oper}{o n:iM}{i:jE}(ht:g.h 79=some (km Cv xp uJ))(y:Tp e b f)(u:iQ 0 f)(q:1<=d)(r:d<=100)(s:okB e)
 (p:∀(a:Nat) c,(a:Int)<d->Tp e b c->Sm b f c->XK (some (C a,c)) cx (tz prog cx g) l m j k o n i):XK (hl prog cx g 79 [.fc b 0 0 0,C d] f) cx (tz prog cx g) l m j k o n i:=
 jB TL ht ⟨e,b,d⟩ ⟨rfl,y,u,q,r,s⟩ (by
  rintro _ c ⟨a,rfl,z,v,w,x⟩;obtain⟨a,rfl⟩:∃t:Nat,a=t:=⟨a.toNat,B⟩;exact p a c v w x)
def N3{i:io}{p:Nat}{f:List Int}{c:Nat}{e:Int}{b:H}{r:ah Oper}{k:List (Nat×Nat)}{l:aa Tmp}{q:Op}{n:List Oper}{g:Nat}{o:List (Nat×Nat)}{m:List (Nat×H×H)}{t s:iM}{j:jE}(ht:i.h 79=some (km Cv xp uJ))(E:Tp f c b)(y:iQ 0 b)(v:1<=e)(w:e<=100)(x:okB f)
 (u:∀(a:Nat) d,(a:Int)<e->Tp f c d->Sm c b d->VN (some (C a,d)) cx (tz prog cx i) p r k l q n g o m t s b j):VN (hl prog cx i 79 [.fc c 0 0 0,C e] b) cx (tz prog cx i) p r k l q n g o m t s b j:=
 mf TL ht ⟨f,c,e⟩ ⟨rfl,E,y,v,w,x⟩ (by
  rintro _ d ⟨a,rfl,F,z,A,D⟩;obtain⟨a,rfl⟩:∃g:Nat,a=g:=⟨a.toNat,B⟩;exact u a d z A D)
def fF.ft{b:H}{Vq:Nat->Prop}(a:fF)(d:Nat):FT b Vq (d+2) a.t a.t:= .inr (.inr ⟨_,_,a.pJ,.cons (iO ..) (.cons (iO ..) (.cons (lz ..) (.cons (rn _ _ _ λe c=>by obtain⟨f,_,rfl⟩:=List.mem_map.1 c;simp) .nil))),a.pJ⟩)
structure Ym where
 (L:List Int) (m b n d:Nat)
def aaj(a:Ym)(c:List T)(e:H):Prop:=c=[.fc a.m 0 0 0,C a.d]/\Mk a.L a.n e a.m a.b/\okB a.L/\a.d<=10
def OO(a:Ym)(h:List T)(f:H)(g:T)(e:H):Prop:=∃c:fF,g=c.t/\ME c/\c.w<=3^a.d/\Tp a.L a.b e/\Sm a.b f e
def Js{f:List Int}{m e n d:Nat}{b c:H}{z:jK}{a k:Int}{s:List Nat}{v:T}{l:List fF}{args:List T}(q:iQ 0 b)(h:e<b.size)(y:Tw f e (TI.hr b) c)(g:c.get b.size=some z)
 (o:FT (fJ c b.size (X 4 1 [.eZ [C a,C k,.str s,v]])) (λi=>b.size<=i) 11 v (sl (l.map fF.t))) (j:ME ⟨a,k,s,l⟩) (p:(fF.mk a k s l).w<=3^d):
 (fJ c b.size (X 4 1 [.eZ [C a,C k,.str s,v]])).get b.size=some (X 4 1 [.eZ [C a,C k,.str s,v]])/\
 Bc b (.eZ [C a,C k,.str s,v]) (fJ c b.size (X 4 1 [.eZ [C a,C k,.str s,v]])) (OO ⟨f,m,e,n,d⟩ args b):=
 ⟨(eG g _ _).trans (au rfl),(y.put g (ax _) h _).cut q h (FT.top (ax 11) (λ_ r=>r) (.cons (iO ..) (.cons (iO ..) (.cons (lz ..) (.cons o .nil))))) λu x=>⟨⟨a,k,s,l⟩,(fF.pJ ⟨a,k,s,l⟩).symm,j,p,x,u⟩⟩
abbrev Qz(e:Nat):mN:=km Ym (λa b c=>aaj a b c/\a.d<e) OO
def UC(k:Nat)(S:(Qz k).Ok prog cx 213):(Qz (k+1)).Ok prog cx 213:=by
 refine ue (tb:=⟨pt [(134,MN),(215,Qy),(214,QA)],ht [(79,km Cv xp uJ),(213,Qz k)]⟩) jv jl (jF 35186519589107 [(10,[(8,13),(9,13),(8,17),(9,17)])] func213) (λ_ _=>5) (λi a e bu=>by obtain⟨⟨rfl,_⟩,_⟩:=bu;simp[f213]) ?_;rintro⟨K,m,A,n,d⟩ _ e ⟨⟨rfl,b,r,bg⟩,bi⟩ c4 al;simp only at b r bg bi;simp at al;obtain⟨w,N⟩:=al;have⟨c1,cF,left,set,cL,bW,cp,ca,b9,L,bX,hl⟩:=b.ex;simp only[u9]at L;have bs:=b.lt;have bn:(m=e.size)=False:=dR;have bp:(m=e.size+1)=False:=dR;simp[f213,w,L,bn,bp];have J:=((Tw.refl b.ok.hr (b.tp.eq (iU e A))).cons (X 4 0 [.eZ [C 0,C 0,.str [],dV]])).cons (X 1 0 [.str [97],.str [98],.str [120],.str [121],.str [118],.str [120],.str [121]]);refine uW G J.tp J.ok B B r λcd p b7 t2 F=>?_;have E:=b.tp.lt;have f:=J.call F t2;have gR:p.get e.size=some (X 4 0 [.eZ [C 0,C 0,.str [],dV]]):=(F.get _ B).trans G;have gN:p.get (e.size+1)=some (X 1 0 [.str [97],.str [98],.str [120],.str [121],.str [118],.str [120],.str [121]]):=(F.get _ B).trans G;have M:=((f.get m bs b.ne).trans (iU e m)).trans L;clear F J;simp[N];refine fN (λQ=>?_) (λQ=>?_)
 ·simp[w,M];refine uW G f.tp f.ok B B r λg q _ t3 h=>?_;have j:=f.call h t3;have gR:=(h.get _ B).trans gR;have fin:=Js (m:=m) (n:=n) (d:=d) (v:=sl []) (l:=[]) (args:=[.fc m 0 0 0,C d]) b.ok E j gR (rn _ _ _ G) (.num g) (by rw[fF.nd];simp only[fF.I8,fF.jS];exact Nat.pow_pos B);simp[XZ,gR,fin.1];exact fin.2
 simp;refine fN (λO=>?_) (λO=>?_)
 ·simp[w,M];refine uW G f.tp f.ok B B r λg q an t3 h=>?_;have j:=f.call h t3;have gR:=(h.get _ B).trans gR;have gN:=(h.get _ B).trans gN;have o:∃s:List Nat,([.str [97],.str [98],.str [120],.str [121],.str [118],.str [120],.str [121]]:List T)[g]? =some (.str s):=by
   rcases(by omega:g=0\/g=1\/g=2\/g=3\/g=4\/g=5\/g=6)with rfl|rfl|rfl|rfl|rfl|rfl|rfl<;>exact⟨_,rfl⟩
  obtain⟨s,o⟩:=o;generalize([.str [97],.str [98],.str [120],.str [121],.str [118],.str [120],.str [121]]:List T)=aN at gN o;have fin:=Js (m:=m) (n:=n) (d:=d) (v:=sl []) (l:=[]) (args:=[.fc m 0 0 0,C d]) b.ok E j gR (rn _ _ _ G) (.nm s) (by rw[fF.nd];simp only[fF.I8,fF.jS];exact Nat.pow_pos B);have an:g<7:=B;simp[gN,an,o,X0,gR,fin.1];exact fin.2
 ·simp;refine fN (λP=>?_) (λP=>?_)
  ·simp[w];simp at O Q P;refine jB S G ⟨K,m,A,n,0⟩ ⟨⟨rfl,b.tw f,r,G⟩,dS⟩ ?_;rintro _ q ⟨c,rfl,a6,bB,t3,h⟩;simp only at bB t3 h;have j:=f.call h t3;have gR:=(h.get _ B).trans gR;have b8:=H.gh gR;have R:(e.size=q.size)=False:=dR;have D:(q.cons (X 4 0 [c.t])).get e.size=_:=(by rw[fk,Z B]:(q.cons (X 4 0 [c.t])).get e.size=q.get e.size).trans gR;have fin:=Js (m:=m) (n:=n) (d:=d) (a:=3) (k:=0) (s:=[113]) (v:= .arr q.size 0 0 1 false) (l:=[c]) (args:=[.fc m 0 0 0,C d]) b.ok E (j.cons (X 4 0 [c.t])) D
    (.inr (.inl ⟨q.size,0,0,1,false,[c.t],[c.t],rfl,B,by rw[iR,eG D,Z B,fk,au rfl];simp,.cons (c.ft 8) .nil,rfl⟩)) (.ix a6) (by
      have:3^1<=3^d:=Nat.pow_le_pow_right B B;rw[fF.nd];simp only[fF.I8,fF.lq,fF.jS];omega)
   simp[gR,R,fin.1];exact fin.2
  simp at O Q P;obtain⟨d,rfl⟩:∃c,d=c+1:=⟨d-1,B⟩;have R:(m=p.size)=False:=by have:=f.size;simp at this;simp;omega
  have aE:IntKind.i64.wrap d=(d:Int):=by rw[<-kv];exact kG B B
  simp[w,R,M];have j:=f.cons (X 1 0 [C 6,C 7,C 8,C 11,C 13,C 17]);refine N3 G j.tp j.ok B B r λu x ap t4 I=>?_;have av:=j.call I t4;have cb:p.size+1=x.size:=by rw[I.size];simp
  have b6:=f.tp.lt;have gO:x.get p.size=some (X 1 0 [C 6,C 7,C 8,C 11,C 13,C 17]):=(I.get _ B).trans G;have D:x.get e.size=_:=((I.get _ B).trans (by rw[fk,Z (by have:=H.gh gR;omega)])).trans gR;have o:∃s:Int,([C 6,C 7,C 8,C 11,C 13,C 17]:List T)[u]? =some (C s)/\6<=s:=by
   rcases(by omega:u=0\/u=1\/u=2\/u=3\/u=4\/u=5)with rfl|rfl|rfl|rfl|rfl|rfl<;>exact⟨_,rfl,B⟩
  obtain⟨s,o,bA⟩:=o;generalize([C 6,C 7,C 8,C 11,C 13,C 17]:List T)=aN at*
  have ap:u<6:=B;simp[w,N,gO,o,ap,uf,aE];refine mf S G ⟨K,m,A,n,d⟩ ⟨⟨rfl,b.tw av,r,dS⟩,dS⟩ ?_;rintro _ ab ⟨c,rfl,a7,bC,t5,y⟩;simp only at bC t5 y;have aA:=av.call y t5;have aX:=(y.get _ B).trans D;have bN:gU x ab p.size=true:=il (y.get _ B);simp[w,N,uf,aE,bN];refine mf S G ⟨K,m,A,n,d⟩ ⟨⟨rfl,b.tw aA,r,dS⟩,dS⟩ ?_;rintro _ ae ⟨U,rfl,a8,bH,t6,z⟩;simp only at bH t6 z;have bT:=aA.call z t6;have W:=(z.get _ B).trans aX;have bS:gU ab ae p.size=true:=il (z.get _ B);have cX:gU x ae p.size=true:=il ((z.get _ B).trans (y.get _ B));have fin:=Js (m:=m) (n:=n) (d:=d+1) (a:=s) (k:=0) (s:=[]) (v:=sl [c.t,U.t]) (l:=[c,U]) (args:=[.fc m 0 0 0,C (d+1:Nat)]) b.ok E bT W (rn _ _ _ G) (.bin bA a7 a8) (by
   have:=Nat.pow_pos (n:=d) (show 0<3 by omega);rw[fF.nd,Nat.pow_succ];simp only[fF.I8,fF.lq,fF.jS];omega)
  simp[abK,bS,W,fin.1];exact fin.2
def KU(a:Nat):(Qz a).Ok prog cx 213:=z9 (λb:Ym=>b.d) UC a
def Nw(d c:Nat)(b:H)(e:Nat)(f:T)(a:Nat):Prop:=d<=a/\a<c/\¬Fp b e a/\fq f≠some a
def O0(a:Nat):fq .lU≠some a:=by show(none:aa Nat)≠some a;simp
def SV(f e:Nat)(b:H)(g h:Nat)(c:T)(i:List eQ):Prop:=∃d,Gr b c 11 d/\jw (FT b (Nw f e b g c) (h+2)) d (i.map eQ.t)/\∀a,fq c=some a->f<=a/\a<e/\¬Fp b g a
theorem SV.nil(d c:Nat)(b:H)(e a:Nat):SV d c b e a dV []:=⟨[],Gr.nil _ _,.nil,λg f=>by simp at f⟩
def SV.same{i h m k:Nat}{f g:H}{d j:Nat}{n:T}{l:List eQ}(r:SV i h f d j n l)(v:m<=i)(w:h<=k)(c:∀a,i<=a->a<h->¬Fp f d a->g.get a=f.get a/\¬Fp g d a):SV m k g d j n l:=by
 obtain⟨p,q,o,e⟩:=r;refine⟨p,q.mono λa b=>(c a (e a b).1 (e a b).2.1 (e a b).2.2).1,o.ft λa b=>⟨⟨by have:=b.1;omega,by have:=b.2.1;omega,(c a b.1 b.2.1 b.2.2.1).2,b.2.2.2⟩,(c a b.1 b.2.1 b.2.2.1).1⟩,λa b=>?_⟩;have⟨s,t,u⟩:=e a b;exact⟨B,B,(c a s t u).2⟩
def SV.step{i b:Nat}{a f:H}{c e:Nat}{l:T}{h:List eQ}(m:SV i b a c e l h)(k:Step c a f)(o:b<=a.size):SV i b f c e l h:=
 m.same (ax _) (ax _) λd _ n g=>⟨k.get d B g,λj=>(k.fp d j).elim g λj=>by omega⟩
def SV.wide{f c g d:Nat}{b:H}{h a:Nat}{i:T}{e:List eQ}(l:SV f c b h a i e)(j:g<=f)(k:c<=d):SV g d b h a i e:=l.same j k λ_ _ _ m=>⟨rfl,m⟩
def SV.box{e d:Nat}{i:H}{l h:Nat}{g:T}{k:List eQ}(c:SV e d i l h g k){a:Nat}(j:e<=a/\a<d->False):fq g≠some a:=λf=>by
 obtain⟨_,_,_,c⟩:=c;exact j ⟨(c a f).1,(c a f).2.1⟩
def SV.qJ{f e:Nat}{b:H}{c g:Nat}{i:T}{h:List eQ}(l:SV f e b c g i h){a:Nat}{m:jK}(d:Lb c b a m)(q:a<f\/e<=a)(j:jK):SV f e (fJ b a j) c g i h:=
 l.same (ax _) (ax _) λn o p k=>⟨by rw[eG d.get,Z B],by rw[jJ (show(fJ b a j).get c=b.get c by rw[eG d.get,Z (bE d.ne)])];exact k⟩
def SV.ft{i h:Nat}{e:H}{j d:Nat}{k:T}{a:List eQ}(p:SV i h e j d k a):FT e (Nw i h e j .lU) (d+3) k (sl (a.map eQ.t)):=by
 obtain⟨n,g,b,q⟩:=p;have o:=g.j1;rcases g with⟨rfl,rfl⟩|⟨c,m,y,v,A,rfl,w,x⟩
 ·cases hl:a.map eQ.t with
  |nil=>exact j9 _ _ _ _
  |cons z a=>rw[hl]at b;cases b
 ·have⟨r,s,u⟩:=q c rfl;exact .inr (.inl ⟨c,m,0,_,false,n,_,rfl,⟨r,s,u,O0 c⟩,o,b.ft λl f=>⟨⟨f.1,f.2.1,f.2.2.1,O0 l⟩,rfl⟩,rfl⟩)
def eQ.ft{c:H}{Vq:Nat->Prop}(b:eQ)(d:Nat):FT c Vq (d+2) b.t b.t:=by
 have f:∀a:List fF,FT c Vq (d+1) (sl (a.map fF.t)) (sl (a.map fF.t)):=λa=>rn _ _ _ λh e=>by obtain⟨i,_,rfl⟩:=List.mem_map.1 e;simp
 have g:∀a:List eQ,FT c Vq (d+1) (sl (a.map eQ.t)) (sl (a.map eQ.t)):=λa=>rn _ _ _ λh e=>by obtain⟨i,_,rfl⟩:=List.mem_map.1 e;simp
 exact .inr (.inr ⟨_,_,b.pJ,.cons (iO ..) (.cons (iO ..) (.cons (lz ..) (.cons (lz ..) (.cons (f _) (.cons (iO ..) (.cons (iO ..) (.cons (lz ..) (.cons (f _) (.cons (g _) (.cons (g _) .nil)))))))))),b.pJ⟩)
def Mk.same{i:List Int}{m:Nat}{b c:H}{f g:Nat}(e:Mk i m b f g)(r:iQ 0 c)(v:b.size<=c.size)(h:∀a,Fp b f a->c.get a=b.get a):Mk i m c f g:=by
 have k:=h f (.inl rfl);have⟨u,s,left,set,t,n,q,l,p,j,o,hl⟩:=e.ex;refine⟨r,λa d=>by rw[jJ k]at d;have:=e.fp a d;omega,e.tp.eq (h g e.fpb),u,s,left,set,t,n,q,l,p,by rw[k];exact j,o.mono λa d=>h a (.inr ⟨_,j,l,by simp[iq,T.cells,u9],d⟩),hl⟩
theorem Mk.cons{b:List Int}{f:Nat}{d:H}{e c:Nat}(a:Mk b f d e c)(g:jK):Mk b f (d.cons g) e c:=a.same (a.ok.cons g) G λh i=>by rw[fk,Z (by have:=a.fp h i;omega)]
def Mk.qJ{d:List Int}{h:Nat}{b:H}{c e:Nat}(f:Mk d h b c e){a:Nat}{l:jK}(g:Lb c b a l)(i:jK):Mk d h (fJ b a i) c e:=f.same (f.ok.put a i) (by rw[iy];exact ax _) λm j=>by rw[eG g.get,Z (λk=>g.nf (by rw[<-k];exact j))]
def Mk.hr{b:List Int}{f:Nat}{a:H}{e c:Nat}(d:Mk b f a e c):Mk b f (TI.hr a) e c:=d.same d.ok.hr (ax _) λg _=>iU a g
def Mk.out{b:List Int}{e:Nat}{h a:H}{m c:Nat}(d:Mk b e a m c):Mk b e (mX h a) m c:=d.same (d.ok.out h) (ax _) λf _=>iB h a f
def SV.out{e c:Nat}{h a:H}{m b:Nat}{f:T}{d:List eQ}(j:SV e c a m b f d):SV e c (mX h a) m b f d:=
 j.same (ax _) (ax _) λg _ _ i=>⟨iB h a g,by rw[jJ (iB h a m)];exact i⟩
def Mk.set{j:List Int}{h:Nat}{c:H}{d b f:Nat}{s left th' left':Int}{r t l n se' tx' at2 lp':Bool}{a:T}{g:List (List Nat)}(e:Mk j h c d b)(k:c.get d=some (X 8 f [.eZ (u9 b s left r t l n a)]))(m:Gr c a 1 (g.map T.str))(hl:g.length=h):
 Step d c (fJ c d (X 8 (f+1) [.eZ (u9 b th' left' se' tx' at2 lp' a)]))/\Mk j h (fJ c d (X 8 (f+1) [.eZ (u9 b th' left' se' tx' at2 lp' a)])) d b:=by
 obtain⟨i,o,p,q⟩:=Eq e.ok e.fp k (cells':=u9 b th' left' se' tx' at2 lp' a) (λu a=>by
  simp only[u9,ci,cS,or_false]at a;rcases a with rfl|rfl|rfl|rfl|rfl|rfl|rfl|rfl<;>first|exact .inr (.inl rfl)|exact .inl (by simp[u9])) _ rfl
 exact⟨i,⟨i.ok.hp,i.ok.low,ay _⟩,o,e.tp.eq (by rw[eG k,Z (bE e.ne)]),f+1,th',left',se',tx',at2,lp',a,g,p,q _ _ _ m dT,hl⟩
def SV.app{D:List Int}{n h q:Nat}{b:H}{d F w:Nat}{v x:T}{xs:List T}{r l2:List eQ}(k:SV h q b d w v r)(l:Mk D n b d F)(ap:h<=b.size)(an:q<=b.size)(ae:b.j1 x=some xs)(L:jw (FT b (Nw h q b d v) (w+2)) xs (l2.map eQ.t))(U:∀i∈xs,i.cells.length=11)(Z:xs≠ [])(av:r.length+l2.length<=1000000):
 ∃A f,jx cx b 190 190 v x=some (.val A f)/\SV h f.size f d w A (r++l2)/\Mk D n f d F/\(∀p,Step d p b->p.size<=h->Step d p f)/\∀e,e<h->f.get e=b.get e:=by
 obtain⟨o,Q,E,s⟩:=k;have l1:o.length=r.length:=by simpa using E.length
 have l3:xs.length=l2.length:=by simpa using L.length
 obtain⟨A,f,i,e,J,al,P,rfl,M,g,j,m⟩:=Q.app (cx:=cx) l.ok Cf rfl Ce Cf rfl rfl G ae U Z dR;have y:¬Fp b d e:=λK=>g.elim (λg=>(s e g).2.2 K) λg=>by have:=l.fp e K;omega
 have ab:=m.sz;have W:h<=e:=g.elim (λg=>(s e g).1) λg=>by omega
 have V:=H.gh M;have z:f.get d=b.get d:=j d (λs=>y (by rw[<-s];exact .inl rfl)) l.lt;have O:∀a,Nw h q b d v a->Nw h f.size f d (.arr e J 0 (o++xs).length false) a/\f.get a=b.get a:=λa c=>by
  have N:a≠e:=λi=>g.elim (λg=>c.2.2.2 (by rw[i];exact g)) λg=>by have:=c.2.1;omega
  exact⟨⟨c.1,by have:=c.2.1;omega,by rw[jJ z];exact c.2.2.1,by simp;exact bE N⟩,j a N (by have:=c.2.1;omega)⟩
 refine⟨_,f,i,⟨o++xs,.inr ⟨e,J,al,P,o++xs,rfl,M,aL⟩,?_,λa I=>?_⟩,l.same ⟨m.hp,m.low,ay _⟩ ab λa c=>j a (λi=>y (by rw[<-i];exact c)) (l.fp a c),λp u hl=>⟨⟨m.hp,m.low,by have:=u.ok.sz;omega⟩,λa R S=>?_,λa c=>by rw[jJ z]at c;exact u.fp a c⟩,λa c=>j a B B⟩
 ·rw[List.map_append];exact(E.ft O).append (L.ft O)
 ·simp at I;subst I;exact⟨W,V,by rw[jJ z];exact y⟩
 ·exact(j a B (by have:=u.ok.sz;omega)).trans (u.get a R S)
def wd(a:Nat):Nat:=100*10^a
def Ou(a:Nat):wd (a+1)=10*wd a:=by unfold wd;rw[Nat.pow_succ];omega
def EJ(a:Nat):100<=wd a:=by
 induction a with
 |zero=>decide
 |succ a b=>rw[Ou];omega
structure VX where
 (L:List Int) (m b n d cnt:Nat)
def okM(a:VX)(c:H):Prop:=Mk a.L a.n c a.m a.b/\okB a.L/\a.d<=2/\a.n+a.d<=10/\a.cnt<=3
def Ta(a:VX)(i:List T)(f:H)(h:T)(c:H):Prop:=∃e,SV f.size c.size c a.m (2*a.d+2) h e/\(∀g∈e,MS g/\g.w<=wd a.d)/\e.length<=a.cnt/\Mk a.L a.n c a.m a.b/\Step a.m f c
def IT(a:VX)(i:List T)(g:H)(h:T)(c:H):Prop:=∃f e,h= .eZ f/\f.length=11/\FT c (Nw g.size c.size c a.m .lU) (2*a.d+4) h e.t/\MS e/\e.w<=wd a.d/\Mk a.L a.n c a.m a.b/\Step a.m g c
abbrev rMs(e:Nat):mN:=km VX (λa b c=>(b=[.fc a.m 0 0 0,C a.d,C a.cnt]/\okM a c)/\a.d<e) Ta
abbrev rMt(e:Nat):mN:=km VX (λa b c=>(b=[.fc a.m 0 0 0,C a.d]/\okM a c)/\a.d<e) IT
def aeN(k:Nat)(aE:(rMt k).Ok prog cx 170):(rMs k).Ok prog cx 132:=by
 refine kh (tb:=⟨pt [],ht [(170,rMt k)]⟩) jv jl (jF 4194759 [] func132) (λ_ _=>10) (λf a s ap=>by obtain⟨⟨rfl,_⟩,_⟩:=ap;simp[f132]) ?_;rintro⟨F,g,H,n,o,I⟩ _ s ⟨⟨rfl,A,N,R,W,b⟩,U⟩ i P;simp only at A N R W b U;simp at P;obtain⟨r,u,v⟩:=P;simp[f132];refine vh I (λf i p=>∃z l,SV s.size p.size p g (2*o+2) z l/\(∀m∈l,MS m/\m.w<=wd o)/\l.length=f/\Mk F n p g H/\Step g (hr s) p/\Y i 0 (.fc g 0 0 0)/\Y i 1 (C o)/\Y i 2 (C I)/\Y i 7 z/\Y i 8 (C f)) ?_ B (k:=0) B ⟨dV,[],SV.nil _ _ _ _ _,G,rfl,A.hr,Step.refl A.ok.hr,by simp[r,u,v]⟩;rintro f i p bs ⟨z,l,sv,hl,bu,D,E,r,u,v,K,L⟩;have⟨bS,bH,left,set,bN,bg,bC,bB,bA,J,bi,bp⟩:=D.ex;simp only[u9]at J;simp[r,v,L,J];refine fN (λS=>?_) (λS=>?_)
 ·simp at S;simp[r,u,K];refine jB aE G ⟨F,g,H,n,o,0⟩ ⟨⟨rfl,D,N,R,W,G⟩,U⟩ ?_;rintro _ d ⟨c,m,rfl,Q,ft,an,ab,h,y⟩;simp only at ft ab h y;have aA:=E.ok.sz;have ae:=y.ok.sz;simp at aA;have a6:=((sv.step y (ax _)).step (Step.cons h.ok h.lt (X 11 0 [.eZ c])) ae).wide (ax _) ae;have O:∀j,j<d.size->(d.cons (X 11 0 [.eZ c])).get j=d.get j:=λj b=>by rw[fk,Z B]
  have al:FT (d.cons (X 11 0 [.eZ c])) (Nw s.size d.size (d.cons (X 11 0 [.eZ c])) g z) (2*o+4) (.eZ c) m.t:=ft.mono λj b=>⟨⟨by have:=b.1;omega,b.2.1,by rw[jJ (O g h.lt)];exact b.2.2.1,sv.box λq=>by have:=b.1;omega⟩,O j b.2.1⟩;have⟨a8,bn,e,a7,aN,aX,_⟩:=a6.app (h.cons (X 11 0 [.eZ c])) (x:= .arr d.size 0 0 1 false) (xs:=[.eZ c]) (l2:=[m]) dR G (by rw[iR];simp) (.cons al .nil) (by simp[T.cells,Q]) G dR;simp[r,u,v,L,e,Q,jp (show-9223372036854775808<=(f:Int)+1 by omega) (show(f:Int)+1<9223372036854775808 by omega)];exact⟨f+1,B,B,a8,l++[m],a7,λx av=>(List.mem_append.1 av).elim (hl x) λq=>by rw[List.mem_singleton.1 q];exact⟨an,ab⟩,dR,aN,aX _ ((E.trans y).trans (Step.cons h.ok h.lt _)) G,G⟩
 ·simp[K];exact⟨l,sv.out,hl,dS,D.out,E.out⟩
def Mk.held{s:List Int}{q:Nat}{c h:H}{a b f:Nat}{m left:Int}{l n g k:Bool}{p o:T}{j:List (List Nat)}{w:List Nat}(d:Mk s q c a b)(t:c.get a=some (X 8 f [.eZ (u9 b m left l n g k p)]))(v:Gr c p 1 (j.map T.str))(hl:j.length=q)(x:Xt c p 1 ((j++[w]).map T.str) o h):
 h.get a=c.get a/\Step a c (fJ h a (X 8 (f+1) [.eZ (u9 b m left l n g k o)]))/\Mk s (q+1) (fJ h a (X 8 (f+1) [.eZ (u9 b m left l n g k o)])) a b:=by
 have⟨e,E⟩:=zu (i:=7) d.ok d.fp t (by simp[u9]) dT v x;have⟨r,y,A,_⟩:=E _ rfl;have u:=e.trans t;have⟨K,J,z,_⟩:=d.tp;refine⟨e,r,⟨r.ok.hp,r.ok.low,ay _⟩,y,d.tp.eq ?_,f+1,m,left,l,n,g,k,o,j++[w],(eG u _ a).trans (au rfl),A,dR⟩;rw[eG u,Z (bE d.ne)];refine x.2.1 b d.tp.lt λD=>?_;have⟨F,f,I,L,e,_⟩:=v.box D;rw[z]at e;simp at e
def Mk.drop{p:List Int}{g:Nat}{b:H}{c a l:Nat}{i left:Int}{h j e f:Bool}{n d:T}{m:List (List Nat)}(k:Mk p (g+1) b c a)(q:b.get c=some (X 8 l [.eZ (u9 a i left h j e f n)]))(hl:m.length=g+1)(r:Gr b d 1 ((m.map T.str).take g))(s:fq d=fq n):
 Step c b (fJ b c (X 8 (l+1) [.eZ (u9 a i left h j e f d)]))/\Mk p g (fJ b c (X 8 (l+1) [.eZ (u9 a i left h j e f d)])) c a:=by
 obtain⟨o,t,u,v⟩:=Eq k.ok k.fp q (cells':=u9 a i left h j e f d) (λw hm=>by
  simp only[u9,ci,cS,or_false]at hm;rcases hm with rfl|rfl|rfl|rfl|rfl|rfl|rfl|hm
  ·exact .inl (by simp[u9])
  iterate 6 exact .inr (.inl rfl)
  exact .inr (.inr ⟨n,by simp[u9],by rw[hm];exact s⟩)) _ rfl
 exact⟨o,⟨o.ok.hp,o.ok.low,ay _⟩,t,k.tp.eq (by rw[eG q,Z (bE k.ne)]),l+1,i,left,h,j,e,f,d,m.take g,u,by rw[List.map_take];exact v _ _ _ r dT,by rw[List.length_take];omega⟩
structure IBk where
 (L:List Int) (m b n d:Nat) (s:List Nat)
def aem(a:IBk)(c:List T)(e:H):Prop:=c=[.fc a.m 0 0 0,.str a.s,C a.d]/\Mk a.L a.n e a.m a.b/\okB a.L/\a.d<=2/\a.n+a.d<=9
abbrev rBk(g:Nat):mN:=km IBk (λa c e=>aem a c e/\a.d<g) (λa c e h f=>Ta ⟨a.L,a.m,a.b,a.n,a.d,2⟩ c e h f)
def afM(q:Nat)(a6:(rMs q).Ok prog cx 132):(rBk q).Ok prog cx 217:=by
 refine kh (tb:=⟨pt [],ht [(79,km Cv xp uJ),(132,rMs q)]⟩) jv jl (jF 199 [] func217) (λ_ _=>10) (λi a f aX=>by obtain⟨⟨rfl,_⟩,_⟩:=aX;simp[f217]) ?_;rintro⟨S,d,T,n,U,s⟩ _ f ⟨⟨rfl,t,p,D,aE⟩,E⟩ bA A;simp only at t p D aE E;simp at A;obtain⟨z,ae,al⟩:=A;have g:=t.hr;have⟨Q,O,left,set,P,x,J,I,H,b,c,hl⟩:=g.ex;have⟨bi,an,k,j⟩:=c.m9 (cx:=cx) g.ok tR rfl yV rfl G G s dR;have⟨L,w,e⟩:=g.held b c hl j;have m:=L.trans b;simp only[u9]at b m w e;have y:f.get d=_:=(iU f d).symm.trans b;have bu:(d=f.size)=False:=by have:=t.lt;simp;omega
 rw[pZ]at k;simp[f217,z,ae,al,y,k,m,fG,j.1.jc,j.1.cells];generalize fJ an d _=bn at*
 clear b y m L j k c g;have⟨Q,O,left,set,P,x,J,I,H,b,c,hl⟩:=e.ex;simp only[u9]at b;simp[b];refine uW G e.tp e.ok B B p λr bp bs t2 a8=>?_;have⟨a7,M⟩:=e.tape a8 t2;have V:binop .add (C 1) (C r)=some (C ((1+r:Nat):Int)):=by rw[jp B B];simp
 simp[V];refine jB a6 G ⟨S,d,T,n+1,U,1+r⟩ ⟨⟨G,a7,p,D,dS,dS⟩,E⟩ ?_;rintro v ap ⟨l,sv,F,aN,u,N⟩;simp only at sv F aN u N;have⟨Q,O,left,set,P,x,J,I,H,b,c,hl⟩:=u.ex;have ab:=b;simp only[u9]at b;have aA:=c.len (cx:=cx) ap V7 _ rfl;have⟨bi,Z,o,av⟩:=c.cut (cx:=cx) (ty:=V7) rfl yV rfl (n:=n) dR dR;have⟨h,K⟩:=u.drop ab hl o av;have W:binop .sub (C ((n:Int)+1)) (C 1)=some (C n):=by
  rw[uf,<-kv,kG B B];simp
 simp only[u9]at h K;simp[z,b,aA,hl,W,Z,fG,o.jc,o.cells];have bg:=((w.trans M).trans N).trans h;have R:=(w.trans M).ok.sz;simp at R;exact⟨l,((sv.step h (ax _)).wide R (by have:=h.ok.sz;simp)).out,F,dS,K.out,bg.out⟩
def CJ:mN:=⟨λe a=>∃d c b f i,e=[.fc b 0 0 0,.str i]/\Mk d c a b f/\c<=100,λ_ a h g=>g=a/\J7 h⟩
def WO:CJ.Ok prog cx 216:=by
 refine Ms (tb:=⟨pt [(126,Fg)],ht []⟩) jv jl (jF 19 [] func216) false (λ_ _=>5) (λq a k=>by obtain⟨e,o,n,f,p,rfl,_⟩:=k;simp[f216]) ?_;rintro _ a ⟨e,o,n,f,p,rfl,d,s⟩ y c;simp at c;obtain⟨i,j⟩:=c;have⟨x,v,left,set,w,r,u,t,l,b,h,hl⟩:=d.ex;simp only[u9]at b;have m:=(h.mono (h':=hr a) λg _=>iU a g).rZ G;simp[f216,i,j,b,m,RW,show l.length<=1099511627776 by omega];exact tj a _ _ d.ok.hp (Fr.refl _ _) rfl ⟨rfl,G⟩
def aiS{d:H}{b:Nat->Prop}(h:eQ)(c:Nat):jw (FT d b (c+1)) h.cs h.cs:=by
 have f:∀a:List fF,FT d b (c+1) (sl (a.map fF.t)) (sl (a.map fF.t)):=λa=>rn _ _ _ λi e=>by obtain⟨j,_,rfl⟩:=List.mem_map.1 e;simp
 have g:∀a:List eQ,FT d b (c+1) (sl (a.map eQ.t)) (sl (a.map eQ.t)):=λa=>rn _ _ _ λi e=>by obtain⟨j,_,rfl⟩:=List.mem_map.1 e;simp
 exact .cons (iO ..) (.cons (iO ..) (.cons (lz ..) (.cons (lz ..) (.cons (f _) (.cons (iO ..) (.cons (iO ..) (.cons (lz ..) (.cons (f _) (.cons (g _) (.cons (g _) .nil))))))))))
def K7{i:VX}{args:List T}{a c:H}{r:jK}{cs:List T}{s:eQ}(e:Lb i.m c a.size r)(g:Mk i.L i.n c i.m i.b)(p:Step i.m (TI.hr a) c)(hl:cs.length=11)(j:jw (FT c (Nw (a.size+1) c.size c i.m .lU) (2*i.d+3)) cs s.cs)(k:MS s)(o:s.w<=wd i.d):
 (fJ c a.size (X 11 1 [.eZ cs])).get a.size=some (X 11 1 [.eZ cs])/\IT i args a (.eZ cs) (mX a (fJ c a.size (X 11 1 [.eZ cs]))):=by
 have l:(fJ c a.size (X 11 1 [.eZ cs])).get i.m=c.get i.m:=by rw[eG e.get,Z (bE e.ne)]
 have q:=Step.qJ g.ok e (X 11 1 [.eZ cs]) _ p (ax _);refine⟨(eG e.get _ _).trans (au rfl),cs,s,rfl,hl,?_,k,o,(g.qJ e _).out,q.out⟩;refine .inr (.inr ⟨cs,s.cs,rfl,j.ft λh f=>⟨⟨by have:=f.1;omega,by have:=f.2.1;simp;omega,?_,O0 h⟩,?_⟩,s.pJ⟩)
 ·rw[jJ (iB a _ i.m),jJ l];exact f.2.2.1
 ·rw[iB,eG e.get,Z (by have:=f.1;omega)]
def G7(c:List Nat)(b:List fF)(a:fF):eQ:=⟨1,0,c,[],b,a,[],[]⟩
def GN{d:List Nat}{b:List fF}{c:fF}(g:∀i∈b,ME i)(f:ME c)(h:b≠ []->d=[113]):MS (G7 d b c):=
 .mk (λa=>by unfold G7 at a;simp at a) (λ_ a=>h a) g (λ_=>f) (λe a=>by unfold G7 at a;simp at a) (λe a=>by unfold G7 at a;simp at a)
def PU{nm:List Nat}{ix:List fF}{e:fF}{d:Nat}(a:fF.ws ix<=20)(b:e.w<=20):(G7 nm ix e).w<=wd d:=by
 have:=EJ d;rw[eQ.nd];unfold G7;simp only[eQ.uR,eQ.NQ,eQ.xO,eQ.A1,eQ.jS];omega
abbrev agb(f:VX)(e:List T)(b d:H)(c:List Nat)(a:fF):Prop:=
 (fJ d b.size (X 11 1 [.eZ [C 1,C 0,.str c,.str [],sl [],C a.op,C a.n,.str a.name,sl (a.l.map fF.t),sl [],sl []]])).get b.size=some (X 11 1 [.eZ [C 1,C 0,.str c,.str [],sl [],C a.op,C a.n,.str a.name,sl (a.l.map fF.t),sl [],sl []]])/\
 IT f e b (.eZ [C 1,C 0,.str c,.str [],sl [],C a.op,C a.n,.str a.name,sl (a.l.map fF.t),sl [],sl []]) (mX b (fJ d b.size (X 11 1 [.eZ [C 1,C 0,.str c,.str [],sl [],C a.op,C a.n,.str a.name,sl (a.l.map fF.t),sl [],sl []]])))
def Of{i:VX}{args:List T}{c d:H}{k:jK}{nm:List Nat}{a:fF}(g:Lb i.m d c.size k)(h:Mk i.L i.n d i.m i.b)(j:Step i.m (TI.hr c) d)(e:ME a)(f:a.w<=20):agb i args c d nm a:=
 K7 (s:=G7 nm [] a) g h j rfl (aiS (G7 nm [] a) _) (GN G e (λc=>absurd rfl c)) (PU (by rw[fF.jS];omega) f)
def NJ(a:VX){f:io}{s:ah Oper}{k:aa Tmp}{l:List Oper}{x w:iM}{i:jE}{p:Nat}{d e:H}{y:jK}(ht:f.h 213=some (Qz 11))(q:Mk a.L a.n e a.m a.b)(z:okB a.L)(o:Lb a.m e d.size y)(I:Step a.m (TI.hr d) e)
 (E:∀c hE,hE.get d.size=some y->(∀j r,agb a j d hE r c)->XK (some (fF.t c,hE)) cx (tz prog cx f) p s k l x w i):XK (hl prog cx f 213 [.fc a.m 0 0 0,C 1] e) cx (tz prog cx f) p s k l x w i:=by
 refine jB (KU 11) ht ⟨a.L,a.m,a.b,a.n,1⟩ ⟨⟨rfl,q,z,G⟩,G⟩ ?_;rintro _ hE ⟨c,rfl,A,D,v,u⟩;simp only at D v u;have⟨F,g⟩:=q.tape u v;exact E c hE (o.step g).get λj r=>Of (o.step g) F (I.trans g) A B 
theorem _root_.Go.TI.Lb.put{d:Nat}{b:H}{a c:Nat}{x g:jK}(f:Lb d b a x)(l2:Lb d b c g)(e:a≠c)(h:jK):Lb d (fJ b c h) a x:=f.mE (by rw[eG l2.get,Z (bE l2.ne)]) (by rw[eG l2.get,Z e])
def YY{n:List Int}{q:Nat}{k b:H}{c o a:Nat}{w:jK}(p:Mk n q b c o)(e:Lb c b a w)(v:Step c (TI.hr k) b)(r:k.size<=a)(d:jK):
 Mk n q (fJ b a d) c o/\Lb c (fJ b a d) a d/\Step c (TI.hr k) (fJ b a d)/\(∀g m,g≠a->Lb c b g m->Lb c (fJ b a d) g m)/\∀i h j l f,SV i h b c j l f->a<i\/h<=a->SV i h (fJ b a d) c j l f:=
 ⟨p.qJ e d,⟨(eG e.get d a).trans (au rfl),by rw[jJ (show(fJ b a d).get c=b.get c by rw[eG e.get,Z (bE e.ne)])];exact e.nf⟩,Step.qJ p.ok e d _ v r,λg m s f=>f.put e s d,λi h j l f t u=>t.qJ e u d⟩
theorem mY{o:List Int}{q:Nat}{m a:H}{b p:Nat}(g:Mk o q a b p)(s:Step b (TI.hr m) a)(c e:jK):
 Mk o q (fJ (a.cons c) a.size e) b p/\Lb b (fJ (a.cons c) a.size e) a.size e/\Step b (TI.hr m) (fJ (a.cons c) a.size e)/\(∀h l,Lb b a h l->Lb b (fJ (a.cons c) a.size e) h l)/\∀j f i k d,SV j f a b i k d->f<=a.size->SV j f (fJ (a.cons c) a.size e) b i k d:=by
 have n:=Step.cons g.ok g.lt c;have v:=Lb.new g.lt g.fp c;have t:m.size<=a.size:=by simpa using s.ok.sz
 have⟨w,x,y,z,A⟩:=YY (g.cons c) v (s.trans n) t e;exact⟨w,x,y,λh l d=>z h l (by have:=d.lt;omega) (d.step n),λj f i k d u r=>A j f i k d (u.step n r) (.inr r)⟩
def SV.gc{h e:Nat}{d:H}{i c:Nat}{a:T}{g:List eQ}(f:SV h e d i c a g):a.jc=true/\a.cells=[a]:=by
 obtain⟨j,b,_⟩:=f;exact⟨b.jc,b.cells⟩
def SV.cell{g e c d:Nat}{b:H}{h a:Nat}{i:T}{f:List eQ}(l:SV g e b h (2*a+2) i f)(j:c<=g)(k:e<=d):FT b (Nw c d b h .lU) (2*(a+1)+3) i (sl (f.map eQ.t)):=by
 have:=(l.wide j k).ft;rw[show 2*(a+1)+3=2*a+2+3 by omega];exact this
def Be{a:List eQ}{W:Nat}(c:∀b∈a,MS b/\b.w<=W):eQ.ws a<=a.length*W:=by
 induction a with
 |nil=>rw[eQ.jS];omega
 |cons f a e=>
  have g:=e λb d=>c b (List.mem_cons_of_mem _ d);have h:=(c f G).2;rw[eQ.lq,aQ,cm];omega
def uq{k:List Int}{c m o d cnt:Nat}{args:List T}{a b:H}{p:jK}{op:Int}{nm:List Nat}{e:fF}{f g h:T}{j le:List eQ}(z:Lb c b a.size p)(A:Mk k o b c m)(D:Step c (TI.hr a) b)
 (q:FT b (Nw (a.size+1) b.size b c .lU) (2*(d+1)+3) g (sl (j.map eQ.t))) (r:FT b (Nw (a.size+1) b.size b c .lU) (2*(d+1)+3) h (sl (le.map eQ.t))) (u:FT b (Nw (a.size+1) b.size b c .lU) (2*(d+1)+3) f (sl (e.l.map fF.t)))
 (F:2<=op/\op<=8) (hE:op<=3->ME e) (I:e.w<=20) (v:∀s∈j,MS s) (x:∀s∈le,MS s) (E:eQ.ws j+eQ.ws le<=5*wd d):
 (fJ b a.size (X 11 1 [.eZ [C op,C 0,.str nm,.str [],dV,C e.op,C e.n,.str e.name,f,g,h]])).get a.size=some (X 11 1 [.eZ [C op,C 0,.str nm,.str [],dV,C e.op,C e.n,.str e.name,f,g,h]])/\
 IT ⟨k,c,m,o,d+1,cnt⟩ args a (.eZ [C op,C 0,.str nm,.str [],dV,C e.op,C e.n,.str e.name,f,g,h]) (mX a (fJ b a.size (X 11 1 [.eZ [C op,C 0,.str nm,.str [],dV,C e.op,C e.n,.str e.name,f,g,h]]))):=
 K7 (i:=⟨k,c,m,o,d+1,cnt⟩) (s:=⟨op,0,nm,[],[],e,j,le⟩) z A D rfl
  (.cons (iO ..) (.cons (iO ..) (.cons (lz ..) (.cons (lz ..) (.cons (j9 ..) (.cons (iO ..) (.cons (iO ..) (.cons (lz ..) (.cons u (.cons q (.cons r .nil)))))))))))
  (.mk (λa=>by simp at a;omega) (λa=>by simp at a;omega) (λp y=>by simp at y) (λa=>by simp at a;exact hE B) v x)
  (by
    have:=EJ d;rw[eQ.nd,Ou];simp only[eQ.uR,eQ.NQ,eQ.xO,eQ.A1,fF.jS];omega)
def SV.deep{f d:Nat}{c:H}{g a b:Nat}{h:T}{e:List eQ}(m:SV f d c g a h e)(o:a<=b):SV f d c g b h e:=by
 obtain⟨j,l,i,n⟩:=m;exact⟨j,l,i.imp λ_ _ k=>k.deep B,n⟩
def acZ(a:Nat):wd 0<=wd a:=EJ a
def SV.lit{g:List Int}{m:Nat}{a:H}{b j d:Nat}{es:List T}{l:List eQ}(e:Mk g m a b j)(i:∀k h,jw (FT k h (d+2)) es (l.map eQ.t)):SV a.size (a.size+1) (a.cons ⟨11,0,0,true,false,es⟩) b d (.arr a.size 0 0 es.length false) l:=by
 refine⟨es,.inr ⟨a.size,0,0,true,es,rfl,by rw[fk,au rfl],aL⟩,i _ _,λn f=>?_⟩;simp at f;subst f;refine⟨ax _,dx _,λc=>?_⟩;rw[jJ (show(a.cons ⟨11,0,0,true,false,es⟩).get b=a.get b by rw[fk,Z (by have:=e.lt;omega)])]at c;have:=e.fp _ c;omega
def Ed(a:Int):eQ:=⟨a,0,[99],[],[],⟨0,0,[],[]⟩,[],[]⟩
def US{d:H}{b:Nat->Prop}(a:Int)(c:Nat):FT d b (c+2) (.eZ [C a,C 0,.str [99],.str [],dV,C 0,C 0,.str [],dV,dV,dV]) (Ed a).t:=
 .inr (.inr ⟨_,(Ed a).cs,rfl,.cons (iO ..) (.cons (iO ..) (.cons (lz ..) (.cons (lz ..) (.cons (j9 ..) (.cons (iO ..) (.cons (iO ..) (.cons (lz ..) (.cons (j9 ..) (.cons (j9 ..) (.cons (j9 ..) .nil)))))))))),eQ.pJ _⟩)
def UR{c:Int}(e:9<=c/\c<=11):MS (Ed c):= .mk (λ_=>rfl) (λb=>by unfold Ed at b;simp at b;omega) (λd a=>by unfold Ed at a;simp at a) (λb=>by unfold Ed at b;simp at b;omega) (λd a=>by unfold Ed at a;simp at a) (λd a=>by unfold Ed at a;simp at a)
def Zx(a:Int):(Ed a).w=5:=by
 rw[eQ.nd,fF.nd];unfold Ed;simp only[eQ.uR,eQ.NQ,eQ.xO,eQ.A1,eQ.jS,fF.jS,fF.I8]
def HI{b c a:Int}(d:b-c=a)(e: -9223372036854775808<=a)(f:a<9223372036854775808):binop .sub (C b) (C c)=some (C a):=by
 subst d;rw[uf,<-kv,kG e f]
def Cs{b c a:Int}(d:b+c=a)(e: -9223372036854775808<=a)(f:a<9223372036854775808):binop .add (C b) (C c)=some (C a):=by
 subst d;rw[qm,<-kv,kG e f]
def aeM(k:Nat)(c1:(rMs k).Ok prog cx 132)(eM:(rBk k).Ok prog cx 217):(rMt (k+1)).Ok prog cx 170:=by
 have⟨gv,c7⟩:=hlB WO λ_ _ _ _ D=>D;have cF:=KU 11;refine kh (tb:=⟨pt [(134,MN),(215,Qy),(214,QA),(133,QB)],ht [(79,km Cv xp uJ),(213,Qz 11),(132,rMs k),(217,rBk k),(216,CJ)]⟩) jv jl (jF 521481210427296124309566527199867809678935259509485941609668421502669740186866579200068820979 [(5,[(0,5),(2,5),(3,5)]),(7,[(0,5),(0,9),(6,9),(7,9)])] func170) (λ_ _=>10) (λi a D fA=>by obtain⟨⟨rfl,_⟩,_⟩:=fA;simp[f170]) ?_;rintro⟨m,b,o,r,d,cnt⟩ _ D ⟨⟨rfl,bT,u,ff,fs,fe⟩,fi⟩ gV eE;simp only at bT u ff fs fe fi;simp at eE;obtain⟨f,bu⟩:=eE;have eH:(b=D.size)=False:=by have:=bT.lt;simp;omega
 have A:=Step.cons bT.hr.ok bT.hr.lt (X 11 0 [.eZ [C 0,C 0,.str [],.str [],dV,C 0,C 0,.str [],dV,dV,dV]]);have p:Lb b _ D.size _:=Lb.new bT.hr.lt bT.hr.fp (X 11 0 [.eZ [C 0,C 0,.str [],.str [],dV,C 0,C 0,.str [],dV,dV,dV]]);have ef:=bT.hr.cons (X 11 0 [.eZ [C 0,C 0,.str [],.str [],dV,C 0,C 0,.str [],dV,dV,dV]]);have⟨cb,an,left,set,K,ae,aX,b6,z,g,S,hl⟩:=ef.ex;have⟨dm,cp⟩:=ef.set (th':=an) (left':=IntKind.i64.wrap (left-1)) (se':=set) (tx':=K) (at2:=ae) (lp':=aX) g S hl;replace p:=p.step dm;replace A:=A.trans dm;simp only[u9]at g dm cp p A;have ds:=g;rw[fk,pZ,Z (by have:=bT.lt;omega),iU]at ds;simp[f170,f,ds,eH,uf,fG];generalize fJ ((hr D).cons _) b _=gw at*
 clear g ds S ef dm eH;have⟨cb,an,left,set,K,ae,aX,b6,z,g,S,hl⟩:=cp.ex;simp only[u9]at g;simp[g];refine uW G cp.tp cp.ok B B u λQ P gB t2 eS=>?_;have⟨c,eo⟩:=cp.tape eS t2;replace p:=p.step eo;replace A:=A.trans eo;clear g S cp t2 eS eo hl;have⟨cb,an,left,set,K,ae,aX,b6,z,g,S,hl⟩:=c.ex;have c9:=g;simp only[u9]at g;simp[f,bu,g];rcases(by omega:Q=0\/Q=1\/Q=2\/Q=3\/Q=4\/Q=5\/Q=6\/Q=7\/Q=8\/Q=9\/Q=10\/Q=11\/Q=12\/Q=13\/Q=14\/Q=15\/Q=16\/Q=17)with rfl|rfl|rfl|rfl|rfl|rfl|rfl|rfl|rfl|rfl|rfl|rfl|rfl|rfl|rfl|rfl|rfl|rfl
 iterate 4
  ·simp[f];have F:=c.cons (X 1 0 [.str [120],.str [121],.str [120],.str [118]]);have H:=Step.cons c.ok c.lt (X 1 0 [.str [120],.str [121],.str [120],.str [118]]);refine mf cF G ⟨m,b,o,r,1⟩ ⟨⟨rfl,F,u,G⟩,G⟩ ?_;rintro _ hE ⟨e,rfl,bn,bC,aA,U⟩;simp only at bC aA U;have⟨av,ab⟩:=F.tape U aA;have j:=(p.step H).step ab;have fin:=λnm=>Of (i:=⟨m,b,o,r,d,cnt⟩) (args:=[.fc b 0 0 0,C d]) (nm:=nm) j av ((A.trans H).trans ab) bn B;have eu:gU (P.cons (X 1 0 [.str [120],.str [121],.str [120],.str [118]])) hE P.size=true:=il (U.get _ (by have:=c.tp.lt;omega));simp[w7,j.get,eu,λnm=>(fin nm).1];exact(fin _).2
 ·have fo:(b=P.size)=False:=by have:=c.lt;simp;omega
  simp[f,g,fo];have F:=c.cons (X 1 0 [.str [97],.str [98]]);have H:=Step.cons c.ok c.lt (X 1 0 [.str [97],.str [98]]);refine N3 G F.tp F.ok B B u λW bS cd t4 a6=>?_;have⟨al,bN⟩:=F.tape a6 t4;have gO:bS.get P.size=some (X 1 0 [.str [97],.str [98]]):=(a6.get _ (by have:=c.tp.lt;omega)).trans G;have gn:gU (P.cons (X 1 0 [.str [97],.str [98]])) bS P.size=true:=il (a6.get _ (by have:=c.tp.lt;omega));have⟨nm,e7⟩:∃nm:List Nat,([.str [97],.str [98]]:List T)[W]? =some (.str nm):=by
   rcases(by omega:W=0\/W=1)with rfl|rfl<;>exact⟨_,rfl⟩
  generalize([.str [97],.str [98]]:List T)=e6 at*
  have cd:W<2:=B;simp[f,gO,e7,cd,gn];refine mf cF G ⟨m,b,o,r,1⟩ ⟨⟨rfl,al,u,G⟩,G⟩ ?_;rintro _ hE ⟨e,rfl,bn,bC,aA,U⟩;simp only at bC aA U;have⟨av,ab⟩:=al.tape U aA;have j:=((p.step H).step bN).step ab;have fin:=Of (i:=⟨m,b,o,r,d,cnt⟩) (args:=[.fc b 0 0 0,C d]) (nm:=nm) j av (((A.trans H).trans bN).trans ab) bn B;have eu:gU bS hE P.size=true:=il (U.get _ (by have:=c.tp.lt;omega));have gS:gU (P.cons ⟨1,0,0,true,false,e6⟩) hE P.size=true:=il ((U.get _ (by have:=c.tp.lt;omega)).trans (a6.get _ (by have:=c.tp.lt;omega)));simp[w7,j.get,eu,fin.1];exact fin.2
 ·simp[f];refine jB cF G ⟨m,b,o,r,0⟩ ⟨⟨rfl,c,u,G⟩,G⟩ ?_;rintro _ hE ⟨e,rfl,bn,bC,aA,U⟩;simp only at bC aA U;have⟨av,ab⟩:=c.tape U aA;have eR:=av.cons (X 4 0 [e.t]);have eW:=Step.cons av.ok av.lt (X 4 0 [e.t]);simp[f];refine jB cF G ⟨m,b,o,r,1⟩ ⟨⟨rfl,eR,u,G⟩,G⟩ ?_;rintro _ eC ⟨cX,rfl,e9,fB,e4,dk⟩;simp only at fB e4 dk;have⟨fW,er⟩:=eR.tape dk e4;have eO:=((p.step ab).step eW).step er;have gE:=ab.ok.sz;have gI:=p.lt;have e8:eC.get hE.size=some (X 4 0 [e.t]):=(dk.get _ (by have:=av.tp.lt;omega)).trans G;have fC:=dk.size;simp at fC;have fv:¬Fp eC b hE.size:=λq=>by
   rcases er.fp _ q with q|q
   ·rw[jJ (show(hE.cons (X 4 0 [e.t])).get b=hE.get b by rw[fk,Z (by have:=av.lt;omega)])]at q;have:=av.fp _ q;omega
   ·simp at q;omega
  have fin:=K7 (i:=⟨m,b,o,r,d,cnt⟩) (args:=[.fc b 0 0 0,C d]) (cs:=[C 1,C 0,.str [113],.str [],.arr hE.size 0 0 1 false,C cX.op,C cX.n,.str cX.name,sl (cX.l.map fF.t),dV,dV]) (s:=G7 [113] [e] cX) eO fW (((A.trans ab).trans eW).trans er) rfl
   (.cons (iO ..) (.cons (iO ..) (.cons (lz ..) (.cons (lz ..) (.cons (.inr (.inl ⟨hE.size,0,0,1,false,[e.t],[e.t],rfl,⟨B,B,fv,O0 _⟩,by rw[iR,e8];simp,.cons (e.ft _) .nil,rfl⟩)) (.cons (iO ..) (.cons (iO ..) (.cons (lz ..) (.cons (rn _ _ _ λx bH=>by obtain⟨y,_,rfl⟩:=List.mem_map.1 bH;simp) (.cons (j9 ..) (.cons (j9 ..) .nil)))))))))))
   (GN (by simpa using bn) e9 G) (PU (by rw[fF.lq,fF.jS];omega) B)
  simp[eO.get,fin.1];exact fin.2
 ·simp[bu];refine fN (λbg=>?_) (λbg=>?_)
  ·simp at bg;obtain⟨d,rfl⟩:∃e,d=e+1:=⟨d-1,B⟩;have a8:binop .sub (C ((d:Int)+1)) (C 1)=some (C d):=by
    rw[uf,<-kv,kG B B];simp
   simp[f];refine jB cF G ⟨m,b,o,r,1⟩ ⟨⟨rfl,c,u,G⟩,G⟩ ?_;rintro _ hE ⟨e,rfl,bn,bC,aA,U⟩;simp only at bC aA U;have⟨av,ab⟩:=c.tape U aA;simp[f,bu,a8];refine jB c1 G ⟨m,b,o,r,d,1⟩ ⟨⟨rfl,av,u,dS,dS,G⟩,dS⟩ ?_;rintro v ap ⟨l,sv,E,M,O,I⟩;simp only at sv E M O I;have aN:=(p.step ab).step I;have bs:=(A.trans ab).trans I;have R:=sv.gc;have⟨ye,bi,bN,b7,ca⟩:=mY O bs (X 11 0 [.eZ [C 0,C 0,.str [],.str [],dV,C 0,C 0,.str [],dV,dV,dV]]) (X 11 1 [.eZ [C 2,C 0,.str [],.str [],dV,C e.op,C e.n,.str e.name,sl (e.l.map fF.t),v,dV]]);have bp:=b7 _ _ aN;have b9:=ca _ _ _ _ _ sv (ax _);have⟨cb,an,left,set,K,ae,aX,b6,z,g,S,hl⟩:=ye.ex;simp only[u9]at g;simp[f,R.1,R.2,g];generalize fJ (ap.cons _) ap.size _=dd at*
   refine uW G ye.tp ye.ok B B u λW bS cd t4 a6=>?_;have⟨al,a7⟩:=ye.tape a6 t4;have l4:=bi.step a7;have ec:=bp.step a7;have bW:=bN.trans a7;have gM:=ye.lt;have fE:ap.size<dd.size:=bi.lt;have e0:=b9.step a7 B;have gF:=a6.size;have gy:D.size<ap.size:=aN.lt;have eD:D.size<hE.size:=(p.step ab).lt;simp;refine fN (λfl=>?_) (λfl=>?_)
   ·simp[f,bu,a8];refine jB c1 G ⟨m,b,o,r,d,1⟩ ⟨⟨rfl,al,u,dS,dS,G⟩,dS⟩ ?_;rintro gm gz ⟨l2,et,eb,eI,mkV,Z1⟩;simp only at et eb eI mkV Z1;have eA:=et.gc;have⟨fX,fL,b8,fY,e5⟩:=YY mkV (l4.step Z1) (bW.trans Z1) B (X 11 2 [.eZ [C 2,C 0,.str [],.str [],dV,C e.op,C e.n,.str e.name,sl (e.l.map fF.t),v,gm]]);have eP:=fY _ _ B (ec.step Z1);have gd:=e5 _ _ _ _ _ (e0.step Z1 B) (.inr (ax _));have gg:=e5 _ _ _ _ _ et (.inl B);have gP:=Z1.ok.sz;have fin:=uq (cnt:=cnt) (args:=[.fc b 0 0 0,C (d+1:Nat)]) (op:=2) (nm:=[]) (e:=e) eP fX b8 (gd.cell eD dR) (gg.cell B G) (rn _ _ _ λx bH=>by obtain⟨y,_,rfl⟩:=List.mem_map.1 bH;simp) B (λ_=>bn) B (λs z=>(E s z).1) (λs z=>(eb s z).1) (by
     have cL:=Be E;have gX:=Be eb;have:=aY (wd d) M;have:=aY (wd d) eI;omega)
    simp[(l4.step Z1).get,fL.get,fG,eA.1,eA.2,eP.get,fin.1];exact fin.2
   ·have fin:=uq (cnt:=cnt) (args:=[.fc b 0 0 0,C (d+1:Nat)]) (op:=2) (nm:=[]) (e:=e) (le:=[]) ec al bW (e0.cell eD B) (j9 _ _ _ false) (rn _ _ _ λx bH=>by obtain⟨y,_,rfl⟩:=List.mem_map.1 bH;simp) B (λ_=>bn) B (λs z=>(E s z).1) G (by
     have cL:=Be E;have:=aY (wd d) M;rw[eQ.jS];omega)
    simp[l4.get,ec.get,fG,fin.1];exact fin.2
  ·simp[f];refine NJ ⟨m,b,o,r,d,cnt⟩ G c u p A λe hE j fin=>?_;simp[w7,j,λnm=>(fin [] nm).1];exact(fin _ _).2
 ·simp[bu];refine fN (λbg=>?_) (λbg=>?_)
  ·simp at bg;obtain⟨d,rfl⟩:∃e,d=e+1:=⟨d-1,B⟩;have a8:binop .sub (C ((d:Int)+1)) (C 1)=some (C d):=by
    rw[uf,<-kv,kG B B];simp
   have⟨H,F⟩:=c.set (th':=an) (left':=left) (se':=set) (tx':=K) (at2:=ae) (lp':=true) c9 S hl;simp only[u9]at H F;simp[f,g,fG];generalize fJ P b _=dv at*
   have aE:=p.step H;have bs:=A.trans H;simp[f,bu,XZ,X0,abK,a8];refine jB c1 G ⟨m,b,o,r,d,1⟩ ⟨⟨rfl,F,u,dS,dS,G⟩,dS⟩ ?_;rintro v ap ⟨l,sv,E,M,O,I⟩;simp only at sv E M O I;have aN:=aE.step I;have bN:=bs.trans I;have eh:=Step.cons O.ok O.lt (X 11 0 [(G7 [98] [] ⟨6,0,[],[⟨2,0,[98],[]⟩,⟨1,1,[],[]⟩]⟩).t]);have fE:=I.ok.sz;have⟨gk,eB,ey,eX,fP,eU,_⟩:=(sv.step eh (ax _)).app (O.cons (X 11 0 [(G7 [98] [] ⟨6,0,[],[⟨2,0,[98],[]⟩,⟨1,1,[],[]⟩]⟩).t])) (x:= .arr ap.size 0 0 1 false) (xs:=[(G7 [98] [] ⟨6,0,[],[⟨2,0,[98],[]⟩,⟨1,1,[],[]⟩]⟩).t]) (l2:=[G7 [98] [] ⟨6,0,[],[⟨2,0,[98],[]⟩,⟨1,1,[],[]⟩]⟩]) dR G (by rw[iR];simp) (.cons (eQ.ft _ _) .nil) G G dR;have bW:=eU _ (bN.trans eh) (by simpa using bs.ok.sz);have l3:=aE.step (eU _ (I.trans eh) (ax _));have R:=eX.gc;have⟨ye,bi,b8,b7,ca⟩:=mY fP bW (X 11 0 [.eZ [C 0,C 0,.str [],.str [],dV,C 0,C 0,.str [],dV,dV,dV]]) (X 11 1 [.eZ [C 3,C 0,.str [],.str [],dV,C 13,C 0,.str [],sl [(fF.mk 2 0 [98] []).t,(fF.mk 1 2 [] []).t],gk,dV]]);have bp:=b7 _ _ l3;have b9:=ca _ _ _ _ _ eX (ax _);simp only[G7]at ey;simp[f,XZ,X0,abK,w7,ey,R.1,R.2];generalize fJ (eB.cons _) eB.size _=dd at*
   have⟨cb,an,left,set,K,ae,gQ,b6,z,g,S,hl⟩:=ye.ex;have⟨L,c4⟩:=ye.set (th':=an) (left':=left) (se':=set) (tx':=K) (at2:=ae) (lp':=aX) g S hl;have fb:=aE.lt;have eK:=bi.lt;have eL:=L.ok.sz;have fin:=uq (cnt:=cnt) (args:=[.fc b 0 0 0,C (d+1:Nat)]) (op:=3) (nm:=[]) (e:=⟨13,0,[],[⟨2,0,[98],[]⟩,⟨1,2,[],[]⟩]⟩) (le:=[]) (bp.step L) c4 (b8.trans L) ((b9.step L B).cell fb B) (j9 _ _ _ false) (rn _ _ _ λx bH=>by obtain⟨y,_,rfl⟩:=List.mem_map.1 bH;simp) B (λ_=> .bin B (.nm _) (.num _)) (by simp[fF.nd,fF.lq,fF.jS]) (λs z=>(List.mem_append.1 z).elim (λq=>(E s q).1) λq=>by rw[List.mem_singleton.1 q];exact GN G (.bin B (.nm _) (.num _)) (λD=>absurd rfl D)) G (by
    have cL:=Be E;have:=aY (wd d) M;have:=PU (nm:=[98]) (ix:=[]) (e:=⟨6,0,[],[⟨2,0,[98],[]⟩,⟨1,1,[],[]⟩]⟩) (d:=d) (by rw[fF.jS];omega) (by simp[fF.nd,fF.lq,fF.jS]);rw[eQ.Mp,eQ.lq,eQ.jS];omega)
   have gT:=(bi.step L).get;have gR:=(bp.step L).get;simp only[u9]at g gT gR fin;simp[g,gT,gR,fG];simp at fin;simp[fin.1];exact fin.2
  ·simp[f];refine NJ ⟨m,b,o,r,d,cnt⟩ G c u p A λe hE j fin=>?_;simp[w7,j,λnm=>(fin [] nm).1];exact(fin _ _).2
 iterate 2
  ·by_cases J:(decide (0<d)&&decide (0<left)&& !K)=true
   ·simp at J;obtain⟨⟨bg,bA⟩,bB⟩:=J;subst bB;obtain⟨d,rfl⟩:∃e,d=e+1:=⟨d-1,B⟩;have a8:binop .sub (C ((d:Int)+1)) (C 1)=some (C d):=by
     rw[uf,<-kv,kG B B];simp
    have F:=c.cons (X 1 0 [.str [109],.str [110]]);have bX:=λ{tb:io} (ht:tb.h 216=some CJ) s=>c7 ht [.fc b 0 0 0,.str s] (P.cons (X 1 0 [.str [109],.str [110]])) ⟨m,r,b,o,s,rfl,F,B⟩;have H:=Step.cons c.ok c.lt (X 1 0 [.str [109],.str [110]]);have aE:=p.step H;have de:binop .sub (C 8) (C 8)=some (C 0):=HI B B B;have di:binop .sub (C 9) (C 8)=some (C 1):=HI B B B;simp[f,bA,bX,de,di];refine fN (λN=>?_) (λN=>?_)
    ·simp[f,bu,de,di];have fS:=F.cons (X 1 0 [.str [109],.str [110]]);have eV:=Step.cons F.ok F.lt (X 1 0 [.str [109],.str [110]]);have eN:=aE.step eV;simp[a8];refine jB eM G ⟨m,b,o,r,d,_⟩ ⟨⟨rfl,fS,u,dS,dS⟩,dS⟩ ?_;rintro v ap ⟨l,sv,E,M,O,I⟩;simp only at sv E M O I;have R:=sv.gc;have aN:=eN.step I;have fin:=λnm=>uq (cnt:=cnt) (args:=[.fc b 0 0 0,C (d+1:Nat)]) (op:=4) (nm:=nm) (e:=⟨0,0,[],[]⟩) (le:=[]) aN O (((A.trans H).trans eV).trans I) (sv.cell eN.lt (ax _)) (j9 _ _ _ false) (j9 _ _ _ false) B (λD=>by omega) (by simp[fF.nd,fF.jS]) (λs z=>(E s z).1) G (by
      have cL:=Be E;have:=aY (wd d) M;rw[eQ.jS];omega)
     simp only[fF.Ao,fF.K6,fF.sw]at fin;simp[R.1,R.2,aN.get,λnm=>(fin nm).1];exact(fin _).2
    ·simp[f];refine NJ ⟨m,b,o,r,d+1,cnt⟩ G F u aE (A.trans H) λe hE j fin=>?_;simp[w7,j,λnm=>(fin [] nm).1];exact(fin _ _).2
   ·have J:(decide (0<d)&&decide (0<left)&& !K)=false:=by simpa using J
    simp[f,J];refine NJ ⟨m,b,o,r,d,cnt⟩ G c u p A λe hE j fin=>?_;simp[w7,j,λnm=>(fin [] nm).1];exact(fin _ _).2
 iterate 2
  ·by_cases J:(decide (0<d)&&decide (0<left)&& !K)=true
   ·simp at J;obtain⟨⟨bg,bA⟩,bB⟩:=J;subst bB;obtain⟨d,rfl⟩:∃e,d=e+1:=⟨d-1,B⟩;have a8:binop .sub (C ((d:Int)+1)) (C 1)=some (C d):=by
     rw[uf,<-kv,kG B B];simp
    have bX:=λ{tb:io} (ht:tb.h 216=some CJ) s=>c7 ht [.fc b 0 0 0,.str s] P ⟨m,r,b,o,s,rfl,c,B⟩;have de:binop .sub (C 10) (C 10)=some (C 0):=HI B B B;have gi:binop .sub (C 11) (C 10)=some (C 1):=HI B B B;have gj:binop .add (C 1) (C 5)=some (C 6):=Cs B B B;have di:binop .add (C 0) (C 5)=some (C 5):=Cs B B B;simp[f,bA,bX];refine fN (λN=>?_) (λN=>?_)
    ·simp[f,bu,de,di,gi,gj,a8];refine jB eM G ⟨m,b,o,r,d,_⟩ ⟨⟨rfl,c,u,dS,dS⟩,dS⟩ ?_;rintro v ap ⟨l,sv,E,M,O,I⟩;simp only at sv E M O I;have R:=sv.gc;have aN:=p.step I;have fin:=λop (gD:op=5\/op=6) nm=>uq (cnt:=cnt) (args:=[.fc b 0 0 0,C (d+1:Nat)]) (op:=op) (nm:=nm) (e:=⟨0,0,[],[]⟩) (le:=[]) aN O (A.trans I) (sv.cell p.lt (ax _)) (j9 _ _ _ false) (j9 _ _ _ false) B (λD=>by omega) (by simp[fF.nd,fF.jS]) (λs z=>(E s z).1) G (by
      have cL:=Be E;have:=aY (wd d) M;rw[eQ.jS];omega)
     simp only[fF.Ao,fF.K6,fF.sw]at fin;simp[R.1,R.2,aN.get,λnm=>(fin 5 (.inl rfl) nm).1,λnm=>(fin 6 (.inr rfl) nm).1];exact(fin _ G _).2
    ·simp[f];refine NJ ⟨m,b,o,r,d+1,cnt⟩ G c u p A λe hE j fin=>?_;simp[w7,j,λnm=>(fin [] nm).1];exact(fin _ _).2
   ·have J:(decide (0<d)&&decide (0<left)&& !K)=false:=by simpa using J
    simp[f,J];refine NJ ⟨m,b,o,r,d,cnt⟩ G c u p A λe hE j fin=>?_;simp[w7,j,λnm=>(fin [] nm).1];exact(fin _ _).2
 ·simp;refine fN (λN=>?_) (λN=>?_)
  ·simp at N;obtain⟨⟨bg,bA⟩,bB⟩:=N;obtain⟨d,rfl⟩:∃e,d=e+1:=⟨d-1,B⟩;have a8:binop .sub (C ((d:Int)+1)) (C 1)=some (C d):=by
    rw[uf,<-kv,kG B B];simp
   have⟨H,F⟩:=c.set (th':=an) (left':=left) (se':=set) (tx':=true) (at2:=ae) (lp':=aX) c9 S hl;simp only[u9]at H F;simp[f,g,fG];generalize fJ P b _=dv at*
   have aE:=p.step H;have bs:=A.trans H;have⟨cb,an,left,set,K,ae,aX,b6,z,g,S,hl⟩:=F.ex;simp only[u9]at g;simp[g];refine uW G F.tp F.ok B B u λW bS cd t4 a6=>?_;have⟨al,a7⟩:=F.tape a6 t4;have l4:=aE.step a7;have dn:binop .add (C 1) (C W)=some (C ((1+W:Nat):Int)):=Cs G B B;simp[dn];refine jB c1 G ⟨m,b,o,r,0,1+W⟩ ⟨⟨G,al,u,G,dS,dS⟩,dS⟩ ?_;rintro v ap ⟨l,sv,E,M,O,I⟩;simp only at sv E M O I;replace M:l.length<=2:=B;replace sv:=sv.deep (show 2*0+2<=2*d+2 by omega);replace E:∀s∈l,MS s/\s.w<=wd d:=λs z=>⟨(E s z).1,aU (E s z).2 (acZ d)⟩;have aN:=l4.step I;have bW:=(bs.trans a7).trans I;have R:=sv.gc;have⟨ye,bi,b8,b7,ca⟩:=mY O bW (X 11 0 [.eZ [C 0,C 0,.str [],.str [],dV,C 0,C 0,.str [],dV,dV,dV]]) (X 11 1 [.eZ [C 7,C 0,.str [],.str [],dV,C 0,C 0,.str [],dV,v,dV]]);have bp:=b7 _ _ aN;have b9:=ca _ _ _ _ _ sv (ax _);simp[f,R.1,R.2];generalize fJ (ap.cons _) ap.size _=dd at*
   have⟨cb,an,left,set,K,ae,aX,b6,z,g,S,hl⟩:=ye.ex;have⟨L,c4⟩:=ye.set (th':=an) (left':=left) (se':=set) (tx':=false) (at2:=ae) (lp':=aX) g S hl;have eK:=bi.lt;have eL:=L.ok.sz;have fin:=uq (cnt:=cnt) (args:=[.fc b 0 0 0,C (d+1:Nat)]) (op:=7) (nm:=[]) (e:=⟨0,0,[],[]⟩) (le:=[]) (bp.step L) c4 (b8.trans L) ((b9.step L B).cell l4.lt B) (j9 _ _ _ false) (j9 _ _ _ false) B (λD=>by omega) (by simp[fF.nd,fF.jS]) (λs z=>(E s z).1) G (by
    have cL:=Be E;have:=aY (wd d) M;rw[eQ.jS];omega)
   have gT:=(bi.step L).get;have gR:=(bp.step L).get;simp only[u9,fF.Ao,fF.K6,fF.sw]at g gT gR fin;simp[g,gT,gR,fG,fin.1];exact fin.2
  ·simp[f];refine NJ ⟨m,b,o,r,d,cnt⟩ G c u p A λe hE j fin=>?_;simp[w7,j,λnm=>(fin [] nm).1];exact(fin _ _).2
 ·simp[f,g];refine fN (λN=>?_) (λN=>?_)
  ·simp at N;obtain⟨⟨⟨bg,bA⟩,bB⟩,eF⟩:=N;obtain⟨d,rfl⟩:∃e,d=e+1:=⟨d-1,B⟩;have a8:binop .sub (C ((d:Int)+1)) (C 1)=some (C d):=by
    rw[uf,<-kv,kG B B];simp
   have⟨H,F⟩:=c.set (th':=an) (left':=left) (se':=set) (tx':=K) (at2:=true) (lp':=aX) c9 S hl;simp only[u9]at H F;simp[f,bu,g,fG,a8];generalize fJ P b _=dv at*
   have aE:=p.step H;have bs:=A.trans H;refine jB c1 G ⟨m,b,o,r,d,2⟩ ⟨⟨rfl,F,u,dS,dS,G⟩,dS⟩ ?_;rintro v ap ⟨l,sv,E,M,O,I⟩;simp only at sv E M O I;have aN:=aE.step I;have bW:=bs.trans I;have R:=sv.gc;have⟨ye,bi,b8,b7,ca⟩:=mY O bW (X 11 0 [.eZ [C 0,C 0,.str [],.str [],dV,C 0,C 0,.str [],dV,dV,dV]]) (X 11 1 [.eZ [C 8,C 0,.str [],.str [],dV,C 0,C 0,.str [],dV,v,dV]]);have bp:=b7 _ _ aN;have b9:=ca _ _ _ _ _ sv (ax _);simp[f,R.1,R.2];generalize fJ (ap.cons _) ap.size _=dd at*
   have⟨cb,an,left,set,K,ae,aX,b6,z,g,S,hl⟩:=ye.ex;have⟨L,c4⟩:=ye.set (th':=an) (left':=left) (se':=set) (tx':=K) (at2:=false) (lp':=aX) g S hl;have eK:=bi.lt;have eL:=L.ok.sz;have fin:=uq (cnt:=cnt) (args:=[.fc b 0 0 0,C (d+1:Nat)]) (op:=8) (nm:=[]) (e:=⟨0,0,[],[]⟩) (le:=[]) (bp.step L) c4 (b8.trans L) ((b9.step L B).cell aE.lt B) (j9 _ _ _ false) (j9 _ _ _ false) B (λD=>by omega) (by simp[fF.nd,fF.jS]) (λs z=>(E s z).1) G (by
    have cL:=Be E;have:=aY (wd d) M;rw[eQ.jS];omega)
   have gT:=(bi.step L).get;have gR:=(bp.step L).get;simp only[u9,fF.Ao,fF.K6,fF.sw]at g gT gR fin;simp[g,gT,gR,fG,fin.1];exact fin.2
  ·simp[f];refine NJ ⟨m,b,o,r,d,cnt⟩ G c u p A λe hE j fin=>?_;simp[w7,j,λnm=>(fin [] nm).1];exact(fin _ _).2
 ·by_cases J:(decide (0<d)&&decide (0<left)&& !K&& !ae)=true
  ·simp at J;obtain⟨⟨⟨bg,bA⟩,bB⟩,eF⟩:=J;subst bB;subst eF;obtain⟨d,rfl⟩:∃e,d=e+1:=⟨d-1,B⟩;have bX:=λ{tb:io} (ht:tb.h 216=some CJ) s=>c7 ht [.fc b 0 0 0,.str s] P ⟨m,r,b,o,s,rfl,c,B⟩;simp[f,g,bA,bX];refine fN (λN=>?_) (λN=>?_)
   ·simp[X0,w7];have ea:(D.size=P.size)=False:=by have:=p.lt;simp;omega
    have sv:=SV.lit (d:=2*d+2) (l:=[Ed 9,G7 [97] [] ⟨2,0,[120],[]⟩]) (es:=[.eZ [C 9,C 0,.str [99],.str [],dV,C 0,C 0,.str [],dV,dV,dV],(G7 [97] [] ⟨2,0,[120],[]⟩).t]) c (λ_ _=> .cons (US _ _) (.cons (eQ.ft _ _) .nil));have c6:=Step.cons c.ok c.lt (X 11 0 [.eZ [C 9,C 0,.str [99],.str [],dV,C 0,C 0,.str [],dV,dV,dV],(G7 [97] [] ⟨2,0,[120],[]⟩).t]);have ed:=p.step c6;have fin:=uq (cnt:=cnt) (args:=[.fc b 0 0 0,C (d+1:Nat)]) (op:=4) (nm:=[109]) (e:=⟨0,0,[],[]⟩) (le:=[]) ed (c.cons _) (A.trans c6) (sv.cell p.lt G) (j9 _ _ _ false) (j9 _ _ _ false) B (λD=>by omega) (by simp[fF.nd,fF.jS]) (λs z=>by
     rcases List.mem_cons.1 z with rfl|z
     ·exact UR B
     ·rw[List.mem_singleton.1 z];exact GN G (.nm _) (λD=>absurd rfl D)) G (by
     have:=EJ d;simp[eQ.lq,eQ.jS,Zx,G7,eQ.nd (eQ.mk 1 0 [97] [] [] (fF.mk 2 0 [120] []) [] []),fF.nd,fF.jS];omega)
    simp only[fF.Ao,fF.K6,fF.sw,G7]at fin;simp at fin;simp[ea,p.get,fin.1];exact fin.2
   ·simp[f];refine NJ ⟨m,b,o,r,d+1,cnt⟩ G c u p A λe hE j fin=>?_;simp[w7,j,λnm=>(fin [] nm).1];exact(fin _ _).2
  ·have J:(decide (0<d)&&decide (0<left)&& !K&& !ae)=false:=by simpa using J
   simp[f,g,J];refine NJ ⟨m,b,o,r,d,cnt⟩ G c u p A λe hE j fin=>?_;simp[w7,j,λnm=>(fin [] nm).1];exact(fin _ _).2
 ·by_cases J:(decide (0<d)&&decide (0<left)&& !K)=true
  ·simp at J;obtain⟨⟨bg,bA⟩,bB⟩:=J;subst bB
   skip
   obtain⟨d,rfl⟩:∃e,d=e+1:=⟨d-1,B⟩;have bX:=λ{tb:io} (ht:tb.h 216=some CJ) s=>c7 ht [.fc b 0 0 0,.str s] P ⟨m,r,b,o,s,rfl,c,B⟩;simp[f,bA,bX];refine fN (λN=>?_) (λN=>?_)
   ·simp[f,g];refine uW G c.tp c.ok B B u λW bS cd t4 a6=>?_;have⟨al,a7⟩:=c.tape a6 t4;have l4:=p.step a7;have dn:binop .add (C 10) (C W)=some (C (10+W)):=Cs G B B;simp[dn];have ea:(D.size=bS.size)=False:=by have:=l4.lt;simp;omega
    have sv:=SV.lit (d:=2*d+2) (l:=[Ed (10+W)]) (es:=[.eZ [C (10+W),C 0,.str [99],.str [],dV,C 0,C 0,.str [],dV,dV,dV]]) al (λ_ _=> .cons (US _ _) .nil);have c6:=Step.cons al.ok al.lt (X 11 0 [.eZ [C (10+W),C 0,.str [99],.str [],dV,C 0,C 0,.str [],dV,dV,dV]]);have ed:=l4.step c6;have fin:=uq (cnt:=cnt) (args:=[.fc b 0 0 0,C (d+1:Nat)]) (op:=4) (nm:=[109]) (e:=⟨0,0,[],[]⟩) (le:=[]) ed (al.cons _) ((A.trans a7).trans c6) (sv.cell l4.lt G) (j9 _ _ _ false) (j9 _ _ _ false) B (λD=>by omega) (by simp[fF.nd,fF.jS]) (λs z=>by rw[List.mem_singleton.1 z];exact UR B) G (by
     have:=EJ d;simp[eQ.lq,eQ.jS,Zx];omega)
    simp only[fF.Ao,fF.K6,fF.sw]at fin;simp at fin;simp[ea,l4.get,fin.1];exact fin.2
   ·simp[f];refine NJ ⟨m,b,o,r,d+1,cnt⟩ G c u p A λe hE j fin=>?_;simp[w7,j,λnm=>(fin [] nm).1];exact(fin _ _).2
  ·have J:(decide (0<d)&&decide (0<left)&& !K)=false:=by simpa using J
   simp[f,J];refine NJ ⟨m,b,o,r,d,cnt⟩ G c u p A λe hE j fin=>?_;simp[w7,j,λnm=>(fin [] nm).1];exact(fin _ _).2
 ·simp[f,g];refine fN (λN=>?_) (λN=>?_)
  ·have⟨H,F⟩:=c.set (th':=an) (left':=left) (se':=true) (tx':=K) (at2:=ae) (lp':=aX) c9 S hl;simp only[u9]at H F;simp[f,g,fG];generalize fJ P b _=dv at*
   have aE:=p.step H;have bs:=A.trans H;refine jB cF G ⟨m,b,o,r,1⟩ ⟨⟨rfl,F,u,G⟩,G⟩ ?_;rintro _ hE ⟨e,rfl,bn,bC,aA,U⟩;simp only at bC aA U;have⟨av,ab⟩:=F.tape U aA;have j:=aE.step ab;have fin:=K7 (i:=⟨m,b,o,r,d,cnt⟩) (args:=[.fc b 0 0 0,C d]) (cs:=[C 14,C 0,.str [102],.str [],dV,C e.op,C e.n,.str e.name,sl (e.l.map fF.t),dV,dV]) (s:=⟨14,0,[102],[],[],e,[],[]⟩) j av (bs.trans ab) rfl
    (.cons (iO ..) (.cons (iO ..) (.cons (lz ..) (.cons (lz ..) (.cons (j9 ..) (.cons (iO ..) (.cons (iO ..) (.cons (lz ..) (.cons (rn _ _ _ λx bH=>by obtain⟨y,_,rfl⟩:=List.mem_map.1 bH;simp) (.cons (j9 ..) (.cons (j9 ..) .nil)))))))))))
    (.mk (λD=>by simp at D) (λD=>by simp at D) G (λ_=>bn) G G) (by
      have:=EJ d;rw[eQ.nd];simp only[eQ.uR,eQ.NQ,eQ.xO,eQ.A1,eQ.jS,fF.jS];omega)
   simp[j.get,fin.1];exact fin.2
  ·simp[f];refine NJ ⟨m,b,o,r,d,cnt⟩ G c u p A λe hE j fin=>?_;simp[w7,j,λnm=>(fin [] nm).1];exact(fin _ _).2
 ·cases K with
  |true=>
   simp[f,g];refine NJ ⟨m,b,o,r,d,cnt⟩ G c u p A λe hE j fin=>?_;simp[w7,j,λnm=>(fin [] nm).1];exact(fin _ _).2
  |false=>
   simp[f,g];refine uW G c.tp c.ok B B u λW bS cd t4 a6=>?_;have⟨al,a7⟩:=c.tape a6 t4;have l4:=p.step a7;have bN:=A.trans a7;simp;refine fN (λN=>?_) (λN=>?_)
   ·have fin:=K7 (i:=⟨m,b,o,r,d,cnt⟩) (args:=[.fc b 0 0 0,C d]) (cs:=[C 15,C 0,.str [97],.str [102],dV,C 0,C 0,.str [],dV,dV,dV]) (s:=⟨15,0,[97],[102],[],⟨0,0,[],[]⟩,[],[]⟩) l4 al bN rfl
     (.cons (iO ..) (.cons (iO ..) (.cons (lz ..) (.cons (lz ..) (.cons (j9 ..) (.cons (iO ..) (.cons (iO ..) (.cons (lz ..) (.cons (j9 ..) (.cons (j9 ..) (.cons (j9 ..) .nil)))))))))))
     (.mk (λD=>by simp at D) (λD=>by simp at D) G (λD=>by simp at D) G G) (by
       have:=EJ d;rw[eQ.nd,fF.nd];simp only[eQ.uR,eQ.NQ,eQ.xO,eQ.A1,eQ.jS,fF.jS,fF.I8];omega)
    simp[l4.get,fin.1];exact fin.2
   ·simp[f];refine NJ ⟨m,b,o,r,d,cnt⟩ G al u l4 bN λe hE j fin=>?_;simp[w7,j,λnm=>(fin [] nm).1];exact(fin _ _).2
def ah1(a:Nat):(rMs a).Ok prog cx 132:=
 z9 (λc:VX=>c.d) (λa b=>aeN (a+1) (aeM a b (afM a b))) a
