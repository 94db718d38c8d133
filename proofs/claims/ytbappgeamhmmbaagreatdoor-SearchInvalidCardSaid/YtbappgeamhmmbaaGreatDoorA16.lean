/- W01b -/
import Derived.Test.YtbappgeamhmmbaaGreatDoorA15
set_option linter.all false
set_option maxRecDepth 100000
set_option maxHeartbeats 0
namespace Go.Proofs.YtbappgeamhmmbaaGreatDoor
noncomputable section
open Go Go.TI Tryz
attribute [-simp] List.map_take List.map_drop List.map_append fj ez TI.d8 Bool.not_or Bool.not_and
attribute [simp] fh eG
def rC(b:Nat)(e left:Int)(set f a d:Bool)(c:T):List T:=[.ptr b 0 0 0,D e,D left,.bool set,.bool f,.bool a,.bool d,c]
structure Mk(L:List Int)(n:Nat)(h:H)(m b:Nat):Prop where
 ok:gH 0 h
 fp:∀c,Fp h m c->c<h.size
 tp:Tp L b h
 ex:∃ver th left set tx at' lp hv,∃hs:List (List Nat),h.get m=some (Z 8 ver [.agg (rC b th left set tx at' lp hv)])/\Gr h hv 1 (hs.map T.str)/\hs.length=n
def Mk.ne{e:List Int}{h:Nat}{g:H}{d b:Nat}(c:Mk e h g d b):d≠b:=λi=>by
 have⟨k,j,f,_⟩:=c.tp;have⟨_,_,_,_,_,_,_,_,_,a,_⟩:=c.ex;rw[i,f]at a;simp at a
def Mk.lt{c:List Int}{f:Nat}{b:H}{a d:Nat}(e:Mk c f b a d):a<b.size:=e.fp a (.inl rfl)
def Mk.fpb{d:List Int}{g:Nat}{b:H}{c a:Nat}(f:Mk d g b c a):Fp b c a:=by
 have⟨_,_,_,_,_,_,_,_,_,e,_⟩:=f.ex;exact .inr ⟨_,e,_,by simp[eY,T.cells,rC];exact .inl rfl,rfl⟩
def Mk.tape{i:List Int}{m:Nat}{h e:H}{d g:Nat}(f:Mk i m h d g)(a:Sm g h e)(v:Tp i g e):Mk i m e d g/\Step d h e:=by
 have j:e.get d=h.get d:=a.get d f.ne;have⟨z,E,p,_⟩:=f.tp;have⟨y,w,left,set,x,o,u,t,s,q,l,hl⟩:=f.ex;refine⟨⟨a.ok,λc b=>by rw[iL j]at b;rw[a.size];exact f.fp c b,v,y,w,left,set,x,o,u,t,s,by rw[j];exact q,l.mono λc b=>a.get c λk=>?_,hl⟩,⟨a.ok.hp,a.ok.low,by rw[a.size];exact au _⟩,λc _ r=>a.get c λk=>r (by rw[k];exact f.fpb),λc b=>by rw[iL j]at b;exact .inl b⟩;have⟨A,z,C,F,n,_⟩:=l.box b;rw[k,p]at n;simp at n
structure Tw(L:List Int)(b:Nat)(h h':H):Prop where
 ok:gH 0 h'
 size:h.size<=h'.size
 get:∀c,c<h.size->c≠b->h'.get c=h.get c
 tp:Tp L b h'
def Tw.refl{b:List Int}{c:Nat}{a:H}(d:gH 0 a)(e:Tp b c a):Tw b c a a:=⟨d,au _,λ_ _ _=>rfl,e⟩
def Tp.lt{c:List Int}{a:Nat}{b:H}(e:Tp c a b):a<b.size:=by
 obtain⟨_,_,d,_⟩:=e;exact H.ej d
def Tp.eq{b:List Int}{a:Nat}{c d:H}(i:Tp b a c)(f:d.get a=c.get a):Tp b a d:=by
 obtain⟨j,g,e,h⟩:=i;exact⟨j,g,by rw[f];exact e,h⟩
theorem Tw.cons{a:List Int}{b:Nat}{c d:H}(w:Tw a b c d)(e:iI):Tw a b c (d.cons e):=
 ⟨w.ok.cons e,by have:=w.size;simp;omega,λf g h=>by rw[dO,ao (by have:=w.size;omega)];exact w.get f g h,w.tp.eq (by rw[dO,ao (by have:=w.tp.lt;omega)])⟩
theorem Tw.put{f:List Int}{d:Nat}{a e:H}(b:Tw f d a e){c:Nat}{x:iI}(g:e.get c=some x)(m:a.size<=c)(l:d<a.size)(h:iI):Tw f d a (dT e c h):=
 ⟨b.ok.put c h,by rw[fI];exact b.size,λi j k=>by rw[dF g,ao B];exact b.get i j k,b.tp.eq (by rw[dF g,ao B])⟩
def Tw.call{b:List Int}{a:Nat}{f g c:H}(i:Tw b a f g)(d:Sm a g c)(k:Tp b a c):Tw b a f c:=
 ⟨d.ok,by rw[d.size];exact i.size,λe j h=>(d.get e h).trans (i.get e j h),k⟩
def Tw.cut{j:List Int}{e:Nat}{a d:H}(b:Tw j e (TI.hr a) d)(A:gH 0 a)(v:e<a.size){p q:T}{o:T->H->Prop}(x:∃i,iZ d a.size p=some i/\cn i=q)
 (z:Sm e a (tM a d)->Tp j e (tM a d)->o q (tM a d)):xK a p d o:=by
 obtain⟨i,u,rfl⟩:=x;have h:a.size<=d.size:=b.size;refine⟨b.ok.hp,h,λc C w l=>?_,i,u,z ⟨A.cut b.ok.hp h,rfl,λc y=>?_⟩ (b.tp.eq (yM b.ok.hp h v))⟩
 ·by_cases f:c=e
  ·have⟨r,F,t,_⟩:=b.tp;rw[f,t]at l;cases l;refine .inr λr k=>(Ca r ?_).mono (aw _);simp[eY,T.cells]at k;rcases k with rfl|rfl<;>simp
  ·exact .inl ((b.get c w f).trans (gu a c))
 ·by_cases f:c<a.size
  ·rw[yM b.ok.hp h f,b.get c f y,gu]
  ·have m:∀g:H,g.size=a.size->g.get c=none:=λg E=>by
    cases s:g.get c with
    |none=>rfl
    |some C=>have:=H.ej s;omega
   rw[m (tM a d) rfl,m a rfl]
def Mk.tw{h:List Int}{m:Nat}{a f:H}{b i:Nat}(c:Mk h m a b i)(d:Tw h i (TI.hr a) f):Mk h m f b i:=by
 have l:f.get b=a.get b:=(d.get b c.lt c.ne).trans (gu a b);have⟨x,C,o,_⟩:=c.tp;have⟨w,u,left,set,v,n,s,r,q,p,k,hl⟩:=c.ex;have A:a.size<=f.size:=d.size;refine⟨d.ok,λe g=>by rw[iL l]at g;have:=c.fp e g;omega,d.tp,w,u,left,set,v,n,s,r,q,by rw[l];exact p,k.mono λe g=>?_,hl⟩;have⟨y,x,z,E,j,_⟩:=k.box g;exact(d.get e (H.ej j) λt=>by rw[t,o]at j;simp at j).trans (gu a e)
def rh{g:fw}{l:Nat}{e:List Int}{b:Nat}{d:Int}{f:H}{m:af Oper}{j:aa Tmp}{k:List Oper}{o n:fH}{i:iq}(ht:g.h 64=some (jr yX tW qM))(y:Tp e b f)(u:gH 0 f)(q:1<=d)(r:d<=100)(s:okB e)
 (p:∀(a:Nat) c,(a:Int)<d->Tp e b c->Sm b f c->XK (some (D a,c)) cx (pK prog cx g) l m j k o n i):XK (hl prog cx g 64 [.ptr b 0 0 0,D d] f) cx (pK prog cx g) l m j k o n i:=
 iD NN ht ⟨e,b,d⟩ ⟨rfl,y,u,q,r,s⟩ (by
  rintro _ c ⟨a,rfl,z,v,w,x⟩;obtain⟨a,rfl⟩:∃t:Nat,a=t:=⟨a.toNat,B⟩;exact p a c v w x)
def Jc{i:fw}{p:Nat}{f:List Int}{c:Nat}{e:Int}{b:H}{r:af Oper}{k:List (Nat×Nat)}{l:aa Tmp}{q:Op}{n:List Oper}{g:Nat}{o:List (Nat×Nat)}{m:List (Nat×H×H)}{t s:fH}{j:iq}(ht:i.h 64=some (jr yX tW qM))(E:Tp f c b)(y:gH 0 b)(v:1<=e)(w:e<=100)(x:okB f)
 (u:∀(a:Nat) d,(a:Int)<e->Tp f c d->Sm c b d->Mi (some (D a,d)) cx (pK prog cx i) p r k l q n g o m t s b j):Mi (hl prog cx i 64 [.ptr c 0 0 0,D e] b) cx (pK prog cx i) p r k l q n g o m t s b j:=
 lO NN ht ⟨f,c,e⟩ ⟨rfl,E,y,v,w,x⟩ (by
  rintro _ d ⟨a,rfl,F,z,A,C⟩;obtain⟨a,rfl⟩:∃g:Nat,a=g:=⟨a.toNat,B⟩;exact u a d z A C)
def dL.ft{b:H}{V:Nat->Prop}(a:dL)(d:Nat):FT b V (d+2) a.t a.t:= .inr (.inr ⟨_,_,a.mS,.cons (fZ ..) (.cons (fZ ..) (.cons (jU ..) (.cons (oy _ _ _ λe c=>by obtain⟨f,_,rfl⟩:=List.mem_map.1 c;simp) .nil))),a.mS⟩)
structure Sd where
 (L:List Int) (m b n d:Nat)
def U7(a:Sd)(c:List T)(e:H):Prop:=c=[.ptr a.m 0 0 0,D a.d]/\Mk a.L a.n e a.m a.b/\okB a.L/\a.d<=10
def JN(a:Sd)(h:List T)(f:H)(g:T)(e:H):Prop:=∃c:dL,g=c.t/\ME c/\c.w<=3^a.d/\Tp a.L a.b e/\Sm a.b f e
def E7{f:List Int}{m e n d:Nat}{b c:H}{z:iI}{a k:Int}{s:List Nat}{v:T}{l:List dL}{args:List T}(q:gH 0 b)(h:e<b.size)(y:Tw f e (TI.hr b) c)(g:c.get b.size=some z)
 (o:FT (dT c b.size (Z 4 1 [.agg [D a,D k,.str s,v]])) (λi=>b.size<=i) 11 v (sl (l.map dL.t))) (j:ME ⟨a,k,s,l⟩) (p:(dL.mk a k s l).w<=3^d):
 (dT c b.size (Z 4 1 [.agg [D a,D k,.str s,v]])).get b.size=some (Z 4 1 [.agg [D a,D k,.str s,v]])/\
 xK b (.agg [D a,D k,.str s,v]) (dT c b.size (Z 4 1 [.agg [D a,D k,.str s,v]])) (JN ⟨f,m,e,n,d⟩ args b):=
 ⟨(dF g _ _).trans (aq rfl),(y.put g (au _) h _).cut q h (FT.top (au 11) (λ_ r=>r) (.cons (fZ ..) (.cons (fZ ..) (.cons (jU ..) (.cons o .nil))))) λu x=>⟨⟨a,k,s,l⟩,(dL.mS ⟨a,k,s,l⟩).symm,j,p,x,u⟩⟩
abbrev K1(e:Nat):kI:=jr Sd (λa b c=>U7 a b c/\a.d<e) JN
def OO(k:Nat)(S:(K1 k).Ok prog cx 227):(K1 (k+1)).Ok prog cx 227:=by
 refine p9 (tb:=⟨pt [(133,Ia),(229,K0),(228,K2)],ht [(64,jr yX tW qM),(227,K1 k)]⟩) iB gW (iP 35186519589107 [(10,[(8,13),(9,13),(8,17),(9,17)])] func227) (λ_ _=>5) (λi a g bz=>by obtain⟨⟨rfl,_⟩,_⟩:=bz;simp[f227]) ?_;rintro⟨L,m,C,n,d⟩ _ g ⟨⟨rfl,e,w,bk⟩,bl⟩ dd al;simp only at e w bk bl;simp at al;obtain⟨b,c⟩:=al;have⟨c9,c6,left,set,c7,b7,c4,cp,ce,M,b8,hl⟩:=e.ex;simp only[rC]at M;have bu:=e.lt;have bn:(m=g.size)=False:=dp;have bs:(m=g.size+1)=False:=dp;simp[f227,b,c,M,bn,bs];have K:=((Tw.refl e.ok.hr (e.tp.eq (gu g C))).cons (Z 4 0 [.agg [D 0,D 0,.str [],dw]])).cons (Z 1 0 [.str [97],.str [98],.str [120],.str [121],.str [118],.str [120],.str [121]]);refine rh J K.tp K.ok B B w λc1 r ca t2 G=>?_;have F:=e.tp.lt;have h:=K.call G t2;have gR:r.get g.size=some (Z 4 0 [.agg [D 0,D 0,.str [],dw]]):=(G.get _ B).trans J;have gN:r.get (g.size+1)=some (Z 1 0 [.str [97],.str [98],.str [120],.str [121],.str [118],.str [120],.str [121]]):=(G.get _ B).trans J;have N:=((h.get m bu e.ne).trans (gu g m)).trans M;clear G K;simp[b,c];refine dV (λQ=>?_) (λQ=>?_)
 ·simp[b,c,N];refine rh J h.tp h.ok B B w λj u _ t3 o=>?_;have p:=h.call o t3;have gR:=(o.get _ B).trans gR;have fin:=E7 (m:=m) (n:=n) (d:=d) (v:=sl []) (l:=[]) (args:=[.ptr m 0 0 0,D d]) e.ok F p gR (oy _ _ _ J) (.num j) (by rw[dL.kQ];simp only[dL.EP,dL.iJ];exact Nat.pow_pos B);simp[b,c,RQ,gR,fin.1];exact fin.2
 simp[b,c];refine dV (λO=>?_) (λO=>?_)
 ·simp[b,c,N,gN];refine rh J h.tp h.ok B B w λj u an t3 o=>?_;have p:=h.call o t3;have gR:=(o.get _ B).trans gR;have gN:=(o.get _ B).trans gN;have q:∃s:List Nat,([.str [97],.str [98],.str [120],.str [121],.str [118],.str [120],.str [121]]:List T)[j]? =some (.str s):=by
   rcases(by omega:j=0\/j=1\/j=2\/j=3\/j=4\/j=5\/j=6)with rfl|rfl|rfl|rfl|rfl|rfl|rfl<;>exact⟨_,rfl⟩
  obtain⟨s,q⟩:=q;generalize([.str [97],.str [98],.str [120],.str [121],.str [118],.str [120],.str [121]]:List T)=aN at gN q;have fin:=E7 (m:=m) (n:=n) (d:=d) (v:=sl []) (l:=[]) (args:=[.ptr m 0 0 0,D d]) e.ok F p gR (oy _ _ _ J) (.nm s) (by rw[dL.kQ];simp only[dL.EP,dL.iJ];exact Nat.pow_pos B);have an:j<7:=B;simp[b,c,gN,an,q,Pn,gR,fin.1];exact fin.2
 ·simp[b,c];refine dV (λP=>?_) (λP=>?_)
  ·simp[b,c];simp at O Q P;refine iD S J ⟨L,m,C,n,0⟩ ⟨⟨rfl,e.tw h,w,J⟩,dq⟩ ?_;rintro _ u ⟨f,rfl,a7,bC,t3,o⟩;simp only at bC t3 o;have p:=h.call o t3;have gR:=(o.get _ B).trans gR;have cb:=H.ej gR;have R:(g.size=u.size)=False:=dp;have E:(u.cons (Z 4 0 [f.t])).get g.size=_:=(by rw[dO,ao B]:(u.cons (Z 4 0 [f.t])).get g.size=u.get g.size).trans gR;have fin:=E7 (m:=m) (n:=n) (d:=d) (a:=3) (k:=0) (s:=[113]) (v:= .arr u.size 0 0 1 false) (l:=[f]) (args:=[.ptr m 0 0 0,D d]) e.ok F (p.cons (Z 4 0 [f.t])) E
    (.inr (.inl ⟨u.size,0,0,1,false,[f.t],[f.t],rfl,B,by rw[gh,dF E,ao B,dO,aq rfl];simp,.cons (f.ft 8) .nil,rfl⟩)) (.ix a7) (by
      have:3^1<=3^d:=Nat.pow_le_pow_right B B;rw[dL.kQ];simp only[dL.EP,dL.jR,dL.iJ];omega)
   simp[b,c,gR,R,fin.1];exact fin.2
  simp at O Q P;obtain⟨d,rfl⟩:∃f,d=f+1:=⟨d-1,B⟩;have R:(m=r.size)=False:=by have:=h.size;simp at this;simp;omega
  have U:IntKind.i64.wrap d=(d:Int):=by rw[<-jv];exact jD B B
  simp[b,c,R,N,tQ,U];have p:=h.cons (Z 1 0 [D 6,D 7,D 8,D 11,D 13,D 17]);refine Jc J p.tp p.ok B B w λx y ap t4 I=>?_;have aA:=p.call I t4;have cL:r.size+1=y.size:=by rw[I.size];simp
  have b9:=h.tp.lt;have gO:y.get r.size=some (Z 1 0 [D 6,D 7,D 8,D 11,D 13,D 17]):=(I.get _ B).trans J;have E:y.get g.size=_:=((I.get _ B).trans (by rw[dO,ao (by have:=H.ej gR;omega)])).trans gR;have q:∃s:Int,([D 6,D 7,D 8,D 11,D 13,D 17]:List T)[x]? =some (D s)/\6<=s:=by
   rcases(by omega:x=0\/x=1\/x=2\/x=3\/x=4\/x=5)with rfl|rfl|rfl|rfl|rfl|rfl<;>exact⟨_,rfl,B⟩
  obtain⟨s,q,bB⟩:=q;generalize([D 6,D 7,D 8,D 11,D 13,D 17]:List T)=aN at*
  have ap:x<6:=B;simp[b,c,gO,q,ap,tQ,U];refine lO S J ⟨L,m,C,n,d⟩ ⟨⟨rfl,e.tw aA,w,dq⟩,dq⟩ ?_;rintro _ X ⟨f,rfl,a8,bH,t5,z⟩;simp only at bH t5 z;have aE:=aA.call z t5;have aX:=(z.get _ B).trans E;have av:em y X r.size=true:=eQ (z.get _ B);simp[b,c,tQ,U,av];refine lO S J ⟨L,m,C,n,d⟩ ⟨⟨rfl,e.tw aE,w,dq⟩,dq⟩ ?_;rintro _ ae ⟨V,rfl,bi,bN,t6,A⟩;simp only at bN t6 A;have b6:=aE.call A t6;have W:=(A.get _ B).trans aX;have bT:em X ae r.size=true:=eQ (A.get _ B);have bS:em y ae r.size=true:=eQ ((A.get _ B).trans (z.get _ B));have fin:=E7 (m:=m) (n:=n) (d:=d+1) (a:=s) (k:=0) (s:=[]) (v:=sl [f.t,V.t]) (l:=[f,V]) (args:=[.ptr m 0 0 0,D (d+1:Nat)]) e.ok F b6 W (oy _ _ _ J) (.bin bB a8 bi) (by
   have:=Nat.pow_pos (n:=d) (show 0<3 by omega);rw[dL.kQ,Nat.pow_succ];simp only[dL.EP,dL.jR,dL.iJ];omega)
  simp[b,c,WM,av,bT,bS,W,fin.1];exact fin.2
def Gm(a:Nat):(K1 a).Ok prog cx 227:=yY (λb:Sd=>b.d) OO a
def Nw(d c:Nat)(b:H)(e:Nat)(f:T)(a:Nat):Prop:=d<=a/\a<c/\¬Fp b e a/\dM f≠some a
def JX(a:Nat):dM .jQ≠some a:=by show(none:aa Nat)≠some a;simp
def SV(f e:Nat)(b:H)(g h:Nat)(c:T)(i:List dH):Prop:=∃d,Gr b c 11 d/\ir (FT b (Nw f e b g c) (h+2)) d (i.map dH.t)/\∀a,dM c=some a->f<=a/\a<e/\¬Fp b g a
theorem SV.nil(d c:Nat)(b:H)(e a:Nat):SV d c b e a dw []:=⟨[],Gr.nil _ _,.nil,λg f=>by simp at f⟩
def SV.same{i h m k:Nat}{f g:H}{d j:Nat}{n:T}{l:List dH}(r:SV i h f d j n l)(v:m<=i)(w:h<=k)(c:∀a,i<=a->a<h->¬Fp f d a->g.get a=f.get a/\¬Fp g d a):SV m k g d j n l:=by
 obtain⟨p,q,o,e⟩:=r;refine⟨p,q.mono λa b=>(c a (e a b).1 (e a b).2.1 (e a b).2.2).1,o.ft λa b=>⟨⟨by have:=b.1;omega,by have:=b.2.1;omega,(c a b.1 b.2.1 b.2.2.1).2,b.2.2.2⟩,(c a b.1 b.2.1 b.2.2.1).1⟩,λa b=>?_⟩;have⟨s,t,u⟩:=e a b;exact⟨B,B,(c a s t u).2⟩
def SV.step{i b:Nat}{a f:H}{c e:Nat}{l:T}{h:List dH}(m:SV i b a c e l h)(k:Step c a f)(o:b<=a.size):SV i b f c e l h:=
 m.same (au _) (au _) λd _ n g=>⟨k.get d B g,λj=>(k.fp d j).elim g λj=>by omega⟩
def SV.wide{f c g d:Nat}{b:H}{h a:Nat}{i:T}{e:List dH}(l:SV f c b h a i e)(j:g<=f)(k:c<=d):SV g d b h a i e:=l.same j k λ_ _ _ m=>⟨rfl,m⟩
def SV.box{e d:Nat}{i:H}{l h:Nat}{g:T}{k:List dH}(c:SV e d i l h g k){a:Nat}(j:e<=a/\a<d->False):dM g≠some a:=λf=>by
 obtain⟨_,_,_,c⟩:=c;exact j ⟨(c a f).1,(c a f).2.1⟩
def SV.ry{f e:Nat}{b:H}{c g:Nat}{i:T}{h:List dH}(l:SV f e b c g i h){a:Nat}{m:iI}(d:Lb c b a m)(q:a<f\/e<=a)(j:iI):SV f e (dT b a j) c g i h:=
 l.same (au _) (au _) λn o p k=>⟨by rw[dF d.get,ao B],by rw[iL (show(dT b a j).get c=b.get c by rw[dF d.get,ao (aW d.ne)])];exact k⟩
def SV.ft{i h:Nat}{e:H}{j d:Nat}{k:T}{a:List dH}(p:SV i h e j d k a):FT e (Nw i h e j .jQ) (d+3) k (sl (a.map dH.t)):=by
 obtain⟨n,g,b,q⟩:=p;have o:=g.jf;rcases g with⟨rfl,rfl⟩|⟨c,m,y,v,A,rfl,w,x⟩
 ·cases hl:a.map dH.t with
  |nil=>exact jb _ _ _ _
  |cons z a=>rw[hl]at b;cases b
 ·have⟨r,s,u⟩:=q c rfl;exact .inr (.inl ⟨c,m,0,_,false,n,_,rfl,⟨r,s,u,JX c⟩,o,b.ft λl f=>⟨⟨f.1,f.2.1,f.2.2.1,JX l⟩,rfl⟩,rfl⟩)
def dH.ft{c:H}{V:Nat->Prop}(b:dH)(d:Nat):FT c V (d+2) b.t b.t:=by
 have f:∀a:List dL,FT c V (d+1) (sl (a.map dL.t)) (sl (a.map dL.t)):=λa=>oy _ _ _ λh e=>by obtain⟨i,_,rfl⟩:=List.mem_map.1 e;simp
 have g:∀a:List dH,FT c V (d+1) (sl (a.map dH.t)) (sl (a.map dH.t)):=λa=>oy _ _ _ λh e=>by obtain⟨i,_,rfl⟩:=List.mem_map.1 e;simp
 exact .inr (.inr ⟨_,_,b.mS,.cons (fZ ..) (.cons (fZ ..) (.cons (jU ..) (.cons (jU ..) (.cons (f _) (.cons (fZ ..) (.cons (fZ ..) (.cons (jU ..) (.cons (f _) (.cons (g _) (.cons (g _) .nil)))))))))),b.mS⟩)
def Mk.same{i:List Int}{m:Nat}{b c:H}{f g:Nat}(e:Mk i m b f g)(r:gH 0 c)(v:b.size<=c.size)(h:∀a,Fp b f a->c.get a=b.get a):Mk i m c f g:=by
 have k:=h f (.inl rfl);have⟨u,s,left,set,t,n,q,l,p,j,o,hl⟩:=e.ex;refine⟨r,λa d=>by rw[iL k]at d;have:=e.fp a d;omega,e.tp.eq (h g e.fpb),u,s,left,set,t,n,q,l,p,by rw[k];exact j,o.mono λa d=>h a (.inr ⟨_,j,l,by simp[eY,T.cells,rC],d⟩),hl⟩
theorem Mk.cons{b:List Int}{f:Nat}{d:H}{e c:Nat}(a:Mk b f d e c)(g:iI):Mk b f (d.cons g) e c:=a.same (a.ok.cons g) J λh i=>by rw[dO,ao (by have:=a.fp h i;omega)]
def Mk.ry{d:List Int}{h:Nat}{b:H}{c e:Nat}(f:Mk d h b c e){a:Nat}{l:iI}(g:Lb c b a l)(i:iI):Mk d h (dT b a i) c e:=f.same (f.ok.put a i) (by rw[fI];exact au _) λm j=>by rw[dF g.get,ao (λk=>g.nf (by rw[<-k];exact j))]
def Mk.hr{b:List Int}{f:Nat}{a:H}{e c:Nat}(d:Mk b f a e c):Mk b f (TI.hr a) e c:=d.same d.ok.hr (au _) λg _=>gu a g
def Mk.out{b:List Int}{e:Nat}{h a:H}{m c:Nat}(d:Mk b e a m c):Mk b e (lM h a) m c:=d.same (d.ok.out h) (au _) λf _=>fO h a f
def SV.out{e c:Nat}{h a:H}{m b:Nat}{f:T}{d:List dH}(j:SV e c a m b f d):SV e c (lM h a) m b f d:=
 j.same (au _) (au _) λg _ _ i=>⟨fO h a g,by rw[iL (fO h a m)];exact i⟩
def Mk.set{j:List Int}{h:Nat}{c:H}{d b f:Nat}{s left th' left':Int}{r t l n se' tx' at2 lp':Bool}{a:T}{g:List (List Nat)}(e:Mk j h c d b)(k:c.get d=some (Z 8 f [.agg (rC b s left r t l n a)]))(m:Gr c a 1 (g.map T.str))(hl:g.length=h):
 Step d c (dT c d (Z 8 (f+1) [.agg (rC b th' left' se' tx' at2 lp' a)]))/\Mk j h (dT c d (Z 8 (f+1) [.agg (rC b th' left' se' tx' at2 lp' a)])) d b:=by
 obtain⟨i,o,p,q⟩:=A3 e.ok e.fp k (cells':=rC b th' left' se' tx' at2 lp' a) (λu a=>by
  simp only[rC,co,cV,or_false]at a;rcases a with rfl|rfl|rfl|rfl|rfl|rfl|rfl|rfl<;>first|exact .inr (.inl rfl)|exact .inl (by simp[rC])) _ rfl
 exact⟨i,⟨i.ok.hp,i.ok.low,aw _⟩,o,e.tp.eq (by rw[dF k,ao (aW e.ne)]),f+1,th',left',se',tx',at2,lp',a,g,p,q _ _ _ m dt,hl⟩
def SV.app{z:List Int}{n h o:Nat}{b:H}{d C u:Nat}{s x:T}{xs:List T}{p l2:List dH}(Y:SV h o b d u s p)(k:Mk z n b d C)(an:h<=b.size)(al:o<=b.size)(X:b.jf x=some xs)(I:ir (FT b (Nw h o b d s) (u+2)) xs (l2.map dH.t))(R:∀i∈xs,i.cells.length=11)(V:xs≠ [])(ap:p.length+l2.length<=1000000):
 ∃y f,iN cx b 196 196 s x=some (.val y f)/\SV h f.size f d u y (p++l2)/\Mk z n f d C/\(∀m,Step d m b->m.size<=h->Step d m f)/\∀e,e<h->f.get e=b.get e:=by
 obtain⟨l,O,A,q⟩:=Y;have l1:l.length=p.length:=by simpa using A.length
 have l3:xs.length=l2.length:=by simpa using I.length
 obtain⟨y,f,i,e,F,ae,N,rfl,K,g,j,HL⟩:=O.app (cx:=cx) k.ok yK rfl yI yK rfl rfl J X R V dp;have v:¬Fp b d e:=λG=>g.elim (λg=>(q e g).2.2 G) λg=>by have:=k.fp e G;omega
 have W:=HL.sz;have U:h<=e:=g.elim (λg=>(q e g).1) λg=>by omega
 have S:=H.ej K;have w:f.get d=b.get d:=j d (λq=>v (by rw[<-q];exact .inl rfl)) k.lt;have M:∀a,Nw h o b d s a->Nw h f.size f d (.arr e F 0 (l++xs).length false) a/\f.get a=b.get a:=λa c=>by
  have L:a≠e:=λi=>g.elim (λg=>c.2.2.2 (by rw[i];exact g)) λg=>by have:=c.2.1;omega
  exact⟨⟨c.1,by have:=c.2.1;omega,by rw[iL w];exact c.2.2.1,by simp;exact aW L⟩,j a L (by have:=c.2.1;omega)⟩
 refine⟨_,f,i,⟨l++xs,.inr ⟨e,F,ae,N,l++xs,rfl,K,aJ⟩,?_,λa E=>?_⟩,k.same ⟨HL.hp,HL.low,aw _⟩ W λa c=>j a (λi=>v (by rw[<-i];exact c)) (k.fp a c),λm r hl=>⟨⟨HL.hp,HL.low,by have:=r.ok.sz;omega⟩,λa P Q=>?_,λa c=>by rw[iL w]at c;exact r.fp a c⟩,λa c=>j a B B⟩
 ·rw[List.map_append];exact(A.ft M).append (I.ft M)
 ·simp at E;subst E;exact⟨U,S,by rw[iL w];exact v⟩
 ·exact(j a B (by have:=r.ok.sz;omega)).trans (r.get a P Q)
def wd(a:Nat):Nat:=100*10^a
def Jw(a:Nat):wd (a+1)=10*wd a:=by unfold wd;rw[Nat.pow_succ];omega
def Bl(a:Nat):100<=wd a:=by
 induction a with
 |zero=>decide
 |succ a b=>rw[Jw];omega
structure Qi where
 (L:List Int) (m b n d cnt:Nat)
def XS(a:Qi)(c:H):Prop:=Mk a.L a.n c a.m a.b/\okB a.L/\a.d<=2/\a.n+a.d<=10/\a.cnt<=3
def Nm(a:Qi)(i:List T)(f:H)(h:T)(c:H):Prop:=∃e,SV f.size c.size c a.m (2*a.d+2) h e/\(∀g∈e,MS g/\g.w<=wd a.d)/\e.length<=a.cnt/\Mk a.L a.n c a.m a.b/\Step a.m f c
def EF(a:Qi)(i:List T)(g:H)(h:T)(c:H):Prop:=∃f e,h= .agg f/\f.length=11/\FT c (Nw g.size c.size c a.m .jQ) (2*a.d+4) h e.t/\MS e/\e.w<=wd a.d/\Mk a.L a.n c a.m a.b/\Step a.m g c
abbrev U2(e:Nat):kI:=jr Qi (λa b c=>(b=[.ptr a.m 0 0 0,D a.d,D a.cnt]/\XS a c)/\a.d<e) Nm
abbrev rMt(e:Nat):kI:=jr Qi (λa b c=>(b=[.ptr a.m 0 0 0,D a.d]/\XS a c)/\a.d<e) EF
def aaJ(k:Nat)(av:(rMt k).Ok prog cx 177):(U2 k).Ok prog cx 131:=by
 refine jn (tb:=⟨pt [],ht [(177,rMt k)]⟩) iB gW (iP 4194759 [] func131) (λ_ _=>10) (λe a r al=>by obtain⟨⟨rfl,_⟩,_⟩:=al;simp[f131]) ?_;rintro⟨E,f,F,U,p,G⟩ _ r ⟨⟨rfl,z,I,N,Q,b⟩,P⟩ h L;simp only at z I N Q b P;simp at L;obtain⟨j,l,m⟩:=L;simp[f131,j,l,m];refine yU G (λe h q=>∃v n,SV r.size q.size q f (2*p+2) v n/\(∀o∈n,MS o/\o.w<=wd p)/\n.length=e/\Mk E U q f F/\Step f (hr r) q/\dy h 0 (.ptr f 0 0 0)/\dy h 1 (D p)/\dy h 2 (D G)/\dy h 7 v/\dy h 8 (D e)) ?_ B (k:=0) B ⟨dw,[],SV.nil _ _ _ _ _,J,rfl,z.hr,Step.refl z.ok.hr,by simp[j,l,m]⟩;rintro e h q bn ⟨v,n,sv,hl,bs,A,C,j,l,m,s,y⟩;have⟨bN,bC,left,set,bH,a8,bB,bz,bu,H,bi,bl⟩:=A.ex;simp only[rC]at H;simp[j,l,m,s,y,H];refine dV (λO=>?_) (λO=>?_)
 ·simp at O;simp[j,l,m,s,y];refine iD av J ⟨E,f,F,U,p,0⟩ ⟨⟨rfl,A,I,N,Q,J⟩,P⟩ ?_;rintro _ d ⟨c,o,rfl,M,ft,ae,R,g,u⟩;simp only at ft R g u;have ap:=C.ok.sz;have S:=u.ok.sz;simp at ap;have aN:=((sv.step u (au _)).step (Step.cons g.ok g.lt (Z 11 0 [.agg c])) S).wide (au _) S;have K:∀i,i<d.size->(d.cons (Z 11 0 [.agg c])).get i=d.get i:=λi b=>by rw[dO,ao B]
  have X:FT (d.cons (Z 11 0 [.agg c])) (Nw r.size d.size (d.cons (Z 11 0 [.agg c])) f v) (2*p+4) (.agg c) o.t:=ft.mono λi b=>⟨⟨by have:=b.1;omega,b.2.1,by rw[iL (K f g.lt)];exact b.2.2.1,sv.box λV=>by have:=b.1;omega⟩,K i b.2.1⟩;have⟨a7,bk,W,aX,aA,aE,_⟩:=aN.app (g.cons (Z 11 0 [.agg c])) (x:= .arr d.size 0 0 1 false) (xs:=[.agg c]) (l2:=[o]) dp J (by rw[gh];simp) (.cons X .nil) (by simp[T.cells,M]) J dp;simp[j,l,m,s,y,W,M,ij (show-9223372036854775808<=(e:Int)+1 by omega) (show(e:Int)+1<9223372036854775808 by omega)];exact⟨e+1,B,B,a7,n++[o],aX,λx an=>(List.mem_append.1 an).elim (hl x) λV=>by rw[List.mem_singleton.1 V];exact⟨ae,R⟩,dp,aA,aE _ ((C.trans u).trans (Step.cons g.ok g.lt _)) J,J⟩
 ·simp[s];exact⟨n,sv.out,hl,dq,A.out,C.out⟩
def Mk.held{s:List Int}{q:Nat}{c h:H}{a b f:Nat}{m left:Int}{l n g k:Bool}{p o:T}{j:List (List Nat)}{w:List Nat}(d:Mk s q c a b)(t:c.get a=some (Z 8 f [.agg (rC b m left l n g k p)]))(v:Gr c p 1 (j.map T.str))(hl:j.length=q)(x:Xt c p 1 ((j++[w]).map T.str) o h):
 h.get a=c.get a/\Step a c (dT h a (Z 8 (f+1) [.agg (rC b m left l n g k o)]))/\Mk s (q+1) (dT h a (Z 8 (f+1) [.agg (rC b m left l n g k o)])) a b:=by
 have⟨e,E⟩:=v8 (i:=7) d.ok d.fp t (by simp[rC]) dt v x;have⟨r,y,A,_⟩:=E _ rfl;have u:=e.trans t;have⟨K,I,z,_⟩:=d.tp;refine⟨e,r,⟨r.ok.hp,r.ok.low,aw _⟩,y,d.tp.eq ?_,f+1,m,left,l,n,g,k,o,j++[w],(dF u _ a).trans (aq rfl),A,dp⟩;rw[dF u,ao (aW d.ne)];refine x.2.1 b d.tp.lt λC=>?_;have⟨F,f,G,L,e,_⟩:=v.box C;rw[z]at e;simp at e
def Mk.drop{p:List Int}{g:Nat}{b:H}{c a l:Nat}{i left:Int}{h j e f:Bool}{n d:T}{m:List (List Nat)}(k:Mk p (g+1) b c a)(q:b.get c=some (Z 8 l [.agg (rC a i left h j e f n)]))(hl:m.length=g+1)(r:Gr b d 1 ((m.map T.str).take g))(s:dM d=dM n):
 Step c b (dT b c (Z 8 (l+1) [.agg (rC a i left h j e f d)]))/\Mk p g (dT b c (Z 8 (l+1) [.agg (rC a i left h j e f d)])) c a:=by
 obtain⟨o,t,u,v⟩:=A3 k.ok k.fp q (cells':=rC a i left h j e f d) (λw hm=>by
  simp only[rC,co,cV,or_false]at hm;rcases hm with rfl|rfl|rfl|rfl|rfl|rfl|rfl|hm
  ·exact .inl (by simp[rC])
  iterate 6 exact .inr (.inl rfl)
  exact .inr (.inr ⟨n,by simp[rC],by rw[hm];exact s⟩)) _ rfl
 exact⟨o,⟨o.ok.hp,o.ok.low,aw _⟩,t,k.tp.eq (by rw[dF q,ao (aW k.ne)]),l+1,i,left,h,j,e,f,d,m.take g,u,by rw[List.map_take];exact v _ _ _ r dt,by rw[List.length_take];omega⟩
structure IBk where
 (L:List Int) (m b n d:Nat) (s:List Nat)
def Z8(a:IBk)(c:List T)(e:H):Prop:=c=[.ptr a.m 0 0 0,.str a.s,D a.d]/\Mk a.L a.n e a.m a.b/\okB a.L/\a.d<=2/\a.n+a.d<=9
abbrev rBk(g:Nat):kI:=jr IBk (λa c e=>Z8 a c e/\a.d<g) (λa c e h f=>Nm ⟨a.L,a.m,a.b,a.n,a.d,2⟩ c e h f)
def abS(u:Nat)(a8:(U2 u).Ok prog cx 131):(rBk u).Ok prog cx 231:=by
 refine jn (tb:=⟨pt [],ht [(64,jr yX tW qM),(131,U2 u)]⟩) iB gW (iP 199 [] func231) (λ_ _=>10) (λi a f a7=>by obtain⟨⟨rfl,_⟩,_⟩:=a7;simp[f231]) ?_;rintro⟨U,d,V,n,W,s⟩ _ f ⟨⟨rfl,x,t,F,aN⟩,G⟩ bB E;simp only at x t F aN G;simp at E;obtain⟨g,h,j⟩:=E;have k:=x.hr;have⟨S,Q,left,set,R,A,L,K,I,b,c,hl⟩:=k.ex;have⟨bn,an,p,o⟩:=c.mQ (cx:=cx) k.ok pT rfl vn rfl J J s dp;have⟨N,z,e⟩:=k.held b c hl o;have q:=N.trans b;simp only[rC]at b q z e;have C:f.get d=_:=(gu f d).symm.trans b;have aE:(d=f.size)=False:=by have:=x.lt;simp;omega
 rw[nh]at p;simp[f231,g,h,j,C,aE,p,q,dN,o.1.fg,o.1.cells];generalize dT an d _=bs at*
 clear b C q N o p c k;have⟨S,Q,left,set,R,A,L,K,I,b,c,hl⟩:=e.ex;simp only[rC]at b;simp[g,h,j,b];refine rh J e.tp e.ok B B t λw bu bz t2 bk=>?_;have⟨bi,O⟩:=e.tape bk t2;have X:binop .add (D 1) (D w)=some (D ((1+w:Nat):Int)):=by rw[ij B B];simp
 simp[g,h,j,X];refine iD a8 J ⟨U,d,V,n+1,W,1+w⟩ ⟨⟨J,bi,t,F,dq,dq⟩,G⟩ ?_;rintro v ap ⟨l,sv,H,aX,y,P⟩;simp only at sv H aX y P;have⟨S,Q,left,set,R,A,L,K,I,b,c,hl⟩:=y.ex;have al:=b;simp only[rC]at b;have aA:=c.len (cx:=cx) ap Qt _ rfl;have⟨bn,ae,r,av⟩:=c.cut (cx:=cx) (ty:=Qt) rfl vn rfl (n:=n) dp dp;have⟨m,M⟩:=y.drop al hl r av;have Y:binop .sub (D ((n:Int)+1)) (D 1)=some (D n):=by
  rw[tQ,<-jv,jD B B];simp
 simp only[rC]at m M;simp[g,h,j,b,aA,hl,Y,ae,dN,r.fg,r.cells];have bl:=((z.trans O).trans P).trans m;have T:=(z.trans O).ok.sz;simp at T;exact⟨l,((sv.step m (au _)).wide T (by have:=m.ok.sz;simp)).out,H,dq,M.out,bl.out⟩
def zo:kI:=⟨λe a=>∃d c b f i,e=[.ptr b 0 0 0,.str i]/\Mk d c a b f/\c<=100,λ_ a h g=>g=a/\FE h⟩
def QV:zo.Ok prog cx 230:=by
 refine HP (tb:=⟨pt [(123,BP)],ht []⟩) iB gW (iP 19 [] func230) false (λ_ _=>5) (λq a k=>by obtain⟨e,o,n,f,p,rfl,_⟩:=k;simp[f230]) ?_;rintro _ a ⟨e,o,n,f,p,rfl,d,s⟩ y c;simp at c;obtain⟨i,j⟩:=c;have⟨x,v,left,set,w,r,u,t,l,b,h,hl⟩:=d.ex;simp only[rC]at b;have m:=(h.mono (h':=hr a) λg _=>gu a g).qA J;simp[f230,i,j,b,m,Mt,show l.length<=1099511627776 by omega];exact pF a _ _ d.ok.hp (Fr.refl _ _) rfl ⟨rfl,J⟩
def af7{d:H}{b:Nat->Prop}(h:dH)(c:Nat):ir (FT d b (c+1)) h.cs h.cs:=by
 have f:∀a:List dL,FT d b (c+1) (sl (a.map dL.t)) (sl (a.map dL.t)):=λa=>oy _ _ _ λi e=>by obtain⟨j,_,rfl⟩:=List.mem_map.1 e;simp
 have g:∀a:List dH,FT d b (c+1) (sl (a.map dH.t)) (sl (a.map dH.t)):=λa=>oy _ _ _ λi e=>by obtain⟨j,_,rfl⟩:=List.mem_map.1 e;simp
 exact .cons (fZ ..) (.cons (fZ ..) (.cons (jU ..) (.cons (jU ..) (.cons (f _) (.cons (fZ ..) (.cons (fZ ..) (.cons (jU ..) (.cons (f _) (.cons (g _) (.cons (g _) .nil))))))))))
def Gx{i:Qi}{args:List T}{a c:H}{r:iI}{cs:List T}{s:dH}(e:Lb i.m c a.size r)(g:Mk i.L i.n c i.m i.b)(p:Step i.m (TI.hr a) c)(hl:cs.length=11)(j:ir (FT c (Nw (a.size+1) c.size c i.m .jQ) (2*i.d+3)) cs s.cs)(k:MS s)(o:s.w<=wd i.d):
 (dT c a.size (Z 11 1 [.agg cs])).get a.size=some (Z 11 1 [.agg cs])/\EF i args a (.agg cs) (lM a (dT c a.size (Z 11 1 [.agg cs]))):=by
 have l:(dT c a.size (Z 11 1 [.agg cs])).get i.m=c.get i.m:=by rw[dF e.get,ao (aW e.ne)]
 have q:=Step.ry g.ok e (Z 11 1 [.agg cs]) _ p (au _);refine⟨(dF e.get _ _).trans (aq rfl),cs,s,rfl,hl,?_,k,o,(g.ry e _).out,q.out⟩;refine .inr (.inr ⟨cs,s.cs,rfl,j.ft λh f=>⟨⟨by have:=f.1;omega,by have:=f.2.1;simp;omega,?_,JX h⟩,?_⟩,s.mS⟩)
 ·rw[iL (fO a _ i.m),iL l];exact f.2.2.1
 ·rw[fO,dF e.get,ao (by have:=f.1;omega)]
def Bh(c:List Nat)(b:List dL)(a:dL):dH:=⟨1,0,c,[],b,a,[],[]⟩
def CW{d:List Nat}{b:List dL}{c:dL}(g:∀i∈b,ME i)(f:ME c)(h:b≠ []->d=[113]):MS (Bh d b c):=
 .mk (λa=>by unfold Bh at a;simp at a) (λ_ a=>h a) g (λ_=>f) (λe a=>by unfold Bh at a;simp at a) (λe a=>by unfold Bh at a;simp at a)
def Ky{nm:List Nat}{ix:List dL}{e:dL}{d:Nat}(a:dL.ws ix<=20)(b:e.w<=20):(Bh nm ix e).w<=wd d:=by
 have:=Bl d;rw[dH.kQ];unfold Bh;simp only[dH.qV,dH.I3,dH.un,dH.xy,dH.iJ];omega
abbrev ace(f:Qi)(e:List T)(b d:H)(c:List Nat)(a:dL):Prop:=
 (dT d b.size (Z 11 1 [.agg [D 1,D 0,.str c,.str [],sl [],D a.op,D a.n,.str a.name,sl (a.l.map dL.t),sl [],sl []]])).get b.size=some (Z 11 1 [.agg [D 1,D 0,.str c,.str [],sl [],D a.op,D a.n,.str a.name,sl (a.l.map dL.t),sl [],sl []]])/\
 EF f e b (.agg [D 1,D 0,.str c,.str [],sl [],D a.op,D a.n,.str a.name,sl (a.l.map dL.t),sl [],sl []]) (lM b (dT d b.size (Z 11 1 [.agg [D 1,D 0,.str c,.str [],sl [],D a.op,D a.n,.str a.name,sl (a.l.map dL.t),sl [],sl []]])))
def Jm{i:Qi}{args:List T}{c d:H}{k:iI}{nm:List Nat}{a:dL}(g:Lb i.m d c.size k)(h:Mk i.L i.n d i.m i.b)(j:Step i.m (TI.hr c) d)(e:ME a)(f:a.w<=20):ace i args c d nm a:=
 Gx (s:=Bh nm [] a) g h j rfl (af7 (Bh nm [] a) _) (CW J e (λc=>absurd rfl c)) (Ky (by rw[dL.iJ];omega) f)
def IX(a:Qi){f:fw}{s:af Oper}{k:aa Tmp}{l:List Oper}{x w:fH}{i:iq}{p:Nat}{d e:H}{y:iI}(ht:f.h 227=some (K1 11))(q:Mk a.L a.n e a.m a.b)(z:okB a.L)(o:Lb a.m e d.size y)(G:Step a.m (TI.hr d) e)
 (E:∀c hE,hE.get d.size=some y->(∀j r,ace a j d hE r c)->XK (some (dL.t c,hE)) cx (pK prog cx f) p s k l x w i):XK (hl prog cx f 227 [.ptr a.m 0 0 0,D 1] e) cx (pK prog cx f) p s k l x w i:=by
 refine iD (Gm 11) ht ⟨a.L,a.m,a.b,a.n,1⟩ ⟨⟨rfl,q,z,J⟩,J⟩ ?_;rintro _ hE ⟨c,rfl,A,C,v,u⟩;simp only at C v u;have⟨F,g⟩:=q.tape u v;exact E c hE (o.step g).get λj r=>Jm (o.step g) F (G.trans g) A B 
theorem _root_.Go.TI.Lb.put{d:Nat}{b:H}{a c:Nat}{x g:iI}(f:Lb d b a x)(l2:Lb d b c g)(e:a≠c)(h:iI):Lb d (dT b c h) a x:=f.jV (by rw[dF l2.get,ao (aW l2.ne)]) (by rw[dF l2.get,ao e])
def TM{n:List Int}{q:Nat}{k b:H}{c o a:Nat}{w:iI}(p:Mk n q b c o)(e:Lb c b a w)(v:Step c (TI.hr k) b)(r:k.size<=a)(d:iI):
 Mk n q (dT b a d) c o/\Lb c (dT b a d) a d/\Step c (TI.hr k) (dT b a d)/\(∀g m,g≠a->Lb c b g m->Lb c (dT b a d) g m)/\∀i h j l f,SV i h b c j l f->a<i\/h<=a->SV i h (dT b a d) c j l f:=
 ⟨p.ry e d,⟨(dF e.get d a).trans (aq rfl),by rw[iL (show(dT b a d).get c=b.get c by rw[dF e.get,ao (aW e.ne)])];exact e.nf⟩,Step.ry p.ok e d _ v r,λg m s f=>f.put e s d,λi h j l f t u=>t.ry e u d⟩
theorem kN{o:List Int}{q:Nat}{m a:H}{b p:Nat}(g:Mk o q a b p)(s:Step b (TI.hr m) a)(c e:iI):
 Mk o q (dT (a.cons c) a.size e) b p/\Lb b (dT (a.cons c) a.size e) a.size e/\Step b (TI.hr m) (dT (a.cons c) a.size e)/\(∀h l,Lb b a h l->Lb b (dT (a.cons c) a.size e) h l)/\∀j f i k d,SV j f a b i k d->f<=a.size->SV j f (dT (a.cons c) a.size e) b i k d:=by
 have n:=Step.cons g.ok g.lt c;have v:=Lb.new g.lt g.fp c;have t:m.size<=a.size:=by simpa using s.ok.sz
 have⟨w,x,y,z,A⟩:=TM (g.cons c) v (s.trans n) t e;exact⟨w,x,y,λh l d=>z h l (by have:=d.lt;omega) (d.step n),λj f i k d u r=>A j f i k d (u.step n r) (.inr r)⟩
def SV.gc{h e:Nat}{d:H}{i c:Nat}{a:T}{g:List dH}(f:SV h e d i c a g):a.fg=true/\a.cells=[a]:=by
 obtain⟨j,b,_⟩:=f;exact⟨b.fg,b.cells⟩
def SV.cell{g e c d:Nat}{b:H}{h a:Nat}{i:T}{f:List dH}(l:SV g e b h (2*a+2) i f)(j:c<=g)(k:e<=d):FT b (Nw c d b h .jQ) (2*(a+1)+3) i (sl (f.map dH.t)):=by
 have:=(l.wide j k).ft;rw[show 2*(a+1)+3=2*a+2+3 by omega];exact this
def xM{a:List dH}{W:Nat}(c:∀b∈a,MS b/\b.w<=W):dH.ws a<=a.length*W:=by
 induction a with
 |nil=>rw[dH.iJ];omega
 |cons f a e=>
  have g:=e λb d=>c b (List.mem_cons_of_mem _ d);have h:=(c f J).2;rw[dH.jR,aY,bV];omega
def qm{k:List Int}{c m o d cnt:Nat}{args:List T}{a b:H}{p:iI}{op:Int}{nm:List Nat}{e:dL}{f g h:T}{j le:List dH}(z:Lb c b a.size p)(A:Mk k o b c m)(C:Step c (TI.hr a) b)
 (q:FT b (Nw (a.size+1) b.size b c .jQ) (2*(d+1)+3) g (sl (j.map dH.t))) (r:FT b (Nw (a.size+1) b.size b c .jQ) (2*(d+1)+3) h (sl (le.map dH.t))) (u:FT b (Nw (a.size+1) b.size b c .jQ) (2*(d+1)+3) f (sl (e.l.map dL.t)))
 (F:2<=op/\op<=8) (hE:op<=3->ME e) (G:e.w<=20) (v:∀s∈j,MS s) (x:∀s∈le,MS s) (E:dH.ws j+dH.ws le<=5*wd d):
 (dT b a.size (Z 11 1 [.agg [D op,D 0,.str nm,.str [],dw,D e.op,D e.n,.str e.name,f,g,h]])).get a.size=some (Z 11 1 [.agg [D op,D 0,.str nm,.str [],dw,D e.op,D e.n,.str e.name,f,g,h]])/\
 EF ⟨k,c,m,o,d+1,cnt⟩ args a (.agg [D op,D 0,.str nm,.str [],dw,D e.op,D e.n,.str e.name,f,g,h]) (lM a (dT b a.size (Z 11 1 [.agg [D op,D 0,.str nm,.str [],dw,D e.op,D e.n,.str e.name,f,g,h]]))):=
 Gx (i:=⟨k,c,m,o,d+1,cnt⟩) (s:=⟨op,0,nm,[],[],e,j,le⟩) z A C rfl
  (.cons (fZ ..) (.cons (fZ ..) (.cons (jU ..) (.cons (jU ..) (.cons (jb ..) (.cons (fZ ..) (.cons (fZ ..) (.cons (jU ..) (.cons u (.cons q (.cons r .nil)))))))))))
  (.mk (λa=>by simp at a;omega) (λa=>by simp at a;omega) (λp y=>by simp at y) (λa=>by simp at a;exact hE B) v x)
  (by
    have:=Bl d;rw[dH.kQ,Jw];simp only[dH.qV,dH.I3,dH.un,dH.xy,dL.iJ];omega)
def SV.deep{f d:Nat}{c:H}{g a b:Nat}{h:T}{e:List dH}(m:SV f d c g a h e)(o:a<=b):SV f d c g b h e:=by
 obtain⟨j,l,i,n⟩:=m;exact⟨j,l,i.imp λ_ _ k=>k.deep B,n⟩
def YV(a:Nat):wd 0<=wd a:=Bl a
def SV.lit{g:List Int}{m:Nat}{a:H}{b j d:Nat}{es:List T}{l:List dH}(e:Mk g m a b j)(i:∀k h,ir (FT k h (d+2)) es (l.map dH.t)):SV a.size (a.size+1) (a.cons ⟨11,0,0,true,false,es⟩) b d (.arr a.size 0 0 es.length false) l:=by
 refine⟨es,.inr ⟨a.size,0,0,true,es,rfl,by rw[dO,aq rfl],aJ⟩,i _ _,λn f=>?_⟩;simp at f;subst f;refine⟨au _,cU _,λc=>?_⟩;rw[iL (show(a.cons ⟨11,0,0,true,false,es⟩).get b=a.get b by rw[dO,ao (by have:=e.lt;omega)])]at c;have:=e.fp _ c;omega
def AR(a:Int):dH:=⟨a,0,[99],[],[],⟨0,0,[],[]⟩,[],[]⟩
def O6{d:H}{b:Nat->Prop}(a:Int)(c:Nat):FT d b (c+2) (.agg [D a,D 0,.str [99],.str [],dw,D 0,D 0,.str [],dw,dw,dw]) (AR a).t:=
 .inr (.inr ⟨_,(AR a).cs,rfl,.cons (fZ ..) (.cons (fZ ..) (.cons (jU ..) (.cons (jU ..) (.cons (jb ..) (.cons (fZ ..) (.cons (fZ ..) (.cons (jU ..) (.cons (jb ..) (.cons (jb ..) (.cons (jb ..) .nil)))))))))),dH.mS _⟩)
def O0{c:Int}(e:9<=c/\c<=11):MS (AR c):= .mk (λ_=>rfl) (λb=>by unfold AR at b;simp at b;omega) (λd a=>by unfold AR at a;simp at a) (λb=>by unfold AR at b;simp at b;omega) (λd a=>by unfold AR at a;simp at a) (λd a=>by unfold AR at a;simp at a)
def Uo(a:Int):(AR a).w=5:=by
 rw[dH.kQ,dL.kQ];unfold AR;simp only[dH.qV,dH.I3,dH.un,dH.xy,dH.iJ,dL.iJ,dL.EP]
def DB{b c a:Int}(d:b-c=a)(e: -9223372036854775808<=a)(f:a<9223372036854775808):binop .sub (D b) (D c)=some (D a):=by
 subst d;rw[tQ,<-jv,jD e f]
def yT{b c a:Int}(d:b+c=a)(e: -9223372036854775808<=a)(f:a<9223372036854775808):binop .add (D b) (D c)=some (D a):=by
 subst d;rw[nG,<-jv,jD e f]
def aaI(k:Nat)(c9:(U2 k).Ok prog cx 131)(eU:(rBk k).Ok prog cx 231):(rMt (k+1)).Ok prog cx 177:=by
 have⟨gI,dm⟩:=hlB QV λ_ _ _ _ E=>E;have c4:=Gm 11;refine jn (tb:=⟨pt [(133,Ia),(229,K0),(228,K2),(132,K3)],ht [(64,jr yX tW qM),(227,K1 11),(131,U2 k),(231,rBk k),(230,zo)]⟩) iB gW (iP 521481210427296124309566527199867809678935259509485941609668421502669740186866579200068820979 [(5,[(0,5),(2,5),(3,5)]),(7,[(0,5),(0,9),(6,9),(7,9)])] func177) (λ_ _=>10) (λi a E fY=>by obtain⟨⟨rfl,_⟩,_⟩:=fY;simp[f177]) ?_;rintro⟨o,f,p,u,d,cnt⟩ _ E ⟨⟨rfl,bT,z,fA,fL,fv⟩,fB⟩ hg eM;simp only at bT z fA fL fv fB;simp at eM;obtain⟨b,c⟩:=eM;have eO:(f=E.size)=False:=by have:=bT.lt;simp;omega
 have C:=Step.cons bT.hr.ok bT.hr.lt (Z 11 0 [.agg [D 0,D 0,.str [],.str [],dw,D 0,D 0,.str [],dw,dw,dw]]);have r:Lb f _ E.size _:=Lb.new bT.hr.lt bT.hr.fp (Z 11 0 [.agg [D 0,D 0,.str [],.str [],dw,D 0,D 0,.str [],dw,dw,dw]]);have eu:=bT.hr.cons (Z 11 0 [.agg [D 0,D 0,.str [],.str [],dw,D 0,D 0,.str [],dw,dw,dw]]);have⟨cp,an,left,set,M,ae,aX,b8,A,g,U,hl⟩:=eu.ex;have⟨ea,c1⟩:=eu.set (th':=an) (left':=IntKind.i64.wrap (left-1)) (se':=set) (tx':=M) (at2:=ae) (lp':=aX) g U hl;replace r:=r.step ea;replace C:=C.trans ea;simp only[rC]at g ea c1 r C;have ec:=g;rw[dO,nh,ao (by have:=bT.lt;omega),gu]at ec;simp[f177,b,c,ec,eO,tQ,dN];generalize dT ((hr E).cons _) f _=gM at*
 clear g ec U eu ea eO;have⟨cp,an,left,set,M,ae,aX,b8,A,g,U,hl⟩:=c1.ex;simp only[rC]at g;simp[b,c,g];refine rh J c1.tp c1.ok B B z λS R gS t2 e1=>?_;have⟨j,eA⟩:=c1.tape e1 t2;replace r:=r.step eA;replace C:=C.trans eA;clear g U c1 t2 e1 eA hl;have⟨cp,an,left,set,M,ae,aX,b8,A,g,U,hl⟩:=j.ex;have dn:=g;simp only[rC]at g;simp[b,c,g];rcases(by omega:S=0\/S=1\/S=2\/S=3\/S=4\/S=5\/S=6\/S=7\/S=8\/S=9\/S=10\/S=11\/S=12\/S=13\/S=14\/S=15\/S=16\/S=17)with rfl|rfl|rfl|rfl|rfl|rfl|rfl|rfl|rfl|rfl|rfl|rfl|rfl|rfl|rfl|rfl|rfl|rfl
 iterate 4
  ·simp[b,c,g];have G:=j.cons (Z 1 0 [.str [120],.str [121],.str [120],.str [118]]);have I:=Step.cons j.ok j.lt (Z 1 0 [.str [120],.str [121],.str [120],.str [118]]);refine lO c4 J ⟨o,f,p,u,1⟩ ⟨⟨rfl,G,z,J⟩,J⟩ ?_;rintro _ hE ⟨e,rfl,bn,bC,aA,V⟩;simp only at bC aA V;have⟨av,X⟩:=G.tape V aA;have m:=(r.step I).step X;have fin:=λnm=>Jm (i:=⟨o,f,p,u,d,cnt⟩) (args:=[.ptr f 0 0 0,D d]) (nm:=nm) m av ((C.trans I).trans X) bn B;have eD:em (R.cons (Z 1 0 [.str [120],.str [121],.str [120],.str [118]])) hE R.size=true:=eQ (V.get _ (by have:=j.tp.lt;omega));simp[b,c,sx,m.get,eD,λnm=>(fin nm).1];exact(fin _).2
 ·have fE:(f=R.size)=False:=by have:=j.lt;simp;omega
  simp[b,c,g,fE];have G:=j.cons (Z 1 0 [.str [97],.str [98]]);have I:=Step.cons j.ok j.lt (Z 1 0 [.str [97],.str [98]]);refine Jc J G.tp G.ok B B z λW bS cL t4 a7=>?_;have⟨al,bN⟩:=G.tape a7 t4;have gO:bS.get R.size=some (Z 1 0 [.str [97],.str [98]]):=(a7.get _ (by have:=j.tp.lt;omega)).trans J;have fb:em (R.cons (Z 1 0 [.str [97],.str [98]])) bS R.size=true:=eQ (a7.get _ (by have:=j.tp.lt;omega));have⟨nm,fl⟩:∃nm:List Nat,([.str [97],.str [98]]:List T)[W]? =some (.str nm):=by
   rcases(by omega:W=0\/W=1)with rfl|rfl<;>exact⟨_,rfl⟩
  generalize([.str [97],.str [98]]:List T)=fi at*
  have cL:W<2:=B;simp[b,c,gO,fl,cL,fb];refine lO c4 J ⟨o,f,p,u,1⟩ ⟨⟨rfl,al,z,J⟩,J⟩ ?_;rintro _ hE ⟨e,rfl,bn,bC,aA,V⟩;simp only at bC aA V;have⟨av,X⟩:=al.tape V aA;have m:=((r.step I).step bN).step X;have fin:=Jm (i:=⟨o,f,p,u,d,cnt⟩) (args:=[.ptr f 0 0 0,D d]) (nm:=nm) m av (((C.trans I).trans bN).trans X) bn B;have eD:em bS hE R.size=true:=eQ (V.get _ (by have:=j.tp.lt;omega));have gE:em (R.cons ⟨1,0,0,true,false,fi⟩) hE R.size=true:=eQ ((V.get _ (by have:=j.tp.lt;omega)).trans (a7.get _ (by have:=j.tp.lt;omega)));simp[b,c,sx,m.get,fb,gE,eD,fin.1];exact fin.2
 ·simp[b,c,g];refine iD c4 J ⟨o,f,p,u,0⟩ ⟨⟨rfl,j,z,J⟩,J⟩ ?_;rintro _ hE ⟨e,rfl,bn,bC,aA,V⟩;simp only at bC aA V;have⟨av,X⟩:=j.tape V aA;have e0:=av.cons (Z 4 0 [e.t]);have e4:=Step.cons av.ok av.lt (Z 4 0 [e.t]);simp[b,c];refine iD c4 J ⟨o,f,p,u,1⟩ ⟨⟨rfl,e0,z,J⟩,J⟩ ?_;rintro _ eI ⟨c7,rfl,fo,gd,e9,dv⟩;simp only at gd e9 dv;have⟨gn,eB⟩:=e0.tape dv e9;have eW:=((r.step X).step e4).step eB;have gZ:=X.ok.sz;have hb:=r.lt;have fm:eI.get hE.size=some (Z 4 0 [e.t]):=(dv.get _ (by have:=av.tp.lt;omega)).trans J;have gg:=dv.size;simp at gg;have fS:¬Fp eI f hE.size:=λq=>by
   rcases eB.fp _ q with q|q
   ·rw[iL (show(hE.cons (Z 4 0 [e.t])).get f=hE.get f by rw[dO,ao (by have:=av.lt;omega)])]at q;have:=av.fp _ q;omega
   ·simp at q;omega
  have fin:=Gx (i:=⟨o,f,p,u,d,cnt⟩) (args:=[.ptr f 0 0 0,D d]) (cs:=[D 1,D 0,.str [113],.str [],.arr hE.size 0 0 1 false,D c7.op,D c7.n,.str c7.name,sl (c7.l.map dL.t),dw,dw]) (s:=Bh [113] [e] c7) eW gn (((C.trans X).trans e4).trans eB) rfl
   (.cons (fZ ..) (.cons (fZ ..) (.cons (jU ..) (.cons (jU ..) (.cons (.inr (.inl ⟨hE.size,0,0,1,false,[e.t],[e.t],rfl,⟨B,B,fS,JX _⟩,by rw[gh,fm];simp,.cons (e.ft _) .nil,rfl⟩)) (.cons (fZ ..) (.cons (fZ ..) (.cons (jU ..) (.cons (oy _ _ _ λx bH=>by obtain⟨y,_,rfl⟩:=List.mem_map.1 bH;simp) (.cons (jb ..) (.cons (jb ..) .nil)))))))))))
   (CW (by simpa using bn) fo J) (Ky (by rw[dL.jR,dL.iJ];omega) B)
  simp[b,c,eW.get,fin.1];exact fin.2
 ·simp[b,c,g];refine dV (λbk=>?_) (λbk=>?_)
  ·simp at bk;obtain⟨d,rfl⟩:∃e,d=e+1:=⟨d-1,B⟩;have bi:binop .sub (D ((d:Int)+1)) (D 1)=some (D d):=by
    rw[tQ,<-jv,jD B B];simp
   simp[b,c];refine iD c4 J ⟨o,f,p,u,1⟩ ⟨⟨rfl,j,z,J⟩,J⟩ ?_;rintro _ hE ⟨e,rfl,bn,bC,aA,V⟩;simp only at bC aA V;have⟨av,X⟩:=j.tape V aA;simp[b,c,bi];refine iD c9 J ⟨o,f,p,u,d,1⟩ ⟨⟨rfl,av,z,dq,dq,J⟩,dq⟩ ?_;rintro v ap ⟨l,sv,F,O,Q,K⟩;simp only at sv F O Q K;have aN:=(r.step X).step K;have bu:=(C.trans X).trans K;have H:=sv.gc;have⟨uz,bl,bN,b9,ce⟩:=kN Q bu (Z 11 0 [.agg [D 0,D 0,.str [],.str [],dw,D 0,D 0,.str [],dw,dw,dw]]) (Z 11 1 [.agg [D 2,D 0,.str [],.str [],dw,D e.op,D e.n,.str e.name,sl (e.l.map dL.t),v,dw]]);have bs:=b9 _ _ aN;have cb:=ce _ _ _ _ _ sv (au _);have⟨cp,an,left,set,M,ae,aX,b8,A,g,U,hl⟩:=uz.ex;simp only[rC]at g;simp[b,c,H.1,H.2,g];generalize dT (ap.cons _) ap.size _=ds at*
   refine rh J uz.tp uz.ok B B z λW bS cL t4 a7=>?_;have⟨al,a8⟩:=uz.tape a7 t4;have l4:=bl.step a8;have er:=bs.step a8;have b6:=bN.trans a8;have hc:=uz.lt;have gi:ap.size<ds.size:=bl.lt;have e6:=cb.step a8 B;have ha:=a7.size;have gP:E.size<ap.size:=aN.lt;have eL:E.size<hE.size:=(r.step X).lt;simp[b,c];refine dV (λfC=>?_) (λfC=>?_)
   ·simp[b,c,bi];refine iD c9 J ⟨o,f,p,u,d,1⟩ ⟨⟨rfl,al,z,dq,dq,J⟩,dq⟩ ?_;rintro gB gQ ⟨l2,eC,eo,eP,mkV,UN⟩;simp only at eC eo eP mkV UN;have eF:=eC.gc;have⟨gp,gj,ca,gv,fe⟩:=TM mkV (l4.step UN) (b6.trans UN) B (Z 11 2 [.agg [D 2,D 0,.str [],.str [],dw,D e.op,D e.n,.str e.name,sl (e.l.map dL.t),v,gB]]);have eX:=gv _ _ B (er.step UN);have gw:=fe _ _ _ _ _ (e6.step UN B) (.inr (au _));have gy:=fe _ _ _ _ _ eC (.inl B);have hd:=UN.ok.sz;have fin:=qm (cnt:=cnt) (args:=[.ptr f 0 0 0,D (d+1:Nat)]) (op:=2) (nm:=[]) (e:=e) eX gp ca (gw.cell eL dp) (gy.cell B J) (oy _ _ _ λx bH=>by obtain⟨y,_,rfl⟩:=List.mem_map.1 bH;simp) B (λ_=>bn) B (λs A=>(F s A).1) (λs A=>(eo s A).1) (by
     have c6:=xM F;have hh:=xM eo;have:=aV (wd d) O;have:=aV (wd d) eP;omega)
    simp[b,c,(l4.step UN).get,gj.get,dN,H.1,H.2,eF.1,eF.2,eX.get,fin.1];exact fin.2
   ·have fin:=qm (cnt:=cnt) (args:=[.ptr f 0 0 0,D (d+1:Nat)]) (op:=2) (nm:=[]) (e:=e) (le:=[]) er al b6 (e6.cell eL B) (jb _ _ _ false) (oy _ _ _ λx bH=>by obtain⟨y,_,rfl⟩:=List.mem_map.1 bH;simp) B (λ_=>bn) B (λs A=>(F s A).1) J (by
     have c6:=xM F;have:=aV (wd d) O;rw[dH.iJ];omega)
    simp[b,c,l4.get,er.get,dN,H.1,H.2,fin.1];exact fin.2
  ·simp[b,c];refine IX ⟨o,f,p,u,d,cnt⟩ J j z r C λe hE m fin=>?_;simp[b,c,sx,m,λnm=>(fin [] nm).1];exact(fin _ _).2
 ·simp[b,c,g];refine dV (λbk=>?_) (λbk=>?_)
  ·simp at bk;obtain⟨d,rfl⟩:∃e,d=e+1:=⟨d-1,B⟩;have bi:binop .sub (D ((d:Int)+1)) (D 1)=some (D d):=by
    rw[tQ,<-jv,jD B B];simp
   have⟨I,G⟩:=j.set (th':=an) (left':=left) (se':=set) (tx':=M) (at2:=ae) (lp':=true) dn U hl;simp only[rC]at I G;simp[b,c,g,dN];generalize dT R f _=ef at*
   have aE:=r.step I;have bu:=C.trans I;simp[b,c,RQ,Pn,WM,bi];refine iD c9 J ⟨o,f,p,u,d,1⟩ ⟨⟨rfl,G,z,dq,dq,J⟩,dq⟩ ?_;rintro v ap ⟨l,sv,F,O,Q,K⟩;simp only at sv F O Q K;have aN:=aE.step K;have bN:=bu.trans K;have ey:=Step.cons Q.ok Q.lt (Z 11 0 [(Bh [98] [] ⟨6,0,[],[⟨2,0,[98],[]⟩,⟨1,1,[],[]⟩]⟩).t]);have gi:=K.ok.sz;have⟨gz,eH,eE,e5,gk,e2,_⟩:=(sv.step ey (au _)).app (Q.cons (Z 11 0 [(Bh [98] [] ⟨6,0,[],[⟨2,0,[98],[]⟩,⟨1,1,[],[]⟩]⟩).t])) (x:= .arr ap.size 0 0 1 false) (xs:=[(Bh [98] [] ⟨6,0,[],[⟨2,0,[98],[]⟩,⟨1,1,[],[]⟩]⟩).t]) (l2:=[Bh [98] [] ⟨6,0,[],[⟨2,0,[98],[]⟩,⟨1,1,[],[]⟩]⟩]) dp J (by rw[gh];simp) (.cons (dH.ft _ _) .nil) J J dp;have b6:=e2 _ (bN.trans ey) (by simpa using bu.ok.sz);have l3:=aE.step (e2 _ (K.trans ey) (au _));have H:=e5.gc;have⟨uz,bl,ca,b9,ce⟩:=kN gk b6 (Z 11 0 [.agg [D 0,D 0,.str [],.str [],dw,D 0,D 0,.str [],dw,dw,dw]]) (Z 11 1 [.agg [D 3,D 0,.str [],.str [],dw,D 13,D 0,.str [],sl [(dL.mk 2 0 [98] []).t,(dL.mk 1 2 [] []).t],gz,dw]]);have bs:=b9 _ _ l3;have cb:=ce _ _ _ _ _ e5 (au _);simp only[Bh]at eE;simp[b,c,RQ,Pn,WM,sx,eE,H.1,H.2];generalize dT (eH.cons _) eH.size _=ds at*
   have⟨cp,an,left,set,M,ae,hf,b8,A,g,U,hl⟩:=uz.ex;have⟨N,dd⟩:=uz.set (th':=an) (left':=left) (se':=set) (tx':=M) (at2:=ae) (lp':=aX) g U hl;have fs:=aE.lt;have eR:=bl.lt;have eS:=N.ok.sz;have fin:=qm (cnt:=cnt) (args:=[.ptr f 0 0 0,D (d+1:Nat)]) (op:=3) (nm:=[]) (e:=⟨13,0,[],[⟨2,0,[98],[]⟩,⟨1,2,[],[]⟩]⟩) (le:=[]) (bs.step N) dd (ca.trans N) ((cb.step N B).cell fs B) (jb _ _ _ false) (oy _ _ _ λx bH=>by obtain⟨y,_,rfl⟩:=List.mem_map.1 bH;simp) B (λ_=> .bin B (.nm _) (.num _)) (by simp[dL.kQ,dL.jR,dL.iJ]) (λs A=>(List.mem_append.1 A).elim (λq=>(F s q).1) λq=>by rw[List.mem_singleton.1 q];exact CW J (.bin B (.nm _) (.num _)) (λE=>absurd rfl E)) J (by
    have c6:=xM F;have:=aV (wd d) O;have:=Ky (nm:=[98]) (ix:=[]) (e:=⟨6,0,[],[⟨2,0,[98],[]⟩,⟨1,1,[],[]⟩]⟩) (d:=d) (by rw[dL.iJ];omega) (by simp[dL.kQ,dL.jR,dL.iJ]);rw[dH.HN,dH.jR,dH.iJ];omega)
   have gT:=(bl.step N).get;have gR:=(bs.step N).get;simp only[rC]at g gT gR fin;simp[b,c,g,gT,gR,H.1,H.2,dN];simp at fin;simp[fin.1];exact fin.2
  ·simp[b,c];refine IX ⟨o,f,p,u,d,cnt⟩ J j z r C λe hE m fin=>?_;simp[b,c,sx,m,λnm=>(fin [] nm).1];exact(fin _ _).2
 iterate 2
  ·by_cases L:(decide (0<d)&&decide (0<left)&& !M)=true
   ·simp at L;obtain⟨⟨bk,bz⟩,bB⟩:=L;subst bB;obtain⟨d,rfl⟩:∃e,d=e+1:=⟨d-1,B⟩;have bi:binop .sub (D ((d:Int)+1)) (D 1)=some (D d):=by
     rw[tQ,<-jv,jD B B];simp
    have G:=j.cons (Z 1 0 [.str [109],.str [110]]);have b7:=λ{tb:fw} (ht:tb.h 230=some zo) s=>dm ht [.ptr f 0 0 0,.str s] (R.cons (Z 1 0 [.str [109],.str [110]])) ⟨o,u,f,p,s,rfl,G,B⟩;have I:=Step.cons j.ok j.lt (Z 1 0 [.str [109],.str [110]]);have aE:=r.step I;have de:binop .sub (D 8) (D 8)=some (D 0):=DB B B B;have di:binop .sub (D 9) (D 8)=some (D 1):=DB B B B;simp[b,c,g,bz,b7,de,di];refine dV (λP=>?_) (λP=>?_)
    ·simp[b,c,de,di];have gm:=G.cons (Z 1 0 [.str [109],.str [110]]);have e3:=Step.cons G.ok G.lt (Z 1 0 [.str [109],.str [110]]);have eV:=aE.step e3;simp[bi];refine iD eU J ⟨o,f,p,u,d,_⟩ ⟨⟨rfl,gm,z,dq,dq⟩,dq⟩ ?_;rintro v ap ⟨l,sv,F,O,Q,K⟩;simp only at sv F O Q K;have H:=sv.gc;have aN:=eV.step K;have fin:=λnm=>qm (cnt:=cnt) (args:=[.ptr f 0 0 0,D (d+1:Nat)]) (op:=4) (nm:=nm) (e:=⟨0,0,[],[]⟩) (le:=[]) aN Q (((C.trans I).trans e3).trans K) (sv.cell eV.lt (au _)) (jb _ _ _ false) (jb _ _ _ false) B (λE=>by omega) (by simp[dL.kQ,dL.iJ]) (λs A=>(F s A).1) J (by
      have c6:=xM F;have:=aV (wd d) O;rw[dH.iJ];omega)
     simp only[dL.wK,dL.Gw,dL.o6]at fin;simp[b,c,H.1,H.2,aN.get,λnm=>(fin nm).1];exact(fin _).2
    ·simp[b,c];refine IX ⟨o,f,p,u,d+1,cnt⟩ J G z aE (C.trans I) λe hE m fin=>?_;simp[b,c,sx,m,λnm=>(fin [] nm).1];exact(fin _ _).2
   ·have L:(decide (0<d)&&decide (0<left)&& !M)=false:=by simpa using L
    simp[b,c,g,L];refine IX ⟨o,f,p,u,d,cnt⟩ J j z r C λe hE m fin=>?_;simp[b,c,sx,m,λnm=>(fin [] nm).1];exact(fin _ _).2
 iterate 2
  ·by_cases L:(decide (0<d)&&decide (0<left)&& !M)=true
   ·simp at L;obtain⟨⟨bk,bz⟩,bB⟩:=L;subst bB;obtain⟨d,rfl⟩:∃e,d=e+1:=⟨d-1,B⟩;have bi:binop .sub (D ((d:Int)+1)) (D 1)=some (D d):=by
     rw[tQ,<-jv,jD B B];simp
    have b7:=λ{tb:fw} (ht:tb.h 230=some zo) s=>dm ht [.ptr f 0 0 0,.str s] R ⟨o,u,f,p,s,rfl,j,B⟩;have de:binop .sub (D 10) (D 10)=some (D 0):=DB B B B;have e7:binop .sub (D 11) (D 10)=some (D 1):=DB B B B;have e8:binop .add (D 1) (D 5)=some (D 6):=yT B B B;have di:binop .add (D 0) (D 5)=some (D 5):=yT B B B;simp[b,c,g,bz,b7,de,di,e7,e8];refine dV (λP=>?_) (λP=>?_)
    ·simp[b,c,de,di,e7,e8,bi];refine iD eU J ⟨o,f,p,u,d,_⟩ ⟨⟨rfl,j,z,dq,dq⟩,dq⟩ ?_;rintro v ap ⟨l,sv,F,O,Q,K⟩;simp only at sv F O Q K;have H:=sv.gc;have aN:=r.step K;have fin:=λop (gV:op=5\/op=6) nm=>qm (cnt:=cnt) (args:=[.ptr f 0 0 0,D (d+1:Nat)]) (op:=op) (nm:=nm) (e:=⟨0,0,[],[]⟩) (le:=[]) aN Q (C.trans K) (sv.cell r.lt (au _)) (jb _ _ _ false) (jb _ _ _ false) B (λE=>by omega) (by simp[dL.kQ,dL.iJ]) (λs A=>(F s A).1) J (by
      have c6:=xM F;have:=aV (wd d) O;rw[dH.iJ];omega)
     simp only[dL.wK,dL.Gw,dL.o6]at fin;simp[b,c,H.1,H.2,aN.get,λnm=>(fin 5 (.inl rfl) nm).1,λnm=>(fin 6 (.inr rfl) nm).1];exact(fin _ J _).2
    ·simp[b,c];refine IX ⟨o,f,p,u,d+1,cnt⟩ J j z r C λe hE m fin=>?_;simp[b,c,sx,m,λnm=>(fin [] nm).1];exact(fin _ _).2
   ·have L:(decide (0<d)&&decide (0<left)&& !M)=false:=by simpa using L
    simp[b,c,g,L];refine IX ⟨o,f,p,u,d,cnt⟩ J j z r C λe hE m fin=>?_;simp[b,c,sx,m,λnm=>(fin [] nm).1];exact(fin _ _).2
 ·simp[b,c,g];refine dV (λP=>?_) (λP=>?_)
  ·simp at P;obtain⟨⟨bk,bz⟩,bB⟩:=P;obtain⟨d,rfl⟩:∃e,d=e+1:=⟨d-1,B⟩;have bi:binop .sub (D ((d:Int)+1)) (D 1)=some (D d):=by
    rw[tQ,<-jv,jD B B];simp
   have⟨I,G⟩:=j.set (th':=an) (left':=left) (se':=set) (tx':=true) (at2:=ae) (lp':=aX) dn U hl;simp only[rC]at I G;simp[b,c,g,dN,bi];generalize dT R f _=ef at*
   have aE:=r.step I;have bu:=C.trans I;have⟨cp,an,left,set,M,ae,aX,b8,A,g,U,hl⟩:=G.ex;simp only[rC]at g;simp[b,c,g];refine rh J G.tp G.ok B B z λW bS cL t4 a7=>?_;have⟨al,a8⟩:=G.tape a7 t4;have l4:=aE.step a8;have eb:binop .add (D 1) (D W)=some (D ((1+W:Nat):Int)):=yT J B B;simp[b,c,eb];refine iD c9 J ⟨o,f,p,u,0,1+W⟩ ⟨⟨J,al,z,J,dq,dq⟩,dq⟩ ?_;rintro v ap ⟨l,sv,F,O,Q,K⟩;simp only at sv F O Q K;replace O:l.length<=2:=B;replace sv:=sv.deep (show 2*0+2<=2*d+2 by omega);replace F:∀s∈l,MS s/\s.w<=wd d:=λs A=>⟨(F s A).1,aO (F s A).2 (YV d)⟩;have aN:=l4.step K;have b6:=(bu.trans a8).trans K;have H:=sv.gc;have⟨uz,bl,ca,b9,ce⟩:=kN Q b6 (Z 11 0 [.agg [D 0,D 0,.str [],.str [],dw,D 0,D 0,.str [],dw,dw,dw]]) (Z 11 1 [.agg [D 7,D 0,.str [],.str [],dw,D 0,D 0,.str [],dw,v,dw]]);have bs:=b9 _ _ aN;have cb:=ce _ _ _ _ _ sv (au _);simp[b,c,H.1,H.2];generalize dT (ap.cons _) ap.size _=ds at*
   have⟨cp,an,left,set,M,ae,aX,b8,A,g,U,hl⟩:=uz.ex;have⟨N,dd⟩:=uz.set (th':=an) (left':=left) (se':=set) (tx':=false) (at2:=ae) (lp':=aX) g U hl;have eR:=bl.lt;have eS:=N.ok.sz;have fin:=qm (cnt:=cnt) (args:=[.ptr f 0 0 0,D (d+1:Nat)]) (op:=7) (nm:=[]) (e:=⟨0,0,[],[]⟩) (le:=[]) (bs.step N) dd (ca.trans N) ((cb.step N B).cell l4.lt B) (jb _ _ _ false) (jb _ _ _ false) B (λE=>by omega) (by simp[dL.kQ,dL.iJ]) (λs A=>(F s A).1) J (by
    have c6:=xM F;have:=aV (wd d) O;rw[dH.iJ];omega)
   have gT:=(bl.step N).get;have gR:=(bs.step N).get;simp only[rC,dL.wK,dL.Gw,dL.o6]at g gT gR fin;simp[b,c,g,gT,gR,H.1,H.2,dN,fin.1];exact fin.2
  ·simp[b,c];refine IX ⟨o,f,p,u,d,cnt⟩ J j z r C λe hE m fin=>?_;simp[b,c,sx,m,λnm=>(fin [] nm).1];exact(fin _ _).2
 ·simp[b,c,g];refine dV (λP=>?_) (λP=>?_)
  ·simp at P;obtain⟨⟨⟨bk,bz⟩,bB⟩,eN⟩:=P;obtain⟨d,rfl⟩:∃e,d=e+1:=⟨d-1,B⟩;have bi:binop .sub (D ((d:Int)+1)) (D 1)=some (D d):=by
    rw[tQ,<-jv,jD B B];simp
   have⟨I,G⟩:=j.set (th':=an) (left':=left) (se':=set) (tx':=M) (at2:=true) (lp':=aX) dn U hl;simp only[rC]at I G;simp[b,c,g,dN,bi];generalize dT R f _=ef at*
   have aE:=r.step I;have bu:=C.trans I;refine iD c9 J ⟨o,f,p,u,d,2⟩ ⟨⟨rfl,G,z,dq,dq,J⟩,dq⟩ ?_;rintro v ap ⟨l,sv,F,O,Q,K⟩;simp only at sv F O Q K;have aN:=aE.step K;have b6:=bu.trans K;have H:=sv.gc;have⟨uz,bl,ca,b9,ce⟩:=kN Q b6 (Z 11 0 [.agg [D 0,D 0,.str [],.str [],dw,D 0,D 0,.str [],dw,dw,dw]]) (Z 11 1 [.agg [D 8,D 0,.str [],.str [],dw,D 0,D 0,.str [],dw,v,dw]]);have bs:=b9 _ _ aN;have cb:=ce _ _ _ _ _ sv (au _);simp[b,c,H.1,H.2];generalize dT (ap.cons _) ap.size _=ds at*
   have⟨cp,an,left,set,M,ae,aX,b8,A,g,U,hl⟩:=uz.ex;have⟨N,dd⟩:=uz.set (th':=an) (left':=left) (se':=set) (tx':=M) (at2:=false) (lp':=aX) g U hl;have eR:=bl.lt;have eS:=N.ok.sz;have fin:=qm (cnt:=cnt) (args:=[.ptr f 0 0 0,D (d+1:Nat)]) (op:=8) (nm:=[]) (e:=⟨0,0,[],[]⟩) (le:=[]) (bs.step N) dd (ca.trans N) ((cb.step N B).cell aE.lt B) (jb _ _ _ false) (jb _ _ _ false) B (λE=>by omega) (by simp[dL.kQ,dL.iJ]) (λs A=>(F s A).1) J (by
    have c6:=xM F;have:=aV (wd d) O;rw[dH.iJ];omega)
   have gT:=(bl.step N).get;have gR:=(bs.step N).get;simp only[rC,dL.wK,dL.Gw,dL.o6]at g gT gR fin;simp[b,c,g,gT,gR,H.1,H.2,dN,fin.1];exact fin.2
  ·simp[b,c];refine IX ⟨o,f,p,u,d,cnt⟩ J j z r C λe hE m fin=>?_;simp[b,c,sx,m,λnm=>(fin [] nm).1];exact(fin _ _).2
 ·by_cases L:(decide (0<d)&&decide (0<left)&& !M&& !ae)=true
  ·simp at L;obtain⟨⟨⟨bk,bz⟩,bB⟩,eN⟩:=L;subst bB;subst eN;obtain⟨d,rfl⟩:∃e,d=e+1:=⟨d-1,B⟩;have b7:=λ{tb:fw} (ht:tb.h 230=some zo) s=>dm ht [.ptr f 0 0 0,.str s] R ⟨o,u,f,p,s,rfl,j,B⟩;simp[b,c,g,bz,b7];refine dV (λP=>?_) (λP=>?_)
   ·simp[b,c,g,Pn,sx];have eh:(E.size=R.size)=False:=by have:=r.lt;simp;omega
    have sv:=SV.lit (d:=2*d+2) (l:=[AR 9,Bh [97] [] ⟨2,0,[120],[]⟩]) (es:=[.agg [D 9,D 0,.str [99],.str [],dw,D 0,D 0,.str [],dw,dw,dw],(Bh [97] [] ⟨2,0,[120],[]⟩).t]) j (λ_ _=> .cons (O6 _ _) (.cons (dH.ft _ _) .nil));have dk:=Step.cons j.ok j.lt (Z 11 0 [.agg [D 9,D 0,.str [99],.str [],dw,D 0,D 0,.str [],dw,dw,dw],(Bh [97] [] ⟨2,0,[120],[]⟩).t]);have et:=r.step dk;have fin:=qm (cnt:=cnt) (args:=[.ptr f 0 0 0,D (d+1:Nat)]) (op:=4) (nm:=[109]) (e:=⟨0,0,[],[]⟩) (le:=[]) et (j.cons _) (C.trans dk) (sv.cell r.lt J) (jb _ _ _ false) (jb _ _ _ false) B (λE=>by omega) (by simp[dL.kQ,dL.iJ]) (λs A=>by
     rcases List.mem_cons.1 A with rfl|A
     ·exact O0 B
     ·rw[List.mem_singleton.1 A];exact CW J (.nm _) (λE=>absurd rfl E)) J (by
     have:=Bl d;simp[dH.jR,dH.iJ,Uo,Bh,dH.kQ (dH.mk 1 0 [97] [] [] (dL.mk 2 0 [120] []) [] []),dL.kQ,dL.iJ];omega)
    simp only[dL.wK,dL.Gw,dL.o6,Bh]at fin;simp at fin;simp[b,c,eh,r.get,fin.1];exact fin.2
   ·simp[b,c];refine IX ⟨o,f,p,u,d+1,cnt⟩ J j z r C λe hE m fin=>?_;simp[b,c,sx,m,λnm=>(fin [] nm).1];exact(fin _ _).2
  ·have L:(decide (0<d)&&decide (0<left)&& !M&& !ae)=false:=by simpa using L
   simp[b,c,g,L];refine IX ⟨o,f,p,u,d,cnt⟩ J j z r C λe hE m fin=>?_;simp[b,c,sx,m,λnm=>(fin [] nm).1];exact(fin _ _).2
 ·by_cases L:(decide (0<d)&&decide (0<left)&& !M)=true
  ·simp at L;obtain⟨⟨bk,bz⟩,bB⟩:=L;subst bB
   skip
   obtain⟨d,rfl⟩:∃e,d=e+1:=⟨d-1,B⟩;have b7:=λ{tb:fw} (ht:tb.h 230=some zo) s=>dm ht [.ptr f 0 0 0,.str s] R ⟨o,u,f,p,s,rfl,j,B⟩;simp[b,c,g,bz,b7];refine dV (λP=>?_) (λP=>?_)
   ·simp[b,c,g,Pn,sx];refine rh J j.tp j.ok B B z λW bS cL t4 a7=>?_;have⟨al,a8⟩:=j.tape a7 t4;have l4:=r.step a8;have eb:binop .add (D 10) (D W)=some (D (10+W)):=yT J B B;simp[b,c,eb];have eh:(E.size=bS.size)=False:=by have:=l4.lt;simp;omega
    have sv:=SV.lit (d:=2*d+2) (l:=[AR (10+W)]) (es:=[.agg [D (10+W),D 0,.str [99],.str [],dw,D 0,D 0,.str [],dw,dw,dw]]) al (λ_ _=> .cons (O6 _ _) .nil);have dk:=Step.cons al.ok al.lt (Z 11 0 [.agg [D (10+W),D 0,.str [99],.str [],dw,D 0,D 0,.str [],dw,dw,dw]]);have et:=l4.step dk;have fin:=qm (cnt:=cnt) (args:=[.ptr f 0 0 0,D (d+1:Nat)]) (op:=4) (nm:=[109]) (e:=⟨0,0,[],[]⟩) (le:=[]) et (al.cons _) ((C.trans a8).trans dk) (sv.cell l4.lt J) (jb _ _ _ false) (jb _ _ _ false) B (λE=>by omega) (by simp[dL.kQ,dL.iJ]) (λs A=>by rw[List.mem_singleton.1 A];exact O0 B) J (by
     have:=Bl d;simp[dH.jR,dH.iJ,Uo,Bh,dH.kQ (dH.mk 1 0 [97] [] [] (dL.mk 2 0 [120] []) [] []),dL.kQ,dL.iJ];omega)
    simp only[dL.wK,dL.Gw,dL.o6,Bh]at fin;simp at fin;simp[b,c,eh,l4.get,fin.1];exact fin.2
   ·simp[b,c];refine IX ⟨o,f,p,u,d+1,cnt⟩ J j z r C λe hE m fin=>?_;simp[b,c,sx,m,λnm=>(fin [] nm).1];exact(fin _ _).2
  ·have L:(decide (0<d)&&decide (0<left)&& !M)=false:=by simpa using L
   simp[b,c,g,L];refine IX ⟨o,f,p,u,d,cnt⟩ J j z r C λe hE m fin=>?_;simp[b,c,sx,m,λnm=>(fin [] nm).1];exact(fin _ _).2
 ·simp[b,c,g];refine dV (λP=>?_) (λP=>?_)
  ·have⟨I,G⟩:=j.set (th':=an) (left':=left) (se':=true) (tx':=M) (at2:=ae) (lp':=aX) dn U hl;simp only[rC]at I G;simp[b,c,g,dN];generalize dT R f _=ef at*
   have aE:=r.step I;have bu:=C.trans I;refine iD c4 J ⟨o,f,p,u,1⟩ ⟨⟨rfl,G,z,J⟩,J⟩ ?_;rintro _ hE ⟨e,rfl,bn,bC,aA,V⟩;simp only at bC aA V;have⟨av,X⟩:=G.tape V aA;have m:=aE.step X;have fin:=Gx (i:=⟨o,f,p,u,d,cnt⟩) (args:=[.ptr f 0 0 0,D d]) (cs:=[D 14,D 0,.str [102],.str [],dw,D e.op,D e.n,.str e.name,sl (e.l.map dL.t),dw,dw]) (s:=⟨14,0,[102],[],[],e,[],[]⟩) m av (bu.trans X) rfl
    (.cons (fZ ..) (.cons (fZ ..) (.cons (jU ..) (.cons (jU ..) (.cons (jb ..) (.cons (fZ ..) (.cons (fZ ..) (.cons (jU ..) (.cons (oy _ _ _ λx bH=>by obtain⟨y,_,rfl⟩:=List.mem_map.1 bH;simp) (.cons (jb ..) (.cons (jb ..) .nil)))))))))))
    (.mk (λE=>by simp at E) (λE=>by simp at E) J (λ_=>bn) J J) (by
      have:=Bl d;rw[dH.kQ];simp only[dH.qV,dH.I3,dH.un,dH.xy,dH.iJ,dL.iJ];omega)
   simp[b,c,m.get,fin.1];exact fin.2
  ·simp[b,c];refine IX ⟨o,f,p,u,d,cnt⟩ J j z r C λe hE m fin=>?_;simp[b,c,sx,m,λnm=>(fin [] nm).1];exact(fin _ _).2
 ·cases M with
  |true=>
   simp[b,c,g];refine IX ⟨o,f,p,u,d,cnt⟩ J j z r C λe hE m fin=>?_;simp[b,c,sx,m,λnm=>(fin [] nm).1];exact(fin _ _).2
  |false=>
   simp[b,c,g];refine rh J j.tp j.ok B B z λW bS cL t4 a7=>?_;have⟨al,a8⟩:=j.tape a7 t4;have l4:=r.step a8;have bN:=C.trans a8;simp[b,c];refine dV (λP=>?_) (λP=>?_)
   ·have fin:=Gx (i:=⟨o,f,p,u,d,cnt⟩) (args:=[.ptr f 0 0 0,D d]) (cs:=[D 15,D 0,.str [97],.str [102],dw,D 0,D 0,.str [],dw,dw,dw]) (s:=⟨15,0,[97],[102],[],⟨0,0,[],[]⟩,[],[]⟩) l4 al bN rfl
     (.cons (fZ ..) (.cons (fZ ..) (.cons (jU ..) (.cons (jU ..) (.cons (jb ..) (.cons (fZ ..) (.cons (fZ ..) (.cons (jU ..) (.cons (jb ..) (.cons (jb ..) (.cons (jb ..) .nil)))))))))))
     (.mk (λE=>by simp at E) (λE=>by simp at E) J (λE=>by simp at E) J J) (by
       have:=Bl d;rw[dH.kQ,dL.kQ];simp only[dH.qV,dH.I3,dH.un,dH.xy,dH.iJ,dL.iJ,dL.EP];omega)
    simp[b,c,l4.get,fin.1];exact fin.2
   ·simp[b,c];refine IX ⟨o,f,p,u,d,cnt⟩ J al z l4 bN λe hE m fin=>?_;simp[b,c,sx,m,λnm=>(fin [] nm).1];exact(fin _ _).2
def aeY(a:Nat):(U2 a).Ok prog cx 131:=
 yY (λc:Qi=>c.d) (λa b=>aaJ (a+1) (aaI a b (abS a b))) a
end
end Go.Proofs.YtbappgeamhmmbaaGreatDoor
namespace Go.TI
noncomputable section
section
@[simp]def ZL (a:H) (b:iI):(a.cons b).size=a.size+1:=id rfl
def ir.GE{b h:Type}{c:b->h->Prop}{e:List b}{f:List h}(j:ir c e f){g:b}(d:g∈e):∃a∈f,c g a:=by
 induction j with
 |nil=>simp at d
 |cons i _ l=>
  rcases List.mem_cons.1 d with rfl|q
  ·exact⟨_,J,i⟩
  ·have⟨a,k,m⟩:=l q;exact⟨a,by simp[k],m⟩
section
variable {cx:Ctx}{cf:iH}{G n:Nat}{dl:DL}
def abZ{f:Out}{e:Env->H->Prop}{c:iq}(i:W f (xn e c))(j:∀a b,e a b->c.n a b):W f c:=by
 obtain⟨g,a,b,h,d⟩:=i;refine⟨g,a,b,h,?_⟩;cases g with
 |normal=>exact j a b d
 |exit k=>exact d
 |ret=>exact d
def PQ{g:Out}{d:iq}(e:fH->H->Prop)(i:W g (xn (λb a=>b.tmps= .nil/\e b.vars a) d))(j:∀c a,e c a->d.n ⟨c,.nil⟩ a):W g d:=
 abZ i λb a ⟨h,f⟩=>by obtain⟨c,k⟩:=b;simp only at h f;subst h;exact j c a f
def lf{f:Bool}{g h:Code}{b:Env}{a:H}{d:iq}(c:fH->H->Prop)(k:f=true->W (jk cx cf n G dl g b a) (xn (λb a=>b.tmps= .nil/\c b.vars a) d))(l:f=false->W (jk cx cf n G dl h b a) (xn (λb a=>b.tmps= .nil/\c b.vars a) d))
 (i:∀j a,c j a->d.n ⟨j,.nil⟩ a):CK (some (.bool f)) cx cf n G dl g h b a d:=by
 refine dV (λe=>?_) (λe=>?_)
 ·exact PQ c (k e) i
 ·exact PQ c (l e) i
end
end
section
@[simp]def ag4 (a:Nat):(a=a+1)=False:=J 
@[simp]def ag3 (a:Nat):(a=a+1+1)=False:=dp 
@[simp]def ag2 (a:Nat):(a=a+1+1+1)=False:=dp 
@[simp]def ag1 (a:Nat):(a=a+1+1+1+1)=False:=dp 
@[simp]def ag0 (a:Nat):(a=a+1+1+1+1+1)=False:=dp 
def II{c:H}{b:T}{d:List T}(a:c.jf b=some d)(f:iI):(c.cons f).jf b=some d:=by
 cases b<;>first|exact a|(simp[H.jf]at a;done)|skip
 rename_i g h k j i;rw[gh]at a|-;obtain⟨l,e,_⟩:=dB.1 a;rw[dO,ao (by have:=H.ej e;omega)];exact a
def ly{cx:Ctx}{a:H}{sz:Nat}(F:gH 0 a){g h f:ab}{m n b:Ty}(s:cx.ty g=some m)(t:m.u= .slice f)(v:cx.ty f=some b)(w:cx.ty h=some n)(y:n.u= .slice f)(j:b.size=sz)(A:1<=b.bytes)
 {x:T} {xs:List T} (E:a.jf x=some xs) (k:∀q∈xs,q.cells.length=sz) (I:xs.length*b.bytes<=70368744177664):
 ∃i d,iN cx (a.cons ⟨sz,0,0,true,false,[]⟩) g h (.arr a.size 0 0 0 false) x=some (.val (.arr a.size i 0 xs.length false) d)/\(∃G r,d.get a.size=some ⟨sz,i,G,r,false,xs⟩)/\d.size=a.size+1/\(∀c,c<a.size->d.get c=a.get c)/\gH 0 d:=by
 have z:iN cx (a.cons ⟨sz,0,0,true,false,[]⟩) g h (.arr a.size 0 0 0 false) x=jl ((a.cons ⟨sz,0,0,true,false,[]⟩).append b.size b.bytes (.arr a.size 0 0 0 false) xs):=by
  unfold iN pS m7;rw[s,dS,w,dS];simp only[t,v,y,II E,dS];rw[j,m8 k,il]
 rw[z,j];have l:=F.cons ⟨sz,0,0,true,false,[]⟩;have e:(a.cons ⟨sz,0,0,true,false,[]⟩).get a.size=some ⟨sz,0,0,true,false,[]⟩:=J;cases xs with
 |nil=>exact⟨0,a.cons ⟨sz,0,0,true,false,[]⟩,rfl,⟨0,true,e⟩,rfl,λc C=>by rw[dO,ao B],l⟩
 |cons o p=>
  refine⟨1,dT (a.cons ⟨sz,0,0,true,false,[]⟩) a.size ⟨sz,1,1,false,false,o::p⟩,?_,⟨1,false,by rw[dF e,aq rfl]⟩,by rw[fI];rfl,λc C=>by rw[dF e,ao B,dO,ao B],l.put _ _⟩;show jl ((a.cons ⟨sz,0,0,true,false,[]⟩).ma sz b.bytes a.size 0 ([]:List T).length (o::p))=_;rw[vD e k A (by grind)];rfl
def oQ(c:H)(d:Nat)(b:T)(a:List T):Prop:=b=sl a\/Gr c b d a
def oQ.jf{b:H}{e:Nat}{c:T}{a:List T}(d:oQ b e c a):b.jf c=some a:=by
 rcases d with rfl|g
 ·simp
 ·exact g.jf
def oQ.mono{d h':H}{e:Nat}{b:T}{c:List T}(h:oQ d e b c)(g:∀a,dM b=some a->h'.get a=d.get a):oQ h' e b c:=h.imp id λf=>f.mono g
def oQ.len{cx:Ctx}{f:H}{j:Nat}{e:T}{c:List T}(i:oQ f j e c)(a:H)(b:Ty)(d:ab)(h:b.u= .slice d):Dk cx a b e=some (.val (.int .i64 c.length) a):=by
 rcases i with rfl|g
 ·simp_all
 ·exact g.len a b d h
theorem oQ.fg{c:H}{e:Nat}{a:T}{b:List T}(d:oQ c e a b):a.fg=true/\a.cells=[a]:=by
 rcases d with rfl|g
 ·cases b<;>exact⟨rfl,rfl⟩
 ·exact⟨g.fg,g.cells⟩
def oQ.idx{b:H}{e:T}{a:List T}(m:oQ b 1 e a){te:Ty}(l:te.size=1)(j:te.isAgg=false){i:Nat}{x:T}(k:a[i]? =some x)(r:x.cells=[x]):∃d,kw b te e i=some (.val d b)/\b.load te d=some x:=by
 have hr:j4 te [x]=some x:=by unfold j4;rw[j];rfl
 have c:i<a.length:=by
  grind
 rcases m with rfl|g
 ·simp_all
 ·have⟨n,p,s,q,t,_,f,h,o⟩:=g.IG l c;refine⟨_,f,?_⟩;have:a[i]=x:=by rw[ay c]at k;grind
  rw[VF,h];simp_all
def oQ.ft{h:H}{V:Nat->Prop}{q d:Nat}{f:T}{b:List T}(p:oQ h q f b)(e:∀a∈b,cn a=a/\jJ a=true/\∀k,a≠ .agg k)(i:∀c,dM f=some c->V c):FT h V (d+2) f (sl b):=by
 rcases p with rfl|g
 ·grind [oy]
 ·have j:=g.jf;rcases g with⟨rfl,rfl⟩|⟨c,l,v,s,w,rfl,m,n⟩
  ·simp[jb]
  ·refine .inr (.inl ⟨c,l,0,_,false,b,b,rfl,i c rfl,j,?_,rfl⟩);clear j i n m;induction b with
   |nil=>exact .nil
   |cons a u o=>exact .cons (.inl ⟨(e a J).2.1,(e a J).2.2,(e a J).1.symm⟩) (o λr t=>e r (by grind))
structure Nb(h h':H):Prop where
 ok:gH h.size h'
 get:∀c,c<h.size->h'.get c=h.get c
def Nb.refl{a:H}(b:gH 0 a):Nb a a:=⟨⟨b.hp,b.low,au _⟩,λ_ _=>rfl⟩
def Nb.trans{d e f:H}(b:Nb d e)(a:Nb e f):Nb d f:=⟨⟨a.ok.hp,a.ok.low,aO b.ok.sz a.ok.sz⟩,λc g=>(a.get c (bp g b.ok.sz)).trans (b.get c g)⟩
theorem Nb.cons{b c:H}(a:Nb b c)(d:iI):Nb b (c.cons d):=⟨a.ok.cons d,λe f=>by rw[dO,ao (by have:=a.ok.sz;omega)];exact a.get e f⟩
theorem Nb.put{b d:H}(e:Nb b d){a:Nat}{x:iI}(h:d.get a=some x)(i:b.size<=a)(f:iI):Nb b (dT d a f):=⟨e.ok.put a f,λc g=>by rw[dF h,ao B];exact e.get c g⟩
def Nb.step{b f:H}(a:Nb b f){d:Nat}(g:d<b.size):Step d b f:=⟨a.ok,λe c _=>a.get e c,λe c=>by rw[iL (a.get d g)]at c;grind⟩
def Nb.hr{a d:H}(b:Nb (TI.hr a) d):Nb a d:=⟨b.ok,λc e=>(b.get c e).trans (gu a c)⟩
def Nb.out{h b:H}(c:Nb (TI.hr h) b):Nb h (lM h b):=⟨c.ok.out h,λa d=>(fO h b a).trans ((c.get a d).trans (gu h a))⟩
def Gr.new{b:H}{a c ep ver:Nat}{ex:Bool}{es:List T}(d:b.get a=some ⟨c,ep,ver,ex,false,es⟩):Gr b (.arr a ep 0 es.length false) c es:= .inr ⟨a,ep,ver,ex,es,rfl,d,aJ⟩
def m9.one{h:H}{w szw ver i0:Nat}{F:List (T×aa (Nat×List T))}(s:gH 0 h)(i:h.get w=some ⟨szw,0,ver,true,false,[.agg (F.map (·.1))]⟩)(n:∀a∈F,Xl h szw a)(f:∀(b:Nat) d,F[b]? =some d->dM d.1≠none->b=i0):
 m9 h w szw ver F/\∀c,Fp h w c->c=w\/∃a,F[i0]? =some a/\dM a.1=some c:=by
 refine⟨⟨s,i,n,λb r q d k l m c t u=>q ((f b d l (by rw[t];simp)).trans (f r k m (by rw[u];simp)).symm)⟩,λc e=>?_⟩;rcases e with e|⟨x,g,v,j,e⟩
 ·omega
 ·rw[i]at g;simp only[ar]at g;subst g;simp only[eY,cM,dc,cj,T.cells]at j;obtain⟨a,o,rfl⟩:=List.mem_map.1 j;have⟨b,p⟩:=cH o;have:=f b a p (by rw[e];simp)
  grind
section
variable {cx:Ctx}{cf:iH}{G:Nat}
@[simp low] theorem acj (n:aa Nat) (l:T) (j:af Oper) (a:List (Nat×Nat)) (f:aa Tmp) (h:List Oper) (b:Nat) (i:List (Nat×Nat)) (c:List (Nat×H×H)) (m k:fH) (g:H) (e:iq) (q:kW a b=false) (p:(c.all λd=> !zO a d.1 b)=true):DLK n l cx cf G j a f h b i c m k g e=P8 l cx cf G j a f h (b+1) i c m k g e:=by
 cases n with
 |none=>rfl
 |some o=>
  have hl:ml a b o c=True:=by
   simp only[eq_iff_iff,iff_true];intro d s r;have:=List.all_eq_true.1 p d s;rw[r]at this;grind
  rw[P9,hl,q,true_and];rfl
end
def H6{a x:T}(c:∀b,a≠ .agg b):lj a 0 [x]=some x:=by
 cases a<;>first|rfl|grind
def oQ.na{d:H}{f:Nat}{b:T}{a:List T}(e:oQ d f b a):∀c,b≠ .agg c:=by
 rcases e with rfl|g
 ·cases a<;>simp[sl]
 ·rcases g with⟨rfl,_⟩|⟨h,i,k,j,l,rfl,_⟩<;>simp
def Gr.setAt{j h':H}{f:T}{k a l b s ver2:Nat}{n ex2:Bool}{i h:List T}(o:Gr j f k i)(d:dM f=some a)(q:j.get a=some ⟨l,b,s,n,false,h⟩)(e:Nat)(g:T)(r:h'.get a=some ⟨l,b,ver2,ex2,false,h.set e g⟩):Gr h' f k (i.set e g):=by
 rcases o with⟨rfl,_⟩|⟨m,t,v,u,w,rfl,c,p⟩
 ·simp at d
 ·simp only[Ag,ar]at d;subst d;rw[q]at c;simp only[ar,iI.mk.injEq]at c;obtain⟨rfl,rfl,rfl,rfl,_,rfl⟩:=c;exact .inr ⟨m,b,ver2,ex2,h.set e g,by rw[cG],r,by rw[cG,List.take_set,p]⟩
def ir.set{d e:Type}{f c:d->e->Prop}{i:List d}{j:List e}(b:ir f i j)(a:Nat){k:d}{l:e}(m:c k l)(h:∀b g,f b g->c b g):ir c (i.set a k) (j.set a l):=by
 induction b generalizing a with
 |nil=>exact .nil
 |cons o p n=>
  cases a with
  |zero=>exact .cons m (p.imp h)
  |succ a=>exact .cons (h _ _ o) (n a)
def ir.VB{b c j:Type}{d:b->c->Prop}{e:b->j->Prop}{f:c->j}{h:List b}{i:List c}(a:ir d h i)(k:∀a g,d a g->e a (f g)):ir e h (i.map f):=by
 induction a with
 |nil=>exact .nil
 |cons m n l=>exact .cons (k _ _ m) l
def FT.tup{c:H}{f:Nat->Prop}{d h:Nat}(k:h<=11)(j:∀a,f a->d<=a){b g:List T}(l:ir (FT c f h) b g)(a:Bool):∃i,iZ c d (.tuple [.agg b,.bool a])=some i/\cn i= .tuple [.agg g,.bool a]:=by
 have⟨r0,e,n⟩:=FT.top k j l;refine⟨.tuple [r0,.bool a],?_,?_⟩
 ·have e:j7 c d (.agg b)=some r0:=e;show(M (fG (j7 c d) [.agg b,.bool a]) λm=>some (T.tuple m))=_;rw[jp,e];rfl
 simp_all[tN]
def Gr.ft{c:H}{V:Nat->Prop}{e:T}{m d:Nat}{a b:List T}(i:Gr c e m a)(k:∀h,dM e=some h->V h)(f:ir (FT c V d) a b):FT c V (d+1) e (sl b):=by
 have l:=i.jf;rcases i with⟨rfl,rfl⟩|⟨g,j,q,n,r,rfl,o,p⟩
 ·cases f;simp[jb]
 ·exact .inr (.inl ⟨g,j,0,_,false,a,b,rfl,k g rfl,l,f,rfl⟩)
def Gr.at{f:H}{h x:T}{g i:Nat}{a:List T}(k:Gr f h g a)(o:a[i]? =some x):∃b c j e d,h= .arr b c 0 a.length false/\f.get b=some ⟨g,c,j,e,false,d⟩/\d[i]? =some x/\i<a.length:=by
 have n:i<a.length:=by
  grind
 rcases k with⟨rfl,rfl⟩|⟨b,c,j,e,d,rfl,l,m⟩
 ·grind
 grind
def oQ.qA{b:H}{j:Nat}{e:Type}{f:e->T}{d:T}{c:List e}(i:oQ b j d (c.map f))(k:∀a,cn (f a)=f a)(h:∀a,wn b 11 (f a)=some (f a)):TI.qA b d=some (sl (c.map f)):=by
 rcases i with rfl|g
 ·simp_all
 ·exact g.qA h
def mE{b:H}{a c:Nat}{f:iI}(e:b.get a=some f)(d:c≠a)(g:iI):em b (dT b a g) c=true:=eQ (by rw[dF e,ao d])
def mn{c:H}{b:Nat}(f:Hp c)(e:b<c.size)(d:iI)(a:Nat):(dT c b d).get a=if a=b then some d else c.get a:=get_put f e d a
@[simp]def ag7 (a:Nat):(a<a+1+1)=True:=dp 
@[simp]def ag6 (a:Nat):(a<a+1+1+1)=True:=dp 
@[simp]def ag5 (a:Nat):(a<a+1+1+1+1)=True:=dp 
@[simp high] theorem af9 {e:ai} {cx:Ctx} (d:fw) (b:aj) (a:List T) (c:H) (g:d.p b=none):pK e cx d b a c=hl e cx d b a c:=by
 unfold pK;cases PE c a with
 |none=>rfl
 |some f=>grind [A0]
def iV{b c:H}{a:Nat}(d:b.get a=none):em b c a=true:=by unfold em;rw[d]
def kZ(b:H){a:Nat}(d:b.size<=a):b.get a=none:=by
 cases c:b.get a with
 |none=>rfl
 |some e=>have:=H.ej c;omega
def Gr.Fv{cx:Ctx}{a:H}{h:T}{b:Nat}{f:List T}(q:Gr a h b f)(l:gH 0 a){g i:ab}{m d:Ty}(j:cx.ty g=some m)(k:m.u= .slice i)(r:cx.ty i=some d)(t:d.size=b)(s:1<=d.bytes){x:T}(w:x.cells.length=b)(v:(f.length+1)*d.bytes<=70368744177664):
 ∃e c,iN cx (a.cons ⟨b,0,0,true,false,[x]⟩) g g h (.arr a.size 0 0 1 false)=some (.val e c)/\Xt a h b (f++[x]) e c:=by
 have n:=(Xt.refl q l).cons ⟨b,0,0,true,false,[x]⟩;have⟨e,c,p,o⟩:=Gr.app (cx:=cx) n.1 (l.cons _) (x:= .arr a.size 0 0 1 false) (xs:=[x]) j k r j k t s (by rw[gh];simp) (by grind) J B;exact⟨e,c,p,n.trans o.xt⟩
