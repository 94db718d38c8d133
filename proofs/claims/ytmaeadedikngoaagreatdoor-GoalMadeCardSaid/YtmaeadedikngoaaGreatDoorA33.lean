/- Texts WOd to WOh. -/
import Derived.Test.YtmaeadedikngoaaGreatDoorA32
set_option linter.unusedVariables false
set_option linter.unusedSimpArgs false
set_option maxRecDepth 100000
set_option maxHeartbeats 8000000
namespace Go.Proofs.YtmaeadedikngoaaGreatDoor
noncomputable section
open Go Go.TI
attribute [-simp] List.map_take List.map_drop List.map_append fi ei dT Bool.not_or Bool.not_and
attribute [simp] fh ew
attribute [-simp] size_cons
structure Tb(h h':H)(v:T)(l:List Int):Prop where
 g:Gr h' v 1 (fD l)
 ok:gh h.size h'
 fr:∀c,c<h.size->dE v≠some c->h'.get c=h.get c
theorem MO:nZ Tryz.prog cx 219 (λa:Int=>[.int .i64 a]) (λ_=>True) (λ_ d=>d= .bool false):=by
 refine jk (tb:=⟨pt [],ht []⟩) dX dU (iN 5 [] Tryz.func219) (λ_=>10) (λa e c=>by simpa using c) (by simp) (by simp[Tryz.f219]) ?_
 rintro(a:Int) _ f b
 simp at b
 simp[Tryz.f219,b]
def CA:fK:=⟨Int×Int,λa=>[.int .i64 a.1,.int .i64 a.2],λa=>True,λa=> .bool (decide (a.1<a.2)),λa c b=>by simp at b;rw[b.1,b.2]⟩
theorem T4:CA.Ok Tryz.prog cx 172:=by
 refine f8 (tb:=⟨pt [(219,MO.jl)],ht []⟩) dX dU (iN 19 [] Tryz.func172) (λa=>1) (by simp[CA]) (by simp[CA,Tryz.f172]) ?_
 rintro⟨a,c⟩ _ h b
 simp[CA]at b|-
 obtain⟨e,f⟩:=b
 obtain⟨_,rfl,d⟩:=MO.use a trivial
 obtain⟨_,rfl,g⟩:=MO.use c trivial
 simp[Tryz.f172,e,f,d]
theorem Oh{c:eG}(ht:c.p 172=some CA)(a b:Int):rl Tryz.prog cx c 172 [.int .i64 a,.int .i64 b]=some (.bool (decide (a<b))):=fR ht T4 (a,b) trivial
structure OS where
 (A:List Int) (t:Int) (v:T)
def Ss(a:OS)(c:List T)(b:H):Prop:=c=[a.v,.int .i64 0,.int .i64 ((a.A++[a.t]).length:Nat)]/\Gr b a.v 1 (fD (a.A++[a.t]))/\gh 0 b/\G9 a.A/\a.t∉a.A/\a.A.length<=10
def Dy(a:OS)(d:List T)(b:H)(e:T)(c:H):Prop:=Tb b c a.v (lf a.A a.t)
theorem Ib{d:Int}:∀{b a:List Int},(∀c∈b,c<d)->(∀c∈a,d<c)->lf (b++a) d=b++d::a:=by
 intro b
 induction b with
 |nil=>
  intro a _ e
  cases a with
  |nil=>rfl
  |cons f a=>have:=e f (by simp);simp[lf];rw[ao (by omega),ao (by omega)]
 |cons c b i=>intro a g e;have:=g c (by simp);simp only[cB,lf];rw[aq this,i (λf h=>g f (by simp[h])) e]
theorem Kh{b:List Int}{c:Int}{a:Nat}(d:a<b.length):((fD (b.take (a+1)++c::b.drop (a+1))).set (a+1) (.int .i64 b[a])).set a (.int .i64 c)=fD (b.take a++c::b.drop a):=by
 have e:(b.take a).length=a:=by simp;omega
 rw[bj d,aJ d]
 simp only[fD,List.map_append,aU,aI,cB,cy]
 have f:(List.map (T.int .i64) (b.take a)).length=a:=by simpa using e
 rw[List.set_append_right _ _ (by omega),List.set_append_right _ _ (by omega),f]
 simp
theorem KJ:(jM OS Ss Dy).Ok Tryz.prog cx 166:=by
 refine iU (tb:=⟨pt [(172,CA)],ht []⟩) dX dU (iN 1073746119 [] Tryz.func166) (λ_ _=>100) (λi a e av=>by obtain⟨rfl,_⟩:=av;simp[Tryz.f166]) ?_
 rintro⟨b,f,o⟩ _ e ⟨rfl,Y,G,N,ht,hl⟩ h al
 simp only at Y N ht hl
 simp at al
 obtain⟨p,n,m⟩:=al
 simp[Tryz.f166,n]
 have bu:Gr (TI.hr e) o 1 (fD (b++[f])):=Y.mono λl _=>fU e l
 have bi:binop .add (.int .i64 0) (.int .i64 1)=some (.int .i64 1):=fQ (by omega) (by omega)
 simp[bi]
 refine mF (b.length+1) (λk h h'=>1<=k/\Tb e (kV e h') o (if k<=b.length then b++[f]else lf b f)/\gh e.size h'/\TI.dt h 0=some o/\TI.dt h 1=some (.int .i64 0)/\TI.dt h 2=some (.int .i64 ((b.length:Int)+1))/\TI.dt h 6=some (.int .i64 k)) ?_ (by omega) (k:=1) (by omega) ?_
 ·rintro k h h' b7 ⟨b6,v,H,p,n,m,q⟩
  have ca:gh 0 h':=⟨H.hp,H.low,aw _⟩
  by_cases b8:k<b.length+1
  ·have O:binop .add (.int .i64 (k:Int)) (.int .i64 1)=some (.int .i64 ((k:Int)+1)):=fQ (by omega) (by omega)
   rw[aq (by omega)]at v
   have M:Gr h' o 1 (fD (b++[f])):=v.g.mono λl _=>(fj e h' l).symm
   have bv:binop .sub (.int .i64 (k:Int)) (.int .i64 1)=some (.int .i64 ((k-1:Nat):Int)):=by rw[kl (by omega) (by omega)];congr 2;omega
   simp[m,q,show(k:Int)<b.length+1 by omega]
   by_cases ap:k<b.length
   ·obtain⟨p1,J,K⟩:=(show nz h' 1 o _ from .inr M).idx (te:=Dj) rfl rfl (i:=k) (x:= .int .i64 b[k]) (by simp[List.getElem?_append,ap]) rfl
    obtain⟨p2,aX,a6⟩:=(show nz h' 1 o _ from .inr M).idx (te:=Dj) rfl rfl (i:=k-1) (x:= .int .i64 b[k-1]) (by simp[List.getElem?_append,show k-1<b.length by omega]) rfl
    have S:¬b[k]<b[k-1]:=by
     have:=List.pairwise_iff_getElem.1 N (k-1) k (by omega) ap (by omega);omega
    refine mF 1 (λ_ h j=>h'=j/\TI.dt h 0=some o/\TI.dt h 1=some (.int .i64 0)/\TI.dt h 2=some (.int .i64 ((b.length:Int)+1))/\TI.dt h 6=some (.int .i64 k)/\TI.dt h 7=some (.int .i64 k)) ?_ (by omega) (k:=0) (by omega) (by simp[p,n,m,q])
    rintro _ h _ _ ⟨rfl,p,n,m,q,z⟩
    simp[p,n,m,q,z,J,K,aX,a6,bv,Oh,S,O]
    exact⟨k+1,by omega,by omega,by omega,by rw[aq (by omega)];exact v,H,by simp⟩
   ·have bn:k=b.length:=by omega
    subst bn
    have bk:=v.fr
    refine mF b.length (λV h j=>∃r,r+V=b.length/\Gr j o 1 (fD (b.take r++f::b.drop r))/\gh e.size j/\(∀d,d<e.size->dE o≠some d->j.get d=e.get d)/\(∀x∈b.drop r,f<x)/\TI.dt h 0=some o/\TI.dt h 1=some (.int .i64 0)/\TI.dt h 2=some (.int .i64 ((b.length:Int)+1))/\TI.dt h 6=some (.int .i64 b.length)/\TI.dt h 7=some (.int .i64 r)) ?_ (by omega) (k:=0) (by omega) ⟨b.length,by omega,by simpa using M,H,λd A u=>(fj e h' d).symm.trans (bk d A u),by simp,by simp[p,n,m,q]⟩
    rintro V h j av ⟨r,bX,F,s,X,an,p,n,m,q,z⟩
    have cb:gh 0 j:=⟨s.hp,s.low,aw _⟩
    have fin:(∀x∈b.take r,x<f)->Tb e (kV e j) o (lf b f):=λhl=>by
     have E:=Ib hl an
     rw[cK]at E
     rw[E]
     exact⟨F.out e,⟨(s.out e).hp,(s.out e).low,by simp;exact s.sz⟩,λd A u=>(fj e j d).trans (X d A u)⟩
    cases r with
    |zero=>
     simp[p,n,m,q,z,O]
     exact⟨b.length+1,by omega,by omega,by omega,by rw[ao (by omega)];exact fin (by simp),s,by simp⟩
    |succ c=>
     have C:c<b.length:=by omega
     have a8:(fD (b.take (c+1)++f::b.drop (c+1))).length=b.length+1:=by simp;omega
     have J:(b.take (c+1)++f::b.drop (c+1))[c+1]? =some f:=by rw[cq (by simp;omega)];simp[cr (show c+1<=b.length by omega)]
     have K:(b.take (c+1)++f::b.drop (c+1))[c]? =some b[c]:=by rw[bW (by simp;omega)];simp[C]
     obtain⟨l,L,D,w,I,P,B,aE,bp⟩:=F.at (x:= .int .i64 f) (i:=c+1) (by rw[aT,J];rfl)
     obtain⟨bz,bB,ce,bN,cp,Q,R,U,S⟩:=F.at (x:= .int .i64 b[c]) (i:=c) (by rw[aT,K];rfl)
     rw[P]at Q
     simp at Q
     obtain⟨rfl,rfl⟩:=Q
     rw[B]at R
     simp at R
     obtain⟨rfl,rfl,rfl⟩:=R
     rw[a8]at P bp S
     subst P
     have aA:binop .sub (.int .i64 ((c:Int)+1)) (.int .i64 1)=some (.int .i64 (c:Int)):=by rw[kl (by omega) (by omega)];congr 2;omega
     have aN:ke ((c:Int)+1)=some (c+1):=by have:=dS (show(0:Int)<=((c+1:Nat):Int)by omega);simpa using this
     by_cases T:f<b[c]
     ·have y:∀t d,(dI j l t).get d=if d=l then some t else j.get d:=λt d=>dy B t d
      have ae:∀t W d,(dI (dI j l t) l W).get d=if d=l then some W else j.get d:=λt W d=>by
       rw[dy (x:=t) (by rw[y,aq rfl]),y];split<;>rfl
      have bs:∀x,(I.set (c+1) x)[c]? =some (.int .i64 b[c]):=λx=>by rw[cm,ao (by omega)];exact U
      simp[p,n,m,q,z,aA,aN,B,aE,U,show c+1<b.length+1 by omega,show c<b.length+1 by omega,show(0:Int)<(c:Int)+1 by omega,Oh,T,y,bs]
      have a7:=F.setAt rfl B (c+1) (.int .i64 b[c]) (h':=dI j l ⟨1,L,D+1,w,false,I.set (c+1) (.int .i64 b[c])⟩) (ver2:=D+1) (ex2:=w) (by rw[y,aq rfl])
      have Z:=a7.setAt rfl (by rw[y,aq rfl]) c (.int .i64 f) (h':=dI (dI j l ⟨1,L,D+1,w,false,I.set (c+1) (.int .i64 b[c])⟩) l ⟨1,L,D+1+1,w,false,(I.set (c+1) (.int .i64 b[c])).set c (.int .i64 f)⟩) (ver2:=D+1+1) (ex2:=w) (by rw[ae,aq rfl])
      rw[Kh C]at Z
      refine⟨V+1,by omega,by omega,c,by omega,Z,(s.put _ _).put _ _,λd A u=>by rw[ae,ao (λE=>u E.symm)];exact X d A (by simpa using u),λx hx=> ?_,rfl⟩
      rw[aJ C]at hx
      rcases List.mem_cons.1 hx with rfl|hx
      ·exact T
      ·exact an x hx
     ·simp[p,n,m,q,z,aA,aN,B,aE,U,show c+1<b.length+1 by omega,show c<b.length+1 by omega,show(0:Int)<(c:Int)+1 by omega,Oh,T,O]
      refine⟨b.length+1,by omega,by omega,by omega,?_,s,by simp⟩
      rw[ao (by omega)]
      refine fin λx hx=> ?_
      obtain⟨i,bT,rfl⟩:=List.mem_take_iff_getElem.1 hx
      have b9:b[c]≠f:=λk=>ht (by rw[<-k];exact aF C)
      rcases aD i c with k|k
      ·have:=List.pairwise_iff_getElem.1 N i c (by omega) C k;omega
      ·have:i=c:=by omega
       subst this;omega
  ·rw[ao (by omega)]at v
   simp[m,q,show¬(k:Int)<b.length+1 by omega]
   exact v
 ·exact⟨by omega,by
   have:(if 1<=b.length then b++[f]else lf b f)=b++[f]:=by
    split
    ·rfl
    ·rw[show b=[]from bh (by omega)];rfl
   rw[this]
   exact⟨bu.out e,⟨(G.hr.out e).hp,(G.hr.out e).low,au _⟩,λd _ _=>(fj e _ d).trans (fU e d)⟩,⟨G.hr.hp,G.hr.low,au _⟩,by simp[p,n,m]⟩
def Sp(a:OS×Int)(c:List T)(b:H):Prop:=c=[a.1.v,.int .i64 0,.int .i64 ((a.1.A++[a.1.t]).length:Nat),.int .i64 a.2]/\Gr b a.1.v 1 (fD (a.1.A++[a.1.t]))/\gh 0 b/\G9 a.1.A/\a.1.t∉a.1.A/\a.1.A.length<=10
def Ml(a:OS×Int)(d:List T)(b:H)(e:T)(c:H):Prop:=Tb b c a.1.v (lf a.1.A a.1.t)
theorem Tb.out{h c:H}{e:T}{d:List Int}(a:Tb (TI.hr h) c e d):Tb h (kV h c) e d:=⟨a.g.out h,⟨(a.ok.out h).hp,(a.ok.out h).low,by have:=a.ok.sz;simpa using this⟩,λb f i=>(fj h c b).trans ((a.fr b (by simpa using f) i).trans (fU h b))⟩
theorem Yv:(jM (OS×Int) Sp Ml).Ok Tryz.prog cx 127:=by
 refine iU (tb:=⟨pt [],ht [(166,jM OS Ss Dy)]⟩) dX dU (iN 10384593871817177683247510831234831 [] Tryz.func127) (λ_ _=>100) (λw t c o=>by obtain⟨rfl,_⟩:=o;simp[Tryz.f127]) ?_
 rintro⟨⟨a,l,g⟩,x⟩ _ c ⟨rfl,h,s,i,ht,hl⟩ b j
 simp only at h i ht hl
 simp at j
 obtain⟨d,e,f,v⟩:=j
 have q:binop .sub (.int .i64 ((a.length:Int)+1)) (.int .i64 0)=some (.int .i64 ((a.length:Int)+1)):=by rw[kl (by omega) (by omega)];simp
 have p:Gr (TI.hr c) g 1 (fD (a++[l])):=h.mono λm _=>fU c m
 simp[Tryz.f127]
 refine mF 1 (λ_ b n=>TI.hr c=n/\TI.dt b 0=some g/\TI.dt b 1=some (.int .i64 0)/\TI.dt b 2=some (.int .i64 ((a.length:Int)+1))) ?_ (by omega) (k:=0) (by omega) (by simp[d,e,f])
 rintro _ b _ _ ⟨rfl,d,e,f⟩
 simp[d,e,f,q,show(a.length:Int)+1<=12 by omega]
 refine gd KJ (by simp) ⟨a,l,g⟩ ⟨by simp,p,s.hr,i,ht,hl⟩ ?_
 rintro y u r
 simp
 exact r.out
theorem cv8(b:H)(a:Int)(c:0<=a)(d:a<256):WQ cx b 272 5 ty5 (.int .u64 a)=some (.val (.int .u8 a) b):=by
 refine Ey Gx rfl ?_
 rw[ju];unfold IntKind.wrap;simp[IntKind.bits,IntKind.signed];omega
theorem Ji:nZ Tryz.prog cx 176 (λa:Nat=>[.int .u64 a]) (λa=>a<=11) (λ_=>CZ):=by
 refine jk (tb:=⟨pt [],ht []⟩) dX dU (iN 16661 [] Tryz.func176) (λ_=>10) (λe f c=>by simp at c;omega) (by simp) (by simp[Tryz.f176]) ?_
 rintro(a:Nat) g h b
 simp at b
 have d:a=0\/a=1\/a=2\/a=3\/a=4\/a=5\/a=6\/a=7\/a=8\/a=9\/a=10\/a=11:=by omega
 rcases d with rfl|rfl|rfl|rfl|rfl|rfl|rfl|rfl|rfl|rfl|rfl|rfl<;>simp at b<;>simp[Tryz.f176,b,cv8,oH]
theorem OO{c:ir}{g h:Nat}{d:DL}(i b:Code)(e:Env)(f:H)(a:gU):W (iZ cx c h g d (.cond (.const (Value.bool false)) i b) e f) a=W (iZ cx c h g d b e f) a:=rfl
theorem SC:nZ Tryz.prog cx 128 (λa:Nat=>[.int .u64 a]) (λa=>a<=11) (λ_=>CZ):=by
 refine jk (tb:=⟨pt [(176,Ji.jl)],ht []⟩) dX dU (iN 5 [] Tryz.func128) (λ_=>10) (λf g d=>by simp at d;omega) (by simp) (by simp[Tryz.f128]) ?_
 rintro(a:Nat) e i b
 simp at b
 obtain⟨_,⟨h,rfl⟩,c⟩:=Ji.use a e
 simp[Tryz.f128,b,c,OO]
def Sl(a:OS)(c:List T)(b:H):Prop:=c=[a.v]/\Gr b a.v 1 (fD (a.A++[a.t]))/\gh 0 b/\G9 a.A/\a.t∉a.A/\a.A.length<=10
theorem cvu(b:H)(a:Int)(c:0<=a)(d:a<256):WQ cx b 3 220 LH (.int .i64 a)=some (.val (.int .u64 a) b):=by
 refine Ey Ql rfl ?_
 rw[ju];unfold IntKind.wrap;simp[IntKind.bits,IntKind.signed];omega
theorem T2:(jM OS Sl Dy).Ok Tryz.prog cx 81:=by
 refine iU (tb:=⟨pt [(128,SC.jl)],ht [(127,jM (OS×Int) Sp Ml)]⟩) dX dU (iN 5 [] Tryz.func81) (λ_ _=>100) (λs q c l=>by obtain⟨rfl,_⟩:=l;simp[Tryz.f81]) ?_
 rintro⟨a,h,i⟩ _ c ⟨rfl,b,p,e,ht,hl⟩ u f
 simp only at b e ht hl
 simp at f
 have g:=λk:H=>b.len (cx:=cx) k m8 _ rfl
 simp at g
 have m:Gr (TI.hr c) i 1 (fD (a++[h])):=b.mono λj _=>fU c j
 obtain⟨_,⟨o,rfl⟩,d⟩:=SC.use (a.length+1) (by omega)
 simp at d
 simp[Tryz.f81,f,g,cvu,show(a.length:Int)+1<256 by omega,show(0:Int)<=(a.length:Int)+1 by omega,d]
 refine gd Yv (by simp) (⟨a,h,i⟩,o) ⟨by simp,m,p.hr,e,ht,hl⟩ ?_
 rintro t r n
 simp
 exact Tb.out n
structure ICo where
 (l:List Int) (v:T)
def Sy(a:ICo)(c:List T)(b:H):Prop:=c=[a.v]/\Gr b a.v 1 (fD a.l)/\gh 0 b/\G9 a.l/\a.l.length<=1000
def Mt(c:ICo)(e:List T)(a:H)(d:T)(b:H):Prop:=d=c.v/\Nb a b
theorem KL:(jM ICo Sy Mt).Ok Tryz.prog cx 82:=by
 refine iU (tb:=⟨pt [],ht []⟩) dX dU (iN 17596514574653 [] Tryz.func82) (λ_ _=>1005) (λi D a A=>by obtain⟨rfl,_⟩:=A;simp[Tryz.f82]) ?_
 rintro⟨b,f⟩ _ a ⟨rfl,h,C,m,hl⟩ g c
 simp only at h m hl
 simp at c
 have e:=λw:H=>h.len (cx:=cx) w m8 _ rfl
 rw[aH]at e
 have n:Gr (TI.hr a) f 1 (fD b):=h.mono λq _=>fU a q
 have o:Nb a (kV a (TI.hr a)):=(Nb.refl C.hr).out
 simp[Tryz.f82,c,e]
 refine dM (λp=> ?_) (λp=> ?_)
 ·simp[c]
  exact⟨rfl,o⟩
 have G:2<=b.length:=by simp at p;omega
 simp
 refine mF b.length (λk g v=>TI.hr a=v/\1<=k/\TI.dt g 0=some f/\TI.dt g 3=some (.int .i64 k)) ?_ (by omega) (k:=1) (by omega) (by simp[c])
 rintro k g _ F ⟨rfl,E,j,l⟩
 by_cases d:k<b.length
 ·have y:binop .add (.int .i64 (k:Int)) (.int .i64 1)=some (.int .i64 ((k:Int)+1)):=fQ (by omega) (by omega)
  have B:binop .sub (.int .i64 (k:Int)) (.int .i64 1)=some (.int .i64 ((k-1:Nat):Int)):=by rw[kl (by omega) (by omega)];congr 2;omega
  obtain⟨p1,r,s⟩:=(show nz (TI.hr a) 1 f _ from .inr n).idx (te:=Dj) rfl rfl (i:=k) (x:= .int .i64 b[k]) (by simp[d]) rfl
  obtain⟨p2,t,u⟩:=(show nz (TI.hr a) 1 f _ from .inr n).idx (te:=Dj) rfl rfl (i:=k-1) (x:= .int .i64 b[k-1]) (by simp[show k-1<b.length by omega]) rfl
  have z:¬b[k]=b[k-1]:=by
   have:=List.pairwise_iff_getElem.1 m (k-1) k (by omega) d (by omega);omega
  simp[j,l,e,d,B,r,s,t,u,z,y]
  exact⟨k+1,by omega,by omega,by omega,by simp⟩
 ·simp[j,l,e,d]
  exact⟨rfl,o⟩
structure IR where
 (P Q:List Int) (t:Int) (v:T) (b:Nat) (bx:iE)
def fnT(a:IR):T:= .func 84 [.ptr a.b 0 0 0]
def Vt(c:H)(a:IR):Prop:=c.get a.b=some ⟨1,0,0,true,false,[.int .i64 a.t]⟩
def Mf(a:IR×Int)(d:List T)(c:H):Prop:=d=[.int .i64 a.2,.ptr a.1.b 0 0 0]/\Vt c a.1/\gh 0 c
def HH(a:IR×Int)(e:List T)(b:H)(d:T)(c:H):Prop:=d= .bool (decide (a.2=a.1.t))/\Nb b c
theorem M1:(jM (IR×Int) Mf HH).Ok Tryz.prog cx 84:=by
 refine iU (tb:=⟨pt [],ht []⟩) dX dU (iN 11 [] Tryz.func84) (λ_ _=>10) (λo m a h=>by obtain⟨rfl,_⟩:=h;simp[Tryz.f84]) ?_
 rintro⟨⟨k,l,j,p,b,n⟩,r⟩ _ a ⟨rfl,f,i⟩ q c
 simp at c
 obtain⟨d,e⟩:=c
 have g:(TI.hr a).get b=some ⟨1,0,0,true,false,[.int .i64 j]⟩:=(fU a b).trans f
 simp[Tryz.f84,d,e,g]
 exact⟨rfl,(Nb.refl i.hr).out⟩
def Su(a:IR)(c:List T)(b:H):Prop:=c=[a.v,fnT a]/\Vt b a/\gh 0 b/\Gr b a.v 1 (fD (a.P++a.t::a.Q))/\a.t∉a.P/\a.P.length+a.Q.length<=1000
def Mp(c:IR)(e:List T)(a:H)(d:T)(b:H):Prop:=d= .int .i64 c.P.length/\Nb a b
theorem Fw:(jM IR Su Mp).Ok Tryz.prog cx 129:=by
 refine iU (tb:=⟨pt [],ht [(84,jM (IR×Int) Mf HH)]⟩) dX dU (iN 66483 [] Tryz.func129) (λ_ _=>2000) (λi O p I=>by obtain⟨rfl,_⟩:=I;simp[Tryz.f129]) ?_
 rintro⟨a,e,j,l,o,A⟩ _ p ⟨rfl,u,M,m,ht,hl⟩ d t
 simp only at m ht hl
 simp[fnT]at t
 obtain⟨g,c⟩:=t
 have v:=λc:H=>m.len (cx:=cx) c m8 _ rfl
 simp at v
 have z:∀b,dE l=some b->b<p.size:=λb q=>by obtain⟨_,_,_,_,L,_⟩:=m.box q;exact H.dL L
 simp[Tryz.f129,g,v]
 refine mF a.length (λk d f=>Nb (TI.hr p) f/\TI.dt d 0=some l/\TI.dt d 1=some (.func 84 [.ptr o 0 0 0])/\TI.dt d 7=some (.int .i64 ((a.length:Int)+((e.length:Int)+1)))/\TI.dt d 8=some (.int .i64 k)) ?_ (by omega) (k:=0) (by omega) ⟨Nb.refl M.hr,by simp[g,c]⟩
 rintro k d f Q ⟨h,g,c,r,s⟩
 have N:gh 0 f:=⟨h.ok.hp,h.ok.low,aw _⟩
 have y:=h.hr
 have D:Gr f l 1 (fD (a++j::e)):=m.mono λb q=>y.get b (z b q)
 have E:binop .add (.int .i64 (k:Int)) (.int .i64 1)=some (.int .i64 ((k:Int)+1)):=fQ (by omega) (by omega)
 obtain⟨x,n⟩:∃x,(a++j::e)[k]? =some x:=⟨_,aB (by simp;omega)⟩
 obtain⟨p1,B,C⟩:=(show nz f 1 l _ from .inr D).idx (te:=Dj) rfl rfl (i:=k) (x:= .int .i64 x) (by rw[aT,n];rfl) rfl
 simp[g,c,r,s,show(k:Int)<(a.length:Int)+((e.length:Int)+1)by omega,B,C]
 refine gd M1 (by simp) (⟨a,e,j,l,o,A⟩,x) ⟨rfl,(y.get o (H.dL u)).trans u,N⟩ ?_
 rintro _ P ⟨rfl,w⟩
 simp
 by_cases G:k<a.length
 ·have J:¬x=j:=by
   rw[bW G]at n
   rintro rfl;exact ht (az n)
  simp[g,c,r,s,J,E]
  exact⟨k+1,by omega,by omega,h.trans w,by simp⟩
 ·have F:k=a.length:=by omega
  subst F
  have K:x=j:=by simpa using n.symm
  simp[K]
  exact⟨rfl,(h.trans w).out⟩
theorem TD(f:H)(g j:Ty)(h:ab)(b d e a c:Nat)(k:iE)(i:g.u= .slice h)(ht:cx.ty h=some j)(m:f.get b=some k)(o:k.sz=j.size)(n:c<=a):I6 cx f g (.arr b d e a false) (some c) none none=some (.val (.arr b d (e+c) (a-c) false) f):=by
 unfold I6
 have l:iQ cx f g.u (.arr b d e a false)=true:=by
  rw[i];unfold iQ;simp only[ht,m,o,Nat.beq_refl]
 rw[l,fO,show xp none none=true from rfl,fO,show asSlice g.u (.arr b d e a false)= .arr b d e a false by rw[i];rfl]
 show val f (fy (Nat.ble c a) (fy (Nat.ble a a) (dB (fF (Nat.add e c)) λq=>dB (fF (Nat.sub a c)) λp=>some (T.arr b d q p false))))=_
 simp[n]
theorem Nj{d:Nat}{b:Env}{c:H}(a:List ah)(e:af ab):iO (.call ⟨.builtin .clear,a.toArray,e⟩) cx d b c=dB (eK (eJ cx d b) a) λf=>kH .clear cx c e.toList f:=by
 show(dB (oY cx d b a) λa=>kH .clear cx c e.toList a)=_
 rw[Fg]
theorem Vc{b:H}{c a g d:Nat}{f:Bool}{e:List T}(l:Hp b)(h:b.get c=some ⟨1,a,g,f,false,e⟩)(k:d<e.length):kH .clear cx b [38] [.arr c a d 1 false]=some (.val .undef (dI b c ⟨1,a,g+1,f,false,e.set d (.int .i64 0)⟩)):=by
 show BS cx b 38 (.arr c a d 1 false)=_
 unfold BS oF
 rw[jQ,dD]
 simp only[show m8.u= .slice 3 from rfl,mJ,dD]
 rw[h,dD]
 simp only[Fc l (H.dL h)]
 show fy (Nat.beq a a) (fy (Nat.beq 1 1) (dB (jY e d [.int .i64 0]) λi=>dB (fF g.succ) λm=>dB (some (dI b c ⟨1,a,m,f,false,i⟩)) λj=>some (kx.val T.undef j)))=_
 rw[r6,aq (by simp;omega),Nat.beq_refl,fO,show Nat.beq 1 1=true from rfl,fO,dD,gD,dD,dD,List.set_eq_take_append_cons_drop,aq k]
 simp
def Sx(a:IR)(d:List T)(c:H):Prop:=d=[a.v,fnT a]/\Vt c a/\gh 0 c/\Gr c a.v 1 (fD (a.P++a.t::a.Q))/\a.t∉a.P/\a.t∉a.Q/\a.P.length+a.Q.length<=1000/\dE a.v≠some a.b
def Ms(b:IR)(f:List T)(c:H)(e:T)(d:H):Prop:=Gr d e 1 (fD (b.P++b.Q))/\dE e=dE b.v/\gh c.size d/\∀a,a<c.size->dE b.v≠some a->d.get a=c.get a
theorem NS{P b:List Int}{t:Int}{a:Nat}(d:a<b.length):(fD (P++b.take a++(t::b).drop a)).set (P.length+a) (.int .i64 b[a])=fD (P++b.take (a+1)++(t::b).drop (a+1)):=by
 rw[<-bV,List.set_append_right _ _ (by simp;omega)]
 have c:(t::b).drop a=(t::b)[a]'(by simp;omega)::(t::b).drop (a+1):=aJ (by simp;omega)
 rw[c,show P.length+a-(P++b.take a).length=0 by simp;omega,cR,bj d]
 show fD _=fD _
 congr 1
 simp only[aI,cB,cy]
theorem DB:(jM IR Sx Ms).Ok Tryz.prog cx 83:=by
 refine iU (tb:=⟨pt [],ht [(84,jM (IR×Int) Mf HH),(129,jM IR Su Mp)]⟩) dX dU (iN 537399539 [] Tryz.func83) (λ_ _=>2000) (λi a h bB=>by obtain⟨rfl,_⟩:=bB;simp[Tryz.f83]) ?_
 rintro⟨P,c,t,F,A,ae⟩ _ h ⟨rfl,T,ca,C,aN,aX,hl,Y⟩ z av
 simp only at C aN aX hl Y
 simp[fnT]at av
 obtain⟨s,p⟩:=av
 have K:=λp:H=>C.len (cx:=cx) p m8 _ rfl
 simp at K
 have a8:∀b,dE F=some b->b<h.size:=λb g=>by obtain⟨_,_,_,_,b8,_⟩:=C.box g;exact H.dL b8
 simp[Tryz.f83,s,p]
 refine gd Fw (by simp) ⟨P,c,t,F,A,ae⟩ ⟨rfl,(fU h A).trans T,ca.hr,C.mono λb _=>fU h b,aN,hl⟩ ?_
 rintro _ c7 ⟨rfl,b9⟩
 have bn:binop .add (.int .i64 (P.length:Int)) (.int .i64 1)=some (.int .i64 ((P.length:Int)+1)):=fQ (by omega) (by omega)
 simp[show¬((P.length:Int)=-1)by omega,bn]
 have Z:=b9.hr
 refine mF c.length (λd z h'=>gh h.size h'/\Gr h' F 1 (fD (P++c.take d++(t::c).drop d))/\(∀b,b<h.size->dE F≠some b->h'.get b=h.get b)/\TI.dt z 0=some F/\TI.dt z 1=some (.func 84 [.ptr A 0 0 0])/\TI.dt z 5=some (.int .i64 ((P.length+d:Nat):Int))/\TI.dt z 6=some (.int .i64 ((P.length+d+1:Nat):Int))) ?_ (by omega) (k:=0) (by omega) ⟨Z.ok,by simpa using C.mono λb g=>Z.get b (a8 b g),λb g _=>Z.get b g,by simp[s,p]⟩
 rintro d z h' c9 ⟨w,D,Q,s,p,R,G⟩
 have a6:gh 0 h':=⟨w.hp,w.low,aw _⟩
 obtain⟨i,aA⟩:∃i,i=P.length+d:=⟨_,rfl⟩
 obtain⟨j,u⟩:∃j,j=P.length+(c.length+1):=⟨_,rfl⟩
 have bv:(P.length:Int)+((c.length:Int)+1)=j:=by omega
 rw[<-aA]at R G
 rw[bv]at K
 have S:(fD (P++c.take d++(t::c).drop d)).length=j:=by simp;omega
 have bp:binop .add (.int .i64 (i:Int)) (.int .i64 1)=some (.int .i64 ((i:Int)+1)):=fQ (by omega) (by omega)
 have bs:binop .add (.int .i64 ((i:Int)+1)) (.int .i64 1)=some (.int .i64 ((i:Int)+1+1)):=fQ (by omega) (by omega)
 by_cases X:d<c.length
 ·have B:(P++c.take d++(t::c).drop d)[i+1]? =some c[d]:=by
   rw[cq (by simp;omega),bH]
   rw[show d+(i+1-(P++c.take d).length)=d+1 by simp;omega];simp[X]
  obtain⟨f,bi⟩:∃f,(P++c.take d++(t::c).drop d)[i]? =some f:=⟨_,aB (by simp;omega)⟩
  obtain⟨e,m,y,q,o,n,l,J,I⟩:=D.at (x:= .int .i64 c[d]) (i:=i+1) (by rw[aT,B];rfl)
  obtain⟨cp,cX,dd,c4,di,U,V,b6,aE⟩:=D.at (x:= .int .i64 f) (i:=i) (by rw[aT,bi];rfl)
  rw[n]at U
  simp at U
  obtain⟨rfl,rfl⟩:=U
  rw[l]at V
  simp at V
  obtain⟨rfl,rfl,rfl⟩:=V
  rw[S]at n I aE
  have al:=NS (P:=P) (t:=t) X
  rw[<-aA]at al
  generalize bT:c[d]=M at*
  have bX:¬M=t:=λk=>aX (by rw[<-k,<-bT];exact aF X)
  subst n
  simp at Y
  have ce:ke ((i:Int)+1)=some (i+1):=by have:=dS (show(0:Int)<=((i+1:Nat):Int)by omega);simpa using this
  simp[s,p,G,K,show(i:Int)+1<j by omega,ce,l,J,I]
  refine gd M1 (by simp) (⟨P,c,t,.arr e m 0 j false,A,ae⟩,M) ⟨rfl,(Q A (H.dL T) (by simpa using Y)).trans T,a6⟩ ?_
  rintro _ E ⟨rfl,v⟩
  have W:=(v.get e (H.dL l)).trans l
  have r:∀f b,(dI E e f).get b=if b=e then some f else E.get b:=λf b=>dy W f b
  simp[s,p,R,G,bX,W,b6,aE,bp,bs]
  have L:gh h.size E:=⟨v.ok.hp,v.ok.low,aS w.sz v.ok.sz⟩
  have ap:=(D.mono (h':=E) λb g=>v.get b (by simp at g;have:=H.dL l;omega)).setAt rfl W i (.int .i64 M) (h':=dI E e ⟨1,m,y+1,q,false,o.set i (.int .i64 M)⟩) (ver2:=y+1) (ex2:=q) (by rw[r,aq rfl])
  rw[al,aI]at ap
  have dm:=w.sz
  exact⟨d+1,by omega,by omega,L.put _ _,ap,λb g u=>by rw[r,ao (λN=>u N.symm),v.get b (by omega)];exact Q b g (by simpa using u),by omega⟩
 ·have bu:d=c.length:=by omega
  subst bu
  obtain⟨e,m,y,q,o,n,l,J,I⟩:=D.at (x:= .int .i64 ((P++c.take c.length++(t::c).drop c.length)[i]'(by simp;omega))) (i:=i) (by rw[aT,aB (by simp;omega)];rfl)
  rw[S]at n I
  have b7:i<o.length:=by
   rcases aD i o.length with k|k
   ·exact k
   ·rw[aM k]at J;simp at J
  have bk:o.take j=fD (P++c.take c.length++(t::c).drop c.length):=by
   rcases D with⟨rfl,_⟩|⟨cL,c1,de,c6,dk,B,O,an⟩
   ·simp at n
   ·rw[n]at B;simp at B
    obtain⟨rfl,rfl,_⟩:=B
    rw[l]at O;simp at O
    obtain⟨_,_,rfl⟩:=O
    rw[S]at an;exact an
  subst n
  have r:∀f b,(dI h' e f).get b=if b=e then some f else h'.get b:=λf b=>dy l f b
  have bz:j-i=1:=by omega
  have a7:=TD h' m8 Dj _ e m 0 j i _ rfl mJ l rfl (by omega)
  rw[bz,Nat.zero_add]at a7
  have cb:=I5 (cx:=cx) (h:=dI h' e ⟨1,m,y+1,q,false,o.set i (.int .i64 0)⟩) m8 Dj _ e m 0 j i false _ rfl mJ (by rw[r,aq rfl]) rfl (by omega)
  simp[s,R,G,K,show¬(i:Int)+1<j by omega,a7,Nj,Vc a6.hp l b7,cb]
  have L:=(w.put e ⟨1,m,y+1,q,false,o.set i (.int .i64 0)⟩).out h
  refine⟨.inr ⟨e,m,y+1,q,o.set i (.int .i64 0),?_,by rw[fj,r,aq rfl],?_⟩,rfl,⟨L.hp,L.low,by simpa using w.sz⟩,λb g u=>by
   rw[fj,r,ao (λN=>u (by rw[N];rfl))];exact Q b g u⟩
  ·simp;omega
  ·have bN:(fD (P++c)).length=i:=by simp;omega
   rw[bN,List.take_set_of_le (au _)]
   have:=bO (List.take i) bk
   rw[List.take_take,cr (by omega)]at this
   rw[this,aQ]
   show List.take i (fD (P++c++(t::c).drop c.length))=fD (P++c)
   rw[fD,List.map_append,cQ (by simp;omega),bJ (by simp;omega)]
theorem OG{g i:Type}{f:g->i->Prop}:∀{b:List g} {a:List i},b.length=a.length->(∀(d:Nat) e c,b[d]? =some e->a[d]? =some c->f e c)->gG f b a:=by
 intro b
 induction b with
 |nil=>intro a hl _;cases a with
  |nil=>exact .nil
  |cons c a=>simp at hl
 |cons e b l=>intro a hl h;cases a with
  |nil=>simp at hl
  |cons c a=>exact .cons (h 0 e c rfl rfl) (l (by simpa using hl) λd m n j k=>h (d+1) m n (by simpa using j) (by simpa using k))
theorem EO{b c:Type}{d:b->c->Prop}{f:List b}{g:List c}(k:gG d f g){e:Nat}{i:b}{j:c}(l:f[e]? =some i)(m:g[e]? =some j):d i j:=by
 obtain⟨o,a,n⟩:=k.get m
 rw[l]at a;simp only[ar]at a;rw[a];exact n
structure B3(w:dJ)(t:Int)(c0 c2 c3:T)(h:H)(es:List T)(S:ej)(ver:Nat):Prop where
 sy:zO 4 h.size h c0 c2 c3 es S
 ok:gh 0 h
 g0:h.get 0=some ⟨6,0,0,true,false,[w.t]⟩
 g1:h.get 1=some ⟨4,0,ver,true,false,[.agg [c0,.int .i64 S.tx,c2,c3]]⟩
 g2:h.get 2=some ⟨1,0,0,true,false,[.int .i64 t]⟩
 g3:h.get 3=some ⟨4,0,0,true,false,[.agg [.dq [] false,.int .i64 0,.dq [] false,.dq [] false]]⟩
section
variable {w:dJ}{t:Int}{c0 c2 c3:T}{h h':H}{es:List T}{S:ej}{ver:Nat}
theorem B3.put(a:B3 w t c0 c2 c3 h es S ver){b:Nat}{x:iE}(c:h.get b=some x)(i:4<=b){f:iE}{e:List T}{d:ej}(g:zO 4 h.size (dI h b f) c0 c2 c3 e d)(ht:d.tx=S.tx):B3 w t c0 c2 c3 (dI h b f) e d ver:=
 ⟨by rw[fc];exact g,a.ok.put _ _,by rw[dy c,ao (by omega)];exact a.g0,by rw[dy c,ao (by omega),ht];exact a.g1,by rw[dy c,ao (by omega)];exact a.g2,by rw[dy c,ao (by omega)];exact a.g3⟩
theorem B3.oc(c:B3 w t c0 c2 c3 h es S ver){a e k:Nat}{f:Bool}{l:List T}(g:dE c3=some a)(j:h.get a=some ⟨3,e,k,f,false,l⟩){i:Nat}{me:dx}(m:S.dp[i]? =some me)(d:dx->dx):
 B3 w t c0 c2 c3 (dI h a ⟨3,e,k+1,f,false,l.set i (d me).t⟩) es {S with dp:=S.dp.modify i d} ver:=by
 have:=c.put j (c.sy.b a (.inr (.inr g))).1 (c.sy.oc g j i (d me)) rfl
 rw[ng m];exact this
theorem B3.pA(g:B3 w t c0 c2 c3 h es S ver){d i m:Nat}{j:Bool}{n:List T}(k:dE c0=some d)(l:h.get d=some ⟨2,i,m,j,false,n⟩){c:Nat}{f:dF}(hl:S.dP[c]? =some f)(e:dF->dF){rv:T}(hr:nz h 1 rv (fD (e f).dQ))(o:∀a,dE rv=some a->4<=a/\a<h.size/\dE c0≠some a/\dE c2≠some a/\dE c3≠some a):
 B3 w t c0 c2 c3 (dI h d ⟨2,i,m+1,j,false,n.set c (.agg [.int .i64 (e f).iw,rv])⟩) (es.set c (.agg [.int .i64 (e f).iw,rv])) {S with dP:=S.dP.modify c e} ver:=by
 have:=g.put l (g.sy.b d (.inl k)).1 (g.sy.pA k l c hr o) rfl
 rw[ng hl];exact this
theorem B3.WP(c:B3 w t c0 c2 c3 h es S ver){a f k:Nat}{g:Bool}{l:List T}(i:dE c2=some a)(j:h.get a=some ⟨1,f,k,g,false,l⟩)(d:Nat)(e:Bool):B3 w t c0 c2 c3 (dI h a ⟨1,f,k+1,g,false,l.set d (.bool e)⟩) es {S with done:=S.done.set d e} ver:=
 c.put j (c.sy.b a (.inr (.inl i))).1 (c.sy.WP i j d e) rfl
theorem B3.tx(a:B3 w t c0 c2 c3 h es S ver)(b:Int):B3 w t c0 c2 c3 (dI h 1 ⟨4,0,ver+1,true,false,[.agg [c0,.int .i64 b,c2,c3]]⟩) es {S with tx:=b} (ver+1):=
 ⟨by rw[fc];exact(a.sy.tx b).mono (au _) λc d _=>by rw[dy a.g1,ao (by omega)],a.ok.put _ _,by rw[dy a.g1,ao (by omega)];exact a.g0,by rw[dy a.g1,aq rfl],by rw[dy a.g1,ao (by omega)];exact a.g2,by rw[dy a.g1,ao (by omega)];exact a.g3⟩
theorem B3.XV(c:B3 w t c0 c2 c3 h es S ver){l:List dx}(j:VB h h' c3 l):B3 w t c0 c2 c3 h' es {S with dp:=l} ver:=by
 have k:∀a,a<4->dE c3≠some a:=λa d f=>by have:=(c.sy.b a (.inr (.inr f))).1;omega
 have r:=j.ok.sz
 have e:∀a,dE c3≠some a->a<h.size->h'.get a=h.get a:=λa f d=>j.fr a d f
 refine⟨⟨c.sy.g0.mono λa d=>e a (λf=> ?_) (c.sy.b a (.inl d)).2,c.sy.g2.mono λa d=>e a (λf=> ?_) (c.sy.b a (.inr (.inl d))).2,j.g,c.sy.el.imp λp q ⟨o,m,n,i⟩=>⟨o,m,n.mono λa d=>e a (i a d).2.2.2.2 (i a d).2.1,λa d=>⟨(i a d).1,by have:=(i a d).2.1;omega,(i a d).2.2⟩⟩,λa d=>⟨(c.sy.b a d).1,by have:=(c.sy.b a d).2;omega⟩⟩,⟨j.ok.hp,j.ok.low,aw _⟩,(e 0 (k 0 (by omega)) (H.dL c.g0)).trans c.g0,(e 1 (k 1 (by omega)) (H.dL c.g1)).trans c.g1,(e 2 (k 2 (by omega)) (H.dL c.g2)).trans c.g2,(e 3 (k 3 (by omega)) (H.dL c.g3)).trans c.g3⟩
 ·exact c.sy.g0.ne c.sy.g3 (by decide) a d f
 ·exact c.sy.g2.ne c.sy.g3 (by decide) a d f
theorem B3.Y7(d:B3 w t c0 c2 c3 h es S ver)(V:LkD es){f C K:Nat}{D:Bool}{L:List T}(p:dE c0=some f)(F:h.get f=some ⟨2,C,K,D,false,L⟩){l:Nat}{x:dF}(hl:S.dP[l]? =some x){W m:T}(R:es[l]? =some (.agg [W,m]))(i:∀a,dE m=some a->4<=a/\dE c0≠some a/\dE c2≠some a/\dE c3≠some a)
 {hT:H} (PD:gh h.size hT) (z:∀a,a<h.size->dE m≠some a->hT.get a=h.get a) {s:T} (u:dF->dF) (E:Gr hT s 1 (fD (u x).dQ)) (r:∀a,dE s=some a->dE m=some a\/h.size<=a):
 B3 w t c0 c2 c3 (dI hT f ⟨2,C,K+1,D,false,L.set l (.agg [.int .i64 (u x).iw,s])⟩) (es.set l (.agg [.int .i64 (u x).iw,s])) {S with dP:=S.dP.modify l u} ver:=by
 have Z:=PD.sz
 have Q:=H.dL F
 have X:=(d.sy.b f (.inl p)).1
 have I:dE m≠some f:=λc=>(i f c).2.1 p
 have G:hT.get f=_:=(z f Q I).trans F
 have A:∀n a,(dI hT f n).get a=if a=f then some n else hT.get a:=λn a=>dy G n a
 have y:∀a,a<4->dE m≠some a:=λa p c=>by have:=(i a c).1;omega
 have o:∀n a,a<h.size->a≠f->dE m≠some a->(dI hT f n).get a=h.get a:=λn a N O P=>by rw[A,ao O];exact z a N P
 refine⟨⟨?_,d.sy.g2.mono λa c=>o _ a (d.sy.b a (.inr (.inl c))).2 (λe=> ?_) (λe=>(i a e).2.2.1 c),d.sy.g3.mono λa c=>o _ a (d.sy.b a (.inr (.inr c))).2 (λe=> ?_) (λe=>(i a e).2.2.2 c),OG ?_ λk Y n g j=> ?_,λa c=>⟨(d.sy.b a c).1,by have:=(d.sy.b a c).2;simp;omega⟩⟩,(⟨PD.hp,PD.low,aw _⟩:gh 0 hT).put _ _,?_,?_,?_,?_⟩
 ·exact(d.sy.g0.mono (h':=hT) λa c=>z a (d.sy.b a (.inl c)).2 (λe=>(i a e).2.1 c)).setAt p G l _ (by rw[A,aq rfl])
 ·subst e;exact d.sy.g2.ne d.sy.g0 (by decide) a c p
 ·subst e;exact d.sy.g3.ne d.sy.g0 (by decide) a c p
 ·rw[List.length_set,List.length_modify];exact d.sy.el.length
 ·rw[cm]at g
  rw[List.getElem?_modify]at j
  by_cases v:l=k
  ·subst v
   rw[hl]at j;simp at j
   rw[aq rfl]at g
   split at g
   ·simp only[ar]at g
    subst g j
    refine⟨s,rfl,.inr (E.mono λa c=> ?_),λa c=> ?_⟩
    ·rw[A,ao]
     rintro rfl
     rcases r a c with k|k
     ·exact I k
     ·omega
    ·obtain⟨_,_,_,_,j,_⟩:=E.box c
     have U:=H.dL j
     refine⟨?_,by simpa using U,?_,?_,?_⟩
     ·rcases r a c with k|k
      ·exact(i a k).1
      ·omega
     ·rcases r a c with k|k
      ·exact(i a k).2.1
      ·exact λe=>by have:=(d.sy.b a (.inl e)).2;omega
     ·rcases r a c with k|k
      ·exact(i a k).2.2.1
      ·exact λe=>by have:=(d.sy.b a (.inr (.inl e))).2;omega
     ·rcases r a c with k|k
      ·exact(i a k).2.2.2
      ·exact λe=>by have:=(d.sy.b a (.inr (.inr e))).2;omega
   ·simp at g
  ·rw[ao v]at g
   simp[v]at j
   obtain⟨J,B,M,q⟩:=EO d.sy.el g j
   refine⟨J,B,M.mono λa c=>o _ a (q a c).2.1 (λe=>(q a c).2.2.1 (by rw[e];exact p)) (λe=>v ?_),λa c=>⟨(q a c).1,by have:=(q a c).2.1;simp;omega,(q a c).2.2⟩⟩
   rw[B]at g
   exact V l k m J _ _ a R g e c
 ·exact(o _ 0 (H.dL d.g0) (by omega) (y 0 (by omega))).trans d.g0
 ·exact(o _ 1 (H.dL d.g1) (by omega) (y 1 (by omega))).trans d.g1
 ·exact(o _ 2 (H.dL d.g2) (by omega) (y 2 (by omega))).trans d.g2
 ·exact(o _ 3 (H.dL d.g3) (by omega) (y 3 (by omega))).trans d.g3
end
end
noncomputable section
open Go Go.TI
attribute [-simp] List.map_take List.map_drop List.map_append fi ei dT Bool.not_or Bool.not_and
attribute [simp] fh ew
attribute [-simp] size_cons
structure ApO(w:dJ)(s:ej)(t k o wk:Int)(c0 c2 c3:T)(h:H)(n:Int):Prop where
 ex:∃S es ver,dV w s t k o wk=(S,n)/\B3 w t c0 c2 c3 h es S ver
structure ApF(w:dJ)(s:ej)(t k o:Int):Prop where
 en:jo w s t k o=true
 cl:w.fP.length<=1000000
 sm:LO s
 r:∀l∈s.dP,l.dQ.length<=10
def u5:fK:=⟨dJ×ej×Int×Int×Int×Int,λa=>[a.1.t,a.2.1.t,.int .i64 a.2.2.1,.int .i64 a.2.2.2.1,.int .i64 a.2.2.2.2.1,.int .i64 a.2.2.2.2.2],λa=>ApF a.1 a.2.1 a.2.2.1 a.2.2.2.1 a.2.2.2.2.1,λa=> .tuple [(dV a.1 a.2.1 a.2.2.1 a.2.2.2.1 a.2.2.2.2.1 a.2.2.2.2.2).1.t,.int .i64 (dV a.1 a.2.1 a.2.2.1 a.2.2.2.1 a.2.2.2.2.1 a.2.2.2.2.2).2,.bool true],λa c b=>by
 obtain⟨a1,a2,a3,a4,a5,d⟩:=a
 obtain⟨e,f,g,h,i,j⟩:=c
 simp at b
 rw[dJ.inj b.1,ej.inj b.2.1,b.2.2.1,b.2.2.2.1,b.2.2.2.2.1,b.2.2.2.2.2]⟩
theorem Ni:u5.Ok Tryz.prog cx 47:=by
 refine f8 (tb:=⟨pt [(79,oq)],ht [(80,jM ej CC Sz),(81,jM OS Sl Dy),(82,jM ICo Sy Mt),(83,jM IR Sx Ms),(85,jM G8 Sq Mm),(86,jM G8 Sr Mn)]⟩) dX dU (iN 772424076352653274097095092108232752774234854811365887 [(19,[(1,4)]),(21,[(1,10)]),(32,[(4,9),(5,9)]),(35,[(4,8),(5,8)])] Tryz.func47) (λ_=>1000005) (by simp[u5]) (by simp[u5,Tryz.f47]) ?_
 rintro⟨w,s,t,k,o,r⟩ ⟨J,eM,⟨hl,eO,ht,hr,dm⟩,de⟩ b7 eH
 simp only at J eM hl eO ht hr dm de
 simp[u5]at eH|-
 obtain⟨gk,cb,di,eE,E,gp⟩:=eH
 unfold jo at J
 simp only[ay]at J
 obtain⟨⟨⟨ds,dv⟩,bn⟩,J⟩:=J
 obtain⟨bp,bs,e0⟩:=nq ds
 have fC:=λ{tb:eG} (ht:tb.p 79=some oq)=>Lh ht (w:=w) (s:=s) (t:=t) (k:=k) (o:=o) ⟨ds,dv,bn,J,eM,hr⟩
 ·simp[Tryz.f47,gk,cb,di,eE,E,fC]
  generalize Y:(((hE.cons _).cons _).cons _).cons _=a8
  have gZ:gh 0 a8:=by rw[<-Y];exact⟨by simp,by simp,by simp⟩
  have hd:a8.size=4:=by rw[<-Y];rfl
  have e9:a8.get 0=some ⟨6,0,0,true,false,[w.t]⟩:=by rw[<-Y];simp
  have fb:a8.get 1=some ⟨4,0,0,true,false,[s.t]⟩:=by rw[<-Y];simp
  have fe:a8.get 2=some ⟨1,0,0,true,false,[.int .i64 t]⟩:=by rw[<-Y];simp
  have I:a8.get 3=some ⟨4,0,0,true,false,[.agg [.dq [] false,.int .i64 0,.dq [] false,.dq [] false]]⟩:=by rw[<-Y];simp
  clear Y
  refine gd Nc (by simp) s ⟨rfl,gZ,hl,eO,ht,hr⟩ ?_
  rintro _ X ⟨aN,aX,a6,eC,rfl,e7,an,et,eV⟩
  rw[hd]at e7 et
  have hD:=an.ok.sz
  have gV:gh 0 X:=⟨an.ok.hp,an.ok.low,aw _⟩
  have eA:=(an.get 1 (by omega)).trans fb
  have fo:=(an.get 0 (by omega)).trans e9
  have fs:=(an.get 2 (by omega)).trans fe
  have fv:=(an.get 3 (by omega)).trans I
  have a7:∀v d,(dI X 1 v).get d=if d=1 then some v else X.get d:=λv d=>dy eA v d
  have c:B3 w t aN aX a6 (dI X 1 ⟨4,0,1,true,false,[.agg [aN,.int .i64 s.tx,aX,a6]]⟩) eC s 1:=⟨by rw[fc];exact e7.mono (au _) λd q _=>by rw[a7,ao (by omega)],gV.put _ _,by rw[a7,ao (by omega)];exact fo,by rw[a7,aq rfl],by rw[a7,ao (by omega)];exact fs,by rw[a7,ao (by omega)];exact fv⟩
  have eu:gG (LkG (dI X 1 ⟨4,0,1,true,false,[.agg [aN,.int .i64 s.tx,aX,a6]]⟩) λd=>4<=d/\d<X.size/\dE aN≠some d/\dE aX≠some d/\dE a6≠some d) eC s.dP:=et.imp λL m ⟨rv,U,fA,eB⟩=>⟨rv,U,fA.mono λd q=>by rw[a7,ao (by have:=(eB d q).1;omega)],eB⟩
  simp[LJ,eA,eE]
  generalize dI X 1 _=M at*
  have eP:=dv
  rw[<-e0]at eP
  obtain⟨me,G,hn⟩:=ij eP
  have bv:=dS (ed.1 dv).1
  refine m6 (λb7 bT=>∃n,ApO w s t k o r aN aX a6 bT n/\TI.dt b7 7=some (.ptr 1 0 0 0)/\TI.dt b7 12=some (.ptr 3 0 0 0)/\TI.dt b7 15=some (.int .i64 n)) (λae=> ?_) (λae=> ?_) ?_
  ·have ae:k=1:=by simpa using ae
   subst ae
   ·obtain⟨y,V,av,W,aE,A,e,l,j⟩:=c.sy.g3.at (x:=me.t) (i:=t.toNat) (by simp[G])
    rw[aH]at A j
    subst A
    simp[c.g1,c.g2,bv,e,l,j]
    exact⟨_,_,_,show dV w s t 1 o r=(s.oc t (j1 2),0)by simp[dV],c.oc rfl e G (j1 2)⟩
  ·have ae:¬k=1:=by simpa using ae
   rcases sH bn with g|rfl|rfl|rfl|rfl|rfl|rfl|rfl|rfl|g|g|g|g
   ·exact absurd g ae
   ·obtain⟨y,V,av,W,aE,A,e,l,j⟩:=c.sy.g3.at (x:=me.t) (i:=t.toNat) (by simp[G])
    rw[aH]at A j
    subst A
    simp[c.g1,c.g2,bv,e,l,j]
    exact⟨_,_,_,show dV w s t 2 o r=(s.oc t (j1 5),0)by simp[dV],c.oc rfl e G (j1 5)⟩
   ·simp
    exact⟨_,_,_,show dV w s t 3 o r=(s,0)by simp[dV],c⟩
   ·simp
    exact⟨_,_,_,show dV w s t 4 o r=(s,0)by simp[dV],c⟩
   ·simp
    exact⟨_,_,_,show dV w s t 5 o r=(s,0)by simp[dV],c⟩
   ·simp[c.g1,c.g2,dG]
    exact⟨_,_,_,show dV w s t 12 o r=({s with tx:=t},0)by simp[dV],c.tx t⟩
   ·simp[c.g1,dG]
    exact⟨_,_,_,show dV w s t 13 o r=({s with tx:=-1},0)by simp[dV],c.tx (-1)⟩
   ·obtain⟨y,V,av,W,aE,A,e,l,j⟩:=c.sy.g3.at (x:=me.t) (i:=t.toNat) (by simp[G])
    rw[aH]at A j
    subst A
    simp[c.g1,c.g2,bv,e,l,j]
    exact⟨_,_,_,show dV w s t 14 o r=(s.oc t (λx=>{x with atomic:=true}),0)by simp[dV],c.oc rfl e G (λx=>{x with atomic:=true})⟩
   ·obtain⟨y,V,av,W,aE,A,e,l,j⟩:=c.sy.g3.at (x:=me.t) (i:=t.toNat) (by simp[G])
    rw[aH]at A j
    subst A
    simp[c.g1,c.g2,bv,e,l,j]
    exact⟨_,_,_,show dV w s t 15 o r=(s.oc t (λx=>{x with atomic:=false}),0)by simp[dV],c.oc rfl e G (λx=>{x with atomic:=false})⟩
   ·have F:=kr bn g
    rw[<-bp]at F
    obtain⟨B,C,dk⟩:=ij F
    have D:=dS (ed.1 F).1
    obtain⟨L,Z,rv,rfl,bu,ap⟩:=c.sy.el.get C
    obtain⟨y,V,av,W,aE,rfl,e,l,j⟩:=c.sy.g0.at Z
    have bX:=H.dL e
    have hg:=(c.sy.b y (.inl rfl)).1
    have ef:(1=M.size)=False:=by have:=H.dL c.g1;simp;omega
    have hv:(y=M.size)=False:=by simp;omega
    have ho:=hr B (az C)
    have hq:∀d,dE rv=some d->d<M.size:=λd q=>(ap d q).2.1
    rcases g with rfl|rfl|rfl|rfl|rfl|rfl
    ·simp[E,c.g1,c.g2,D,e,l,j]
     exact⟨_,_,_,show dV w s t 6 o r=(s.pA o (λh=>{h with iw:=t}),0)by simp[dV],c.pA rfl e C (λh=>{h with iw:=t}) bu ap⟩
    ·simp[E,c.g1,D,e,l,j]
     exact⟨_,_,_,show dV w s t 7 o r=(s.pA o (λh=>{h with iw:=-1}),0)by simp[dV],c.pA rfl e C (λh=>{h with iw:=-1}) bu ap⟩
    ·have bB:=dm B (az C)
     have ce:=de B (az C)
     have gB:t∉B.dQ:=by
      simp[Ah,dk,lN]at J;exact J.2.2
     obtain⟨ha,U,gL,K⟩:=EO eu Z C
     simp at U;subst U
     have b9:Gr M rv 1 (fD B.dQ):=gL
     obtain⟨er,bN,fB,aA⟩:=b9.nY (cx:=cx) (f:=T.int .i64) c.ok jQ rfl mJ rfl (by simp) (λx=>rfl) t (by simp;omega)
     have hj:=c.ok.low
     have hs:(2=M.size)=False:=by have:=H.dL c.g2;simp;omega
     simp[E,c.g1,c.g2,D,e,l,j,fB]
     refine gd T2 (by simp) ⟨B.dQ,t,er⟩ ⟨rfl,aA.1,⟨aA.2.2.2.hp,aA.2.2.2.low,aw _⟩,bB,gB,ce⟩ ?_
     rintro _ eF al
     have hc:=aA.2.2.2.sz
     have hF:=al.ok.sz
     have dd:∀d,d<M.size->dE rv≠some d->eF.get d=M.get d:=λd bp bs=>(al.fr d (by omega) (λq=>(aA.2.2.1 d q).elim bs (by omega))).trans (aA.2.1 d bp bs)
     have gM:∀d,d<4->dE rv≠some d:=λd q k=>by have:=(K d k).1;omega
     have c4:=(dd 1 (H.dL c.g1) (gM 1 (by omega))).trans c.g1
     have e4:=(dd y bX (λk=>(K y k).2.2.1 rfl)).trans e
     have gX:gh 0 eF:=⟨al.ok.hp,al.ok.low,aw _⟩
     have hh:=FY B.dQ t
     simp[E,c4]
     refine kA KL (by simp) ⟨lf B.dQ t,er⟩ ⟨rfl,al.g,gX,Bf bB t,by simp only;omega⟩ ?_
     rintro O hT ⟨L,N⟩
     simp only at L
     rw[L]
     have eo:=ee (N.get 1 (H.dL c4))
     have t1:=(N.get 1 (H.dL c4)).trans c4
     have tb:=(N.get y (H.dL e4)).trans e4
     have gT:Gr hT er 1 (fD (lf B.dQ t)):=al.g.mono λd q=>by
      obtain⟨_,_,_,_,gI,_⟩:=al.g.box q
      exact N.get d (H.dL gI)
     have hG:=N.ok.sz
     simp[D,tb,l,j,eo,dG,gT.fT,gT.cells]
     exact⟨_,_,_,show dV w s t 8 o r=(s.pA o (λh=>{h with dQ:=lf h.dQ t}),0)by simp[dV],c.Y7 eV rfl e C Z (λd q=>⟨(K d q).1,(K d q).2.2⟩) (hT:=hT) ⟨N.ok.hp,N.ok.low,by omega⟩ (λd bp bs=>(N.get d (by omega)).trans (dd d bp bs)) (λh=>{h with dQ:=lf h.dQ t}) gT aA.2.2.1⟩
    ·obtain⟨ha,U,gL,K⟩:=EO eu Z C
     simp at U;subst U
     have b9:Gr M rv 1 (fD B.dQ):=gL
     have bB:=dm B (az C)
     have ce:=de B (az C)
     have gz:t∈B.dQ:=by
      simp[Ah,dk,lN]at J;exact J.2
     obtain⟨P,Q,cp⟩:=List.append_of_mem gz
     have cL:t∉P/\t∉Q:=by
      rw[cp]at bB
      have cb:=List.pairwise_append.1 bB
      have di:=List.pairwise_cons.1 cb.2.1
      exact⟨λk=>by have:=cb.2.2 t k t (by simp);omega,λk=>by have:=di.1 t k;omega⟩
     simp[E,c.g1,D,e,l,j]
     have gQ:dE rv≠some 2:=λk=>by have:=(K 2 k).1;omega
     refine kA DB (by simp) ⟨P,Q,t,rv,2,⟨0,0,0,false,false,[]⟩⟩ ⟨rfl,c.g2,c.ok,by rw[cp]at b9;exact b9,cL.1,cL.2,by rw[cp]at ce;simp at ce|-;omega,gQ⟩ ?_
     rintro O bN ⟨ca,eL,eX,b8⟩
     simp only at ca eL b8
     have eD:=b8 1 (H.dL c.g1) (λk=>by have:=(K 1 k).1;omega)
     have gi:=b8 y bX (λk=>(K y k).2.2.1 rfl)
     have eo:=ee eD
     have hf:=eD.trans c.g1
     have fl:=gi.trans e
     have gy:B.dQ.filter (λO=> !decide (O=t))=P++Q:=by
      rw[cp,List.filter_append,List.filter_cons]
      simp
      rw[List.filter_eq_self.2 λx l=> ?_,List.filter_eq_self.2 λx l=> ?_]
      ·simp;exact λL=>cL.2 (by rw[<-L];exact l)
      ·simp;exact λL=>cL.1 (by rw[<-L];exact l)
     have hc:=eX.sz
     simp[D,fl,l,j,eo,dG,ca.fT,ca.cells]
     exact⟨_,_,_,show dV w s t 9 o r=(s.pA o (λh=>{h with dQ:=h.dQ.filter λO=> !decide (O=t)}),0)by simp[dV],c.Y7 eV rfl e C Z (λd q=>⟨(K d q).1,(K d q).2.2⟩) (hT:=bN) eX b8 (λh=>{h with dQ:=h.dQ.filter λO=> !decide (O=t)}) (by show Gr bN O 1 (fD (B.dQ.filter _));rw[gy];exact ca) (λd q=> .inl (by rw[<-eL];exact q))⟩
    ·simp[E,c.g1,c.g2,D,e,l,j]
     exact⟨_,_,_,show dV w s t 10 o r=(s.pA o (λh=>{h with iw:=t}),0)by simp[dV],c.pA rfl e C (λh=>{h with iw:=t}) bu ap⟩
    ·simp[E,c.g1,D,e,l,j]
     exact⟨_,_,_,show dV w s t 11 o r=(s.pA o (λh=>{h with iw:=-1}),0)by simp[dV],c.pA rfl e C (λh=>{h with iw:=-1}) bu ap⟩
   ·have F:=nd bn g
    obtain⟨d,dn,eN⟩:=ij F
    have eb:=qO ds dn
    rw[<-bp]at eb
    obtain⟨B,C,dk⟩:=ij eb
    have D:=dS (ed.1 F).1
    have e8:=dS (ed.1 eb).1
    obtain⟨L,Z,rv,rfl,bu,ap⟩:=c.sy.el.get C
    obtain⟨y,V,av,W,aE,rfl,e,l,j⟩:=c.sy.g0.at Z
    obtain⟨I,fE,hb,fS,c6,A,bi,c1,ea⟩:=c.sy.g3.at (x:=me.t) (i:=t.toNat) (by simp[G])
    rw[aH]at A ea
    subst A
    have bX:=H.dL e
    have eI:=H.dL bi
    have ef:(1=y)=False:=by have:=(c.sy.b y (.inl rfl)).1;simp;omega
    have gP:(1=I)=False:=by have:=(c.sy.b I (.inr (.inr rfl))).1;simp;omega
    have eW:(2=y)=False:=by have:=(c.sy.b y (.inl rfl)).1;simp;omega
    have gS:(2=I)=False:=by have:=(c.sy.b I (.inr (.inr rfl))).1;simp;omega
    have eh:(I=y)=False:=by simp;rintro rfl;rw[e]at bi;simp at bi
    have eU:∀x,(c6.set t.toNat x)[t.toNat]? =some x:=λx=>by
     have:t.toNat<c6.length:=by
      rcases aD t.toNat c6.length with k|k
      ·exact k
      ·rw[aM k]at c1;simp at c1
     rw[cm];simp[this]
    have bk:∀v,(dI M y v).get I=some ⟨3,fE,hb,fS,false,c6⟩:=λv=>by rw[dy e,ao (by simpa using eh)];exact bi
    have e5:=λv z=>mg (bk v) (show 1≠I by simpa using gP) z
    have e6:=λv z=>mg (bk v) (show 2≠I by simpa using gS) z
    have ey:=λ(f:dF->dF) (q:(f B).dQ=B.dQ)=>c.pA rfl e C f (rv:=rv) (by rw[q];exact bu) ap
    rcases g with rfl|rfl|rfl|rfl
    ·have c9:=(ey (λh=>{h with iw:=-1}) rfl).oc rfl (bk _) G (λx=>{x with im:=3})
     have bz:=c9.oc (me:=(λx=>{x with im:=3}) me) rfl ((dy (bk _) _ _).trans (aq rfl)) (i:=t.toNat) (by simp[G]) (λx=>{x with cond:=o})
     simp only[Ab,List.set_set]at bz
     simp[E,c.g0,c.g1,c.g2,D,e8,bv,dn,e,bi,l,c1,j,ea,ph,c.ok.hp,bX,eI,ef,eh,eW,eU,e5,e6]
     exact⟨_,_,_,show dV w s t 16 o r=((s.pA d.kP λh=>{h with iw:=-1}).oc t (λx=>{x with im:=3,cond:=o}),0)by simp[dV,eN],bz⟩
    ·have c9:=(ey (λh=>{h with iw:=t}) rfl).oc rfl (bk _) G (λx=>{x with im:=2})
     have bz:=c9.oc (me:=(λx=>{x with im:=2}) me) rfl ((dy (bk _) _ _).trans (aq rfl)) (i:=t.toNat) (by simp[G]) (λx=>{x with cond:=0})
     simp only[Ab,List.set_set]at bz
     simp[E,c.g0,c.g1,c.g2,D,e8,bv,dn,e,bi,l,c1,j,ea,ph,c.ok.hp,bX,eI,ef,eh,eW,eU,e5,e6]
     exact⟨_,_,_,show dV w s t 17 o r=((s.pA d.kP λh=>{h with iw:=t}).oc t (λx=>{x with im:=2,cond:=0}),0)by simp[dV,eN],bz⟩
    ·simp[E,gp,c.g1]
     refine gd ML (by simp) ⟨s,_,_,_,o,r⟩ ⟨rfl,c.sy.g3,c.ok,ht⟩ ?_
     rintro _ bN ⟨n,rfl,eR,b6⟩
     simp only at eR b6
     simp
     exact⟨_,_,_,show dV w s t 18 o r=({s with dp:=if gu o s.dp 0=[]then s.dp else s.dp.modify n.toNat (j1 4)},n)by
      have eS:w8 o r s.dp=n:=by rw[eR];rfl
      unfold dV
      simp
      by_cases q:gu o s.dp 0=[]
      ·rw[aq q,aq q,<-eS];unfold w8;rw[q];rfl
      ·rw[ao q,ao q,eS];rfl,c.XV b6⟩
    ·simp[E,c.g1]
     refine gd Fq (by simp) ⟨s,_,_,_,o,0⟩ ⟨rfl,c.sy.g3,c.ok,ht⟩ ?_
     rintro _ bN ⟨rfl,b6⟩
     simp only at b6
     simp
     exact⟨_,_,_,show dV w s t 19 o r=({s with dp:=s.dp.map (A1 o)},((gu o s.dp 0).length:Int))by
      unfold dV;simp;intro a _;rfl,c.XV b6⟩
   ·have F:=vi bn g
    rw[<-e0]at F
    obtain⟨u,cX,gE⟩:=ij F
    have D:=dS (ed.1 F).1
    rcases g with rfl|rfl
    ·obtain⟨y,V,av,W,aE,A,e,l,j⟩:=c.sy.g3.at (x:=u.t) (i:=o.toNat) (by simp[cX])
     rw[aH]at A j
     subst A
     simp[E,c.g1,D,e,l,j]
     exact⟨_,_,_,show dV w s t 20 o r=(s.oc o (j1 1),0)by simp[dV],c.oc rfl e cX (j1 1)⟩
    ·simp
     exact⟨_,_,_,show dV w s t 21 o r=(s,0)by simp[dV],c⟩
   ·have F:=qh bn g
    rw[<-bs]at F
    obtain⟨u,cX,gE⟩:=ij F
    have D:=dS (ed.1 F).1
    rcases g with rfl|rfl
    ·obtain⟨y,V,av,W,aE,A,e,l,j⟩:=c.sy.g2.at (x:= .bool u) (i:=o.toNat) (by simp[cX])
     rw[aH]at A j
     subst A
     simp[E,c.g1,D,e,l,j]
     exact⟨_,_,_,show dV w s t 22 o r=({s with done:=s.done.set o.toNat true},0)by simp[dV],c.WP rfl e o.toNat true⟩
    ·simp
     exact⟨_,_,_,show dV w s t 23 o r=(s,0)by simp[dV],c⟩
  ·rintro b7 bT ⟨n,⟨S,fL,hy,gw,R⟩,gv,gm,gn⟩
   obtain⟨hA,hB,hC⟩:=R.sy.fz
   have gj:∀v,(dI bT 3 v).get 3=some v:=λv=>(dy R.g3 v _).trans (aq rfl)
   have c7:∀v,zO 4 bT.size (dI bT 3 v) aN aX a6 fL S:=λv=>R.sy.mono (au _) λd q _=>by rw[dy R.g3,ao (by omega)]
   have fX:=λv=>(c7 v).fz.1
   have fY:=λv=>(c7 v).fz.2.1
   have gg:=λv=>(c7 v).fz.2.2
   simp[gv,gm,gn,R.g1,R.g3,gj,dG,fX,fY,gg,gw,R.ok.hp]
end
end Go.Proofs.YtmaeadedikngoaaGreatDoor
