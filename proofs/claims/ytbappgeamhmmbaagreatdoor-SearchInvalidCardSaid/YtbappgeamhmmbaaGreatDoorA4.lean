/- TiEnv -/
import Derived.Test.YtbappgeamhmmbaaGreatDoorA3
import Derived.Orders
set_option linter.all false
namespace Go.TI
noncomputable section
def mM(b:Nat)(d:T)(c:fH)(a:Nat):dG (.cons b d c) a=if b=a then some d else dG c a:=by
 show @Bool.rec (λ_=>aa T) (dG c a) (some d) (Nat.beq b a)=_;cases e:Nat.beq b a with
 |true=>have:=aC e;simp[this]
 |false=>have:=cD e;simp[this]
def FQ{l e:fH}{c:Nat}{g:T}(a:li l c g=some e)(f:Nat):dG e f=if f=c then some g else dG l f:=by
 induction l generalizing e with
 |nil=>
  have a:some (fH.cons c g .nil)=some e:=a;simp only[ar]at a;subst a;rw[mM];by_cases b:c=f
  ·simp[b]
  ·simp[b,aW b]
 |cons d m i o=>
  have a: @Bool.rec (λ_=>aa fH) (M (li i c g) λj=>some (.cons d m j)) (some (.cons d g i)) (Nat.beq d c)=some e:=a;cases h:Nat.beq d c with
  |true=>
   rw[h]at a;have k:=aC h;have a:some (fH.cons d g i)=some e:=a;simp only[ar]at a;subst a;rw[mM,mM,k];by_cases b:c=f
   ·simp[b]
   ·simp[b,aW b]
  |false=>
   rw[h]at a;have k:=cD h;have a:(M (li i c g) λj=>some (fH.cons d m j))=some e:=a;have⟨j,ht,a⟩:=dB.1 a;simp only[ar]at a;subst a;rw[mM,mM,o ht];by_cases b:d=f
   ·have:f≠c:=λn=>k (b.trans n);simp[b,this]
   ·simp[b]
def Env.A7{d:Nat}{m g:Env}{c:Nat}{f:T}(a:m.set d c f=some g)(b:Nat):g.get d b=if b=c then some f else m.get d b:=by
 obtain⟨l,k⟩:=m;have a: @Bool.rec (λ_=>aa Env) (some ⟨l,.cons c f k⟩) (M (li l c f) λj=>some ⟨j,k⟩) (jX d c)=some g:=a;have get:∀(h i:fH),(⟨h,i⟩:Env).get d b=if jX d b=true then dG h b else dG i b:=by
  intro h i;show @Bool.rec (λ_=>aa T) (dG i b) (dG h b) (jX d b)=_;cases jX d b<;>rfl
 cases hl:jX d c with
 |false=>
  rw[hl]at a;have a:some (⟨l,.cons c f k⟩:Env)=some g:=a;simp only[ar]at a;subst a;rw[get,get,mM];by_cases e:b=c
  ·subst e;simp[hl]
  ·simp[e,aW e]
 |true=>
  rw[hl]at a;have a:(M (li l c f) λj=>some (⟨j,k⟩:Env))=some g:=a;have⟨j,n,a⟩:=dB.1 a;simp only[ar]at a;subst a;rw[get,get,FQ n];by_cases e:b=c
  ·subst e;simp[hl]
  ·simp[e]
theorem jY.put{k:af Obj}{m:Mu}{h:Nat}{f g:Env}{i:Act}{e:aa Tmp}{l:T}{c:am}(o:jY k m h f i.tmps)(s:eK k m l c)(q:∀b,e=some b->b<i.tmps.size)
 (a:f.dst h e l=some g):jY k m h g (i.put e c).tmps:=by
 cases e with
 |none=>
  have a:some f=some g:=a;simp only[ar]at a;subst a;exact o
 |some b=>
  have a:f.set h b l=some g:=a;intro p t d;rw[Env.A7 a]at d;have r:=q b rfl;by_cases j:p=b
  ·subst j;simp only[bj,ar]at d;subst d;simpa[Act.put,bQ,r]using s
  ·simp only[j,bo]at d;have:=o p t d;simpa[Act.put,bQ,dg (aW j)]using this
def Act.po(a:Act)(b:aa Tmp)(c:am):(a.put b c).tmps.size=a.tmps.size:=by cases b<;>simp[Act.put]
def Act.pq(a:Act)(b:aa Tmp)(c:am):(a.put b c).defers=a.defers:=by cases b<;>rfl
def Bm{x:af Obj}{A:Mu}{l:Nat}{j:Env}{c:Act}{g:af Oper}{i:Oper}{d:Bool}(z:jY x A l j c.tmps)(v:∀(f:Nat) (b:Oper) t,g[f]? =some b->b.dst=some t->t<c.tmps.size)
 (a:ka g l j i.guard=some d):Region.wanted i (yielded g c.tmps)=d:=by
 unfold Region.wanted;cases o:i.guard with
 |none=>
  rw[o]at a;have a:some true=some d:=a;simpa using a
 |some b=>
  obtain⟨f,n⟩:=b;rw[o]at a;have a:(M (M (M (lF g.toList f) λi=>i.dst) λe=>j.get l e) λm=>
   match m with
   | .bool d=>some (@Bool.rec (λ_=>Bool) (@Bool.rec (λ_=>Bool) true false n) n d)
   |_=>some false)=some d:=a
  replace a:=dB.1 a;obtain⟨m,h,a⟩:=a;replace h:=dB.1 h;obtain⟨e,k,h⟩:=h;replace k:=dB.1 k;obtain⟨b,p,r⟩:=k;rw[ky]at p;have q:g[f]? =some b:=by simpa using p
  have w:=v f b e q r;have s:=z e m h;have y:((g[f]?).bind (·.dst)).bind (c.tmps[·]?)=some (c.tmps.getD e Go.undef):=by
   simp[q,r,bQ,w]
  simp only[yielded,y];generalize c.tmps.getD e Go.undef=C at s;cases s<;>simp only[ar]at a<;>first
   |(subst a;rfl)
   |skip
  rename_i u;subst a;cases u<;>cases n<;>rfl
section
def pV(cx:Ctx)(base:Nat)(w:World)(f:Mu)(h:H)(c:T)(h':H)(b:am)(d:World):Prop:=UC cx base w f h.size c h' b d/\kJ h h'
def mU(P:ai)(cx:Ctx)(cf:iH):Prop:=
 ∀f c h g h',cf f c h=some (g,h')->∀base w b (d:af am),St cx base w.heap b h->fX w.heap b c d.toList->yW P (pV cx base w b h g h') ((callFunc f d).run P w)
def sH(cx:Ctx)(base G m:Nat)(w0:World)(μ0:Mu)(h0:H)(e:Env)(h:H)(a:Act)(w:World):Prop:=
 ∃b,St cx base w.heap b h/\jY w.heap b G e a.tmps/\oS w0 μ0 w b/\xJ μ0 b h0.size h.size/\kJ h0 h/\a.tmps.size=m/\a.defers=[]
section
variable {P:ai}{cx:Ctx}{cf:iH}{base G m:Nat}{w0 w:World}{μ0:Mu}{h0 h h':H}{e e':Env}{a:Act}{ops:af Oper}{Q:Exit->Act->World->Prop}
def Er(m:Nat)(ops:af Oper):Prop:=∀(d:Nat) (b:Oper) c,ops[d]? =some b->b.dst=some c->c<m
def sH.after(H:sH cx base G m w0 μ0 h0 e h a w){d:aa Tmp}(z:∀b,d=some b->b<m){l:T}(r:e.dst G d l=some e')
 {g:Result Next} (hr:∀base c,St cx base w.heap c h->jY w.heap c G e a.tmps->yW P (pV cx base w c h l h') g):yW P (λi n=>sH cx base G m w0 μ0 h0 e' h' (a.put d i) n) g:=by
 obtain⟨c,b,k,x,o,p,j,A⟩:=H;refine(hr base c b k).mono λi n q=>?_;obtain⟨⟨y,s,t,f,u⟩,v⟩:=q;refine⟨y,t,?_,x.trans f,o.trans (hp:=w.heap) u f.ext,p.trans v,by rw[Act.po];exact j,by rw[Act.pq];omega⟩;exact jY.put (k.ext f.ext) s (λb C=>by rw[j];grind) r
def HX(iU:iG P cx)(N:mU P cx cf){n:Nat}{d:Oper}(s:ops[n]? =some d)(r:Er m ops)(b:kU cx cf G ops e h d=some (e',h'))
 (H:sH cx base G m w0 μ0 h0 e h a w) {A:Act->World->Prop} (v:∀C o,sH cx base G m w0 μ0 h0 e' h' C o->A C o):wpOp P ops Q n A a w:=by
 have K:=H;obtain⟨t,c,f,x,O,R,y,al⟩:=K;unfold wpOp;simp only[s];replace b:=dB.1 b;obtain⟨ae,W,b⟩:=b;have I:=Bm f (λX Y c U i=>by rw[y];exact r X Y c U i) W;cases ae with
 |false=>
  have b:(M (e.dst G d.dst .undef) λe'=>some (e',h))=some (e',h'):=b;replace b:=dB.1 b;obtain⟨F,l,b⟩:=b;simp only[ar,aB]at b;obtain⟨rfl,rfl⟩:=b;simp only[I,cd,bo];refine v _ _ ⟨t,c,jY.put f .undef (λc i=>by rw[y];exact r n d c s i) l,x,O,R,by rw[Act.po];exact y,by rw[Act.pq];omega⟩
 |true=>
  simp only[I,bj];left;have b:(M (iT d.op cx G e h) λu=> @kC.rec (λ_=>aa (Env×TI.H))
   (λg h'=>M (e.dst G d.dst g) λe'=>some (e',h'))
   (λq p=>M (cf q p h) λf=>two f λg h'=>M (e.dst G d.dst g) λe'=>some (e',h')) u)=some (e',h'):=b
  replace b:=dB.1 b;obtain⟨u,z,b⟩:=b;rcases u with⟨g,j⟩|⟨q,p⟩
  ·skip
   have b:(M (e.dst G d.dst g) λe'=>some (e',j))=some (e',h'):=b;replace b:=dB.1 b;obtain⟨F,l,b⟩:=b;simp only[ar,aB]at b;obtain⟨rfl,rfl⟩:=b;refine yW.wp (H.after (λc i=>r n d c s i) l (h':=j) λbase t c f=>?_) (λE o k=>v _ _ k);exact((yn iU c f z).ZT).mono λE o k=>⟨k,Ot c.wf g j z⟩
  ·skip
   have b:(M (cf q p h) λf=>two f λg h'=>M (e.dst G d.dst g) λe'=>some (e',h'))=some (e',h'):=b;replace b:=dB.1 b;obtain⟨⟨g,j⟩,T,b⟩:=b;simp only[km]at b;replace b:=dB.1 b;obtain⟨F,l,b⟩:=b;simp only[ar,aB]at b;obtain⟨rfl,rfl⟩:=b;refine yW.wp (H.after (λc i=>r n d c s i) l (h':=j) λbase t c f=>?_) (λE o k=>v _ _ k);have⟨_,L,S,V⟩:=Ga (P:=P) c f z;rw[V];exact N q p h g j T base w t L c S
def Ev(iU:iG P cx)(n:mU P cx cf)(q:Er m ops):∀(c:List Oper) (d:Nat) (e:Env) (h:H) (a:Act) (w:World),(∀g,c[g]? =ops[d+g]?)->
 kh cx cf G ops c e h=some (e',h')->sH cx base G m w0 μ0 h0 e h a w->(∀f i,sH cx base G m w0 μ0 h0 e' h' f i->Q .normal f i)->wpOps P ops Q (List.range' d c.length) a w:=by
 intro c;induction c with
 |nil=>
  intro d e h a w _ b H j;have b:some (e,h)=some (e',h'):=b;simp only[ar,aB]at b;obtain⟨rfl,rfl⟩:=b;exact j a w H
 |cons k c t=>
  intro d e h a w hl b H j;have b:(M (kU cx cf G ops e h k) λu=>two u λe' h'=>kh cx cf G ops c e' h')=some (e',h'):=b;replace b:=dB.1 b;obtain⟨⟨o,p⟩,s,b⟩:=b;simp only[km]at b;simp only[aY,List.range'_succ];rw[wpOps_cons];have r:ops[d]? =some k:=by have:=hl 0;grind
  refine HX iU n r q s H λf i l=>t (d+1) o p f i (λg=>?_) b l j;have:=hl (g+1);simp only[da]at this;rw[this];grind
def Rr(m:Nat)(ops:af Oper):Bool:=ops.toList.all λb=>match b.dst with|some c=>Nat.blt c m|none=>true
def Rq(b:Rr m ops=true):Er m ops:=by
 intro g d i f c;unfold Rr at b;rw[cw]at b;have:=b d (by grind);rw[c]at this;simp_all
def mh(m:Nat)(og:af Oper->Bool):Code->Bool
 | .region _ ops c=>Rr m ops&&(!c||og ops)
 | .seq a b=>mh m og a&&mh m og b
 | .cond _ a b=>mh m og a&&mh m og b
 | .block _ b=>mh m og b
 | .loop b=>mh m og b
 |_=>true
def abB:Ex->Exit
 | .normal=> .normal
 | .exit b=> .exit b
 | .ret=> .ret
def P7(P:ai)(cx:Ctx)(cf:iH)(og:af Oper->Bool):Prop:=
 ∀(base G m:Nat) (w0:World) (μ0:Mu) (h0:H) (ops:af Oper) (e e':Env) (h h':H) (a:Act) (w:World) (Q:Exit->Act->World->Prop) (id:Nat),og ops=true->Er m ops->
  jL cx cf G ops ops.toList 0 ⟨[],[]⟩ e h=some (e',h')->sH cx base G m w0 μ0 h0 e h a w->(∀b c,sH cx base G m w0 μ0 h0 e' h' b c->Q .normal b c)->(Code.region id ops true).wp P Q a w
def sH.drop(H:sH cx base G m w0 μ0 h0 e h a w):sH cx base G m w0 μ0 h0 ⟨e.vars,.nil⟩ h a w:=by
 obtain⟨q,n,l,p,g,i,k,j⟩:=H;refine⟨q,n,λb d c=>l b d ?_,p,g,i,k,j⟩;obtain⟨f,o⟩:=e;have c: @Bool.rec (λ_=>aa T) (dG .nil b) (dG f b) (jX G b)=some d:=c;show @Bool.rec (λ_=>aa T) (dG o b) (dG f b) (jX G b)=some d;cases hl:jX G b with
 |true=>rw[hl]at c;exact c
 |false=>rw[hl]at c;grind [dG]
def wpL(P:ai)(d:Code)(Q:Exit->Act->World->Prop)(a:Act)(w:World):Prop:=
 ∀(c:Frame) (g:List Item) (f:List Frame),∃e b i,Q e b i/\Arrives P (lone (c.at a (.code d:: .inLoop d::g)) f w) c g f e b i
def KK{b:Code}(h:b.wp P (Exit.then (wpL P b Q) Q) a w):wpL P b Q a w:=by
 intro i k j;have⟨e,f,g,d,c⟩:=h i (.inLoop b::k) j;cases e with
 |normal=>
  have⟨n,l,q,p,o⟩:=d i k j;exact⟨n,l,q,p,.of_steps (Steps.trans c (.one step_inLoop)) o⟩
 |exit id=>exact⟨_,f,g,d,.pass (x:= .inLoop b) rfl (λ_ _=> .inl J) c⟩
 |goto s=>exact⟨_,f,g,d,.pass (x:= .inLoop b) rfl (λ_ _=> .inl J) c⟩
 |ret=>exact⟨_,f,g,d,.pass (x:= .inLoop b) rfl (λ_ _=> .inl J) c⟩
 |panic r=>exact⟨_,f,g,d,.pass (x:= .inLoop b) rfl (λ_ _=> .inl J) c⟩
 |outgrown=>exact⟨_,f,g,d,.pass (x:= .inLoop b) rfl (λ_ _=> .inl J) c⟩
def KJ{b:Code}(h:wpL P b Q a w):(Code.loop b).wp P Q a w:=by
 intro d j f;have⟨e,c,k,i,g⟩:=h d j f;exact⟨e,c,k,i,.of_steps (.one step_loop) g⟩
def ab5(P:ai)(cx:Ctx)(base G m:Nat)(w0:World)(μ0:Mu)(h0:H)(f:Code)(g:Env->H->Out):Prop:=
 ∀e h d e' h',g e h=some (d,e',h')->∀a w Q,sH cx base G m w0 μ0 h0 e h a w->(∀b c,sH cx base G m w0 μ0 h0 e' h' b c->Q (abB d) b c)->f.wp P Q a w
def ID{p:Code}{j:Env->H->Out}(s:ab5 P cx base G m w0 μ0 h0 p j):∀(f:Nat) (e:Env) (h:H) (c:Ex) (e':Env) (h':H),nI j f e h=some (c,e',h')->
 ∀a w Q,sH cx base G m w0 μ0 h0 e h a w->(∀d g,sH cx base G m w0 μ0 h0 e' h' d g->Q (abB c) d g)->wpL P p Q a w:=by
 intro f;induction f with
 |zero=>simp[nI]
 |succ f t=>
  intro e h c e' h' b a w Q H n;have b:(M (j e h) λu=>three u λc e' h'=> @Ex.rec (λ_=>Out) (nI j f e' h') (λo=>some (.exit o,e',h')) (some (.ret,e',h')) c)=some (c,e',h'):=b;replace b:=dB.1 b;obtain⟨⟨q,i,k⟩,r,b⟩:=b;refine KK (s e h q i k r a w _ H λd g l=>?_);cases q with
  |normal=>
   have b:nI j f i k=some (c,e',h'):=b;exact t i k c e' h' b d g Q l n
  |exit o=>
   have b:some (Ex.exit o,i,k)=some (c,e',h'):=b;simp only[ar,aB]at b;obtain⟨rfl,rfl,rfl⟩:=b;exact n d g l
  |ret=>
   have b:some (Ex.ret,i,k)=some (c,e',h'):=b;simp only[ar,aB]at b;obtain⟨rfl,rfl,rfl⟩:=b;exact n d g l
def I9(iU:iG P cx)(N:mU P cx cf){og:af Oper->Bool}(O:P7 P cx cf og)(p:Nat):∀(s:Code),mh m og s=true->ab5 P cx base G m w0 μ0 h0 s (jP cx cf p G s):=by
 intro s;induction s with
 |skip=>
  intro _ e h c e' h' b a w Q H d;have b:some (Ex.normal,e,h)=some (c,e',h'):=b;simp only[ar,aB]at b;obtain⟨rfl,rfl,rfl⟩:=b;exact wp_skip (d a w H)
 |exit id=>
  intro _ e h c e' h' b a w Q H d;have b:some (Ex.exit id,e,h)=some (c,e',h'):=b;simp only[ar,aB]at b;obtain⟨rfl,rfl,rfl⟩:=b;exact wp_exit (d a w H)
 |ret=>
  intro _ e h c e' h' b a w Q H d;have b:some (Ex.ret,e,h)=some (c,e',h'):=b;simp only[ar,aB]at b;obtain⟨rfl,rfl,rfl⟩:=b;exact wp_ret (d a w H)
 |region id ops R=>
  intro g e h c e' h' b a w Q H d;simp only[mh,az]at g;have K:=Rq g.1;have n:=H.drop;obtain⟨F,V⟩:=e;cases R with
  |false=>
   have b:(M (kh cx cf G ops ops.toList ⟨F,.nil⟩ h) λo=>two o λe' h'=>some (Ex.normal,(⟨e'.vars,.nil⟩:Env),h'))=some (c,e',h'):=b;replace b:=dB.1 b;obtain⟨⟨k,j⟩,q,b⟩:=b;simp only[km,ar,aB]at b;obtain⟨rfl,rfl,rfl⟩:=b;refine wp_region ?_;rw[List.range_eq_range'];have:=Ev (Q:=Q) iU N K ops.toList 0 ⟨F,.nil⟩ h a w (λU=>by simp) q n λf i x=>d f i x.drop;omega
  |true=>
   have b:(M (jL cx cf G ops ops.toList 0 ⟨[],[]⟩ ⟨F,.nil⟩ h) λo=>two o λe' h'=>some (Ex.normal,(⟨e'.vars,.nil⟩:Env),h'))=some (c,e',h'):=b;replace b:=dB.1 b;obtain⟨⟨k,j⟩,q,b⟩:=b;simp only[km,ar,aB]at b;obtain⟨rfl,rfl,rfl⟩:=b;exact O base G m w0 μ0 h0 ops _ _ h j a w Q id (by grind) K q n λf i x=>d f i x.drop
 |seq r y A C=>
  intro g e h c e' h' b a w Q H d;simp only[mh,az]at g;have b:(M (jP cx cf p G r e h) λo=>three o λc e' h'=> @Ex.rec (λ_=>Out) (jP cx cf p G y e' h') (λl=>some (.exit l,e',h')) (some (.ret,e',h')) c)=some (c,e',h'):=b;replace b:=dB.1 b;obtain⟨⟨t,k,j⟩,q,b⟩:=b;refine wp_seq (A g.1 e h t k j q a w _ H λf i n=>?_);cases t with
  |normal=>exact C g.2 k j c e' h' b f i Q n d
  |exit l=>
   have b:some (Ex.exit l,k,j)=some (c,e',h'):=b;simp only[ar,aB]at b;obtain⟨rfl,rfl,rfl⟩:=b;exact d f i n
  |ret=>
   have b:some (Ex.ret,k,j)=some (c,e',h'):=b;simp only[ar,aB]at b;obtain⟨rfl,rfl,rfl⟩:=b;exact d f i n
 |cond L r y A C=>
  intro g e h c e' h' b a w Q H d;simp only[mh,az]at g;have b:(M (fq cx G e L) λE=>match E with
   | .bool v=> @Bool.rec (λ_=>Out) (jP cx cf p G y e h) (jP cx cf p G r e h) v
   |_=>none)=some (c,e',h'):=b
  replace b:=dB.1 b;obtain⟨E,S,b⟩:=b;cases E<;>simp only[reduceCtorEq]at b;rename_i v;have I:a.eval L= .bool v:=by
   obtain⟨W,T,o,_⟩:=H;exact(fN T o S).pI
  cases v with
  |true=>exact wp_cond_true I (A g.1 e h c e' h' b a w Q H d)
  |false=>exact wp_cond_false I (C g.2 e h c e' h' b a w Q H d)
 |block id r z=>
  intro g e h c e' h' b a w Q H d;have b:(M (jP cx cf p G r e h) λo=>three o λc e' h'=> @Ex.rec (λ_=>Out) (some (.normal,e',h')) (λl=> @Bool.rec (λ_=>Out) (some (.exit l,e',h')) (some (.normal,e',h')) (Nat.beq l id)) (some (.ret,e',h')) c)=some (c,e',h'):=b;replace b:=dB.1 b;obtain⟨⟨t,k,j⟩,q,b⟩:=b;refine wp_block (z g e h t k j q a w _ H λf i n=>?_);cases t with
  |normal=>
   have b:some (Ex.normal,k,j)=some (c,e',h'):=b;simp only[ar,aB]at b;obtain⟨rfl,rfl,rfl⟩:=b;exact d f i n
  |exit l=>
   have b: @Bool.rec (λ_=>Out) (some (.exit l,k,j)) (some (.normal,k,j)) (Nat.beq l id)=some (c,e',h'):=b;show(if l=id then Q .normal f i else Q (.exit l) f i);cases u:Nat.beq l id with
   |true=>
    rw[u]at b;simp only[ar,aB]at b;obtain⟨rfl,rfl,rfl⟩:=b;rw[aq (aC u)];exact d f i n
   |false=>
    rw[u]at b;simp only[ar,aB]at b;obtain⟨rfl,rfl,rfl⟩:=b;rw[ao (cD u)];exact d f i n
  |ret=>
   have b:some (Ex.ret,k,j)=some (c,e',h'):=b;simp only[ar,aB]at b;obtain⟨rfl,rfl,rfl⟩:=b;exact d f i n
 |loop r z=>
  intro g e h c e' h' b a w Q H d;exact KJ (ID (z g) p e h c e' h' b a w Q H d)
 |_=>intro _ e h c e' h' b;exact absurd b (by simp[jP])
end
end
section
def mL{d g:Type}{b c:d->aa g}:∀{a:List d},(∀x∈a,b x=c x)->fG b a=fG c a
 | [],_=>rfl
 |x::a,h=>by
  rw[jp,jp,h x J,mL λf i=>h f (by grind)]
section
variable {cx:Ctx}{G:Nat}{e e':Env}{h h1 h2:H}
def Aw{a:List ah}(c:∀b∈a,fq cx G e b=fq cx G e' b):py cx G e a=py cx G e' a:=mL c
def wJ{b:List (Nat×ah)}(d:∀a∈b,fq cx G e a.2=fq cx G e' a.2):partsOf cx G e b=partsOf cx G e' b:=by
 unfold partsOf;refine mL λa c=>?_;obtain⟨f,g⟩:=a;simp only[km];rw[d (f,g) c]
def tZ{b:aa ah}(f:∀a,b=some a->fq cx G e a=fq cx G e' a):jF cx G e b=jF cx G e' b:=by
 cases b with
 |none=>rfl
 |some a=>
  show(M (fq cx G e a) λd=>M (mZ d) λc=>some (some c))=(M (fq cx G e' a) λd=>M (mZ d) λc=>some (some c));rw[f a rfl]
def zu{f:Op}(b:∀a∈f.operands,fq cx G e a=fq cx G e' a):iT f cx G e h=iT f cx G e' h:=by
 by_cases v:∃d,f= .call d
 ·obtain⟨d,rfl⟩:=v;have h1:py cx G e d.args.toList=py cx G e' d.args.toList:=Aw λa w=>b a (by simp only[Op.operands,Call.operands,Array.mem_append];grind);simp only[iT,Ct,h1];cases u:d.callee with
  |builtin j=>rfl
  |invoke a s=>rfl
  |value n=>
   have h2:=b n (by simp only[Op.operands,Call.operands,u];simp)
   grind
 cases f with
 |move a=>have h1:=b a (by simp[Op.operands]);simp_all[Co,iT]
 |assign a=>have h1:=b a (by simp[Op.operands]);simp_all[Co,iT]
 |pick d g j=>
  have h1:=b d (by simp[Op.operands]);have h2:=b g (by simp[Op.operands]);have p:=b j (by simp[Op.operands]);simp_all[Ea,iT]
 |alloc c=>rfl
 |box c a=>have h1:=b a (by simp[Op.operands]);simp_all[LP,iT]
 |build c m=>
  have h1:partsOf cx G e m.toList=partsOf cx G e' m.toList:=wJ λo x=>b o.2 (by simp only[Op.operands,List.mem_toArray,List.mem_map];grind);simp_all[Aa,iT]
 |buildSlice c K m=>
  have h1:partsOf cx G e m.toList=partsOf cx G e' m.toList:=wJ λo x=>b o.2 (by simp only[Op.operands,List.mem_toArray,List.mem_map];grind);simp_all[nK,iT]
 |load c g=>have h1:=b g (by simp[Op.operands]);simp_all[G4,iT]
 |store c g a=>have h1:=b g (by simp[Op.operands]);have h2:=b a (by simp[Op.operands]);simp_all[Ck,iT]
 |nilCheck a=>have h1:=b a (by simp[Op.operands]);simp_all[qy,iT]
 |binOp f c a C N=>
  have h1:=b a (by simp[Op.operands]);have h2:=b C (by simp[Op.operands]);cases f<;>simp only[iT,VT,LQ,h1,h2]
 |unOp f c a=>have h1:=b a (by simp[Op.operands]);simp_all[hUn,iT]
 |convert A E a=>have h1:=b a (by simp[Op.operands]);simp_all[J8,iT]
 |makeInterface c a=>have h1:=b a (by simp[Op.operands]);simp_all[z7,iT]
 |makeFunc F g j=>
  have h1:py cx G e j.toList=py cx G e' j.toList:=Aw λa w=>b a (by simp only[Op.operands,Array.mem_append];grind);simp_all[Cr,iT]
 |makeSlice c z d=>have h1:=b z (by simp[Op.operands]);have h2:=b d (by simp[Op.operands]);simp_all[oL,iT]
 |slice c a r q t=>
  have h1:=b a (by simp[Op.operands]);have h2:jF cx G e r=jF cx G e' r:=tZ λl k=>b l (by subst k;simp[Op.operands]);have p:jF cx G e q=jF cx G e' q:=tZ λl k=>b l (by subst k;simp[Op.operands]);have I:jF cx G e t=jF cx G e' t:=tZ λl k=>b l (by subst k;simp[Op.operands]);simp_all[Cm,iT]
 |fieldAddr c a n=>have h1:=b a (by simp[Op.operands]);simp_all[oN,iT]
 |field c a n=>have h1:=b a (by simp[Op.operands]);simp_all[z9,iT]
 |indexAddr c a i=>have h1:=b a (by simp[Op.operands]);have h2:=b i (by simp[Op.operands]);simp_all[oM,iT]
 |index c a i=>have h1:=b a (by simp[Op.operands]);have h2:=b i (by simp[Op.operands]);simp_all[zW,iT]
 |extract a i=>have h1:=b a (by simp[Op.operands]);simp_all[tJ,iT]
 |makeMap c M=>rfl
 |lookup c a i L=>have h1:=b a (by simp[Op.operands]);have h2:=b i (by simp[Op.operands]);simp_all[wm,iT]
 |mapUpdate c s y a=>
  have h1:=b s (by simp[Op.operands]);have h2:=b y (by simp[Op.operands]);have p:=b a (by simp[Op.operands]);simp_all[qW,iT]
 |range c a=>have h1:=b a (by simp[Op.operands]);simp_all[Cn,yy,iT]
 |next it A=>have h1:=b it (by simp[Op.operands]);simp_all[vk,GY,iT]
 |entry=>rfl
 |_=>first|rfl|grind
def vd{c:Op}(b:∀a∈c.operands,fq cx G e a=fq cx G e' a):fP cx G e h c=fP cx G e' h c:=by
 cases c with
 |load d a=>have h1:=b a (by simp[Op.operands]);grind [fP]
 |indexAddr d a f=>have h1:=b a (by simp[Op.operands]);grind [fP]
 |slice d a j i k=>have h1:=b a (by simp[Op.operands]);grind [fP]
 |convert m g a=>have h1:=b a (by simp[Op.operands]);grind [fP]
 |lookup d a f l=>have h1:=b a (by simp[Op.operands]);grind [fP]
 |_=>rfl
def jg(h1 h2:H)(c d:aa kC):Prop:=∀b a,c=some (.val b a)->a=h1/\d=some (.val b h2)
theorem jg.none:jg h1 h2 none none:=λ_ _ a=>by grind
theorem jg.val{a:aa T}:jg h1 h2 (val h1 a) (val h2 a):=λd c b=>by
 obtain⟨rfl,rfl⟩:=fF.1 b;exact⟨rfl,fF.2 ⟨rfl,rfl⟩⟩
def jg.some{a:T}:jg h1 h2 (some (.val a h1)) (some (.val a h2)):=λa b c=>by
 grind
theorem jg.M{f:Type}{a:aa f}{c d:f->aa kC}(g:∀b,a=Option.some b->jg h1 h2 (c b) (d b)):jg h1 h2 (M a c) (M a d):=by
 cases a with
 |none=>exact jg.none
 |some b=>simp_all
theorem jg.fQ{a:Bool}{b c:aa kC}(d:jg h1 h2 b c):jg h1 h2 (fQ a b) (fQ a c):=by
 cases a with
 |false=>exact jg.none
 |true=>exact d
def jg.bool{a:Bool}{b d c f:aa kC}(g:jg h1 h2 b c)(i:jg h1 h2 d f):jg h1 h2 (Bool.casesOn a b d) (Bool.casesOn a c f):=by
 cases a<;>assumption
def KG(b:Nat->T):Prop:=(∀a,b a= .ptr a 0 0 0)\/(∃c,∀a,b a= .arr a 0 0 c false)\/(∀a,b a= .iter a)\/(∀a,b a= .map a)
def Mk(h1 h2:H)(f g:aa kC):Prop:=∀c b,f=some (.val c b)->∃a d,KG a/\c=a h1.size/\b=h1.cons d/\g=some (.val (a h2.size) (h2.cons d))
theorem Mk.none:Mk h1 h2 none none:=λ_ _ a=>by grind
def Mk.new{f:Nat->T}{b:iI}(c:KG f):Mk h1 h2 (jl (h1.new f b)) (jl (h2.new f b)):=λg d a=>by
 rw[iX,H.ku]at a;simp only[ar,aB]at a;obtain⟨rfl,rfl⟩:=a;exact⟨f,b,c,rfl,rfl,by rw[iX,H.ku]⟩
theorem Mk.M{f:Type}{a:aa f}{c d:f->aa kC}(g:∀b,a=Option.some b->Mk h1 h2 (c b) (d b)):Mk h1 h2 (M a c) (M a d):=by
 cases a with
 |none=>exact Mk.none
 |some b=>simp_all
theorem Mk.fQ{a:Bool}{b c:aa kC}(d:Mk h1 h2 b c):Mk h1 h2 (fQ a b) (fQ a c):=by
 cases a with
 |false=>exact Mk.none
 |true=>exact d
def Ou{a:ab}:Mk h1 h2 (iT (.alloc a) cx G e h1) (iT (.alloc a) cx G e h2):=by
 simp only[iT,Cu];refine Mk.M λb _=>?_;cases wi cx b<;>exact Mk.new (.inl λ_=>rfl)
def VA{a:ab}{b:ah}:Mk h1 h2 (iT (.box a b) cx G e h1) (iT (.box a b) cx G e h2):=by
 simp only[iT,LP];exact Mk.M λc _=>Mk.fQ (Mk.new (.inl λ_=>rfl))
def Dh{c:ab}{b:Nat}{a:af (Nat×ah)}:Mk h1 h2 (iT (.buildSlice c b a) cx G e h1) (iT (.buildSlice c b a) cx G e h2):=by
 simp only[iT,nK];refine Mk.M λd _=>?_;cases d.u<;>first
  |exact Mk.none
  |exact Mk.M λg _=>Mk.M λa _=>Mk.fQ (Mk.fQ (Mk.M λf _=>Mk.new (.inr (.inl ⟨_,λ_=>rfl⟩))))
def EN{c:ab}{b a:ah}:Mk h1 h2 (iT (.makeSlice c b a) cx G e h1) (iT (.makeSlice c b a) cx G e h2):=by
 simp only[iT,oL];refine Mk.M λd _=>?_;cases d.u<;>first
  |exact Mk.none
  |exact Mk.M λf _=>Mk.M λ_ _=>Mk.M λ_ _=>Mk.M λ_ _=>Mk.M λ_ _=>Mk.fQ (Mk.fQ (Mk.fQ (Mk.fQ (Mk.new (.inr (.inl ⟨_,λ_=>rfl⟩))))))
def Iz{b:ab}{a:aa ah}:Mk h1 h2 (iT (.makeMap b a) cx G e h1) (iT (.makeMap b a) cx G e h2):=by
 simp only[iT,tI];cases a with
 |some d=>exact Mk.none
 |none=>
  refine Mk.M λc _=>?_;cases c.u<;>first
   |exact Mk.none
   |exact Mk.new (.inr (.inr (.inr λ_=>rfl)))
def LH{f:Ty}{c g:T}(hl:∀a,dM c=some a->a<h1.size->h2.get a=h1.get a)(b:h1.load f c=some g):h2.load f c=some g:=by
 cases c with
 |ptr a j k m=>
  have b:(M (h1.elem a j k) λe=>M (jB m e.cells) λi=>j4 f i)=some g:=b;show(M (h2.elem a j k) λe=>M (jB m e.cells) λi=>j4 f i)=some g;replace b:=dB.1 b;obtain⟨n,l,b⟩:=b;have o:h2.elem a j k=some n:=by
   have d:=l;unfold H.elem at d|-;replace d:=dB.1 d;obtain⟨q,p,_⟩:=d;rw[hl a rfl (H.ej p)];exact l
  rw[o];exact b
 |_=>exact b
def Dm{g:Ty}{j:T}{b:Nat}(hl:∀a,dM j=some a->a<h1.size->h2.get a=h1.get a):jg h1 h2 (kw h1 g j b) (kw h2 g j b):=by
 cases j with
 |Y s m=>exact jg.M λ_ _=>jg.fQ jg.some
 |arr a d l k m=>
  intro o n f;have q:=f;have f:fQ (Nat.blt b k) (M (h1.get a) λc=>fQ (Nat.beq c.sz g.size)<|fQ (Nat.beq c.ep d) (M (fU (Nat.add l b)) λi=>some (kC.val (.ptr a d i 0) h1)))=some (.val o n):=f;have⟨_,f⟩:=dJ.1 f;have⟨j,r,_⟩:=dB.1 f;have p:=hl a rfl (H.ej r);have:kw h2 g (.arr a d l k m) b=fQ (Nat.blt b k) (M (h1.get a) λc=>fQ (Nat.beq c.sz g.size)<|fQ (Nat.beq c.ep d) (M (fU (Nat.add l b)) λi=>some (kC.val (.ptr a d i 0) h2))):=by
   rw[<-p];rfl
  rw[this];exact(jg.fQ (jg.M λ_ _=>jg.fQ (jg.fQ (jg.M λ_ _=>jg.some))):jg h1 h2 (fQ (Nat.blt b k) (M (h1.get a) λc=>fQ (Nat.beq c.sz g.size)<|fQ (Nat.beq c.ep d) (M (fU (Nat.add l b)) λi=>some (kC.val (.ptr a d i 0) h1)))) _) o n q
 |_=>exact jg.none
theorem Do{f:Nat}{g:Ty}{b:T}{d:Nat}(hl:∀a,dM b=some a->a<h1.size->h2.get a=h1.get a):jg h1 h2 (oc h1 f g b d) (oc h2 f g b d):=by
 unfold oc;refine jg.fQ ?_;cases b<;>first
  |exact jg.none
  |exact jg.M λ_ _=>jg.some
  |skip
 rename_i a k m n;simp only;cases c:h1.get a with
 |none=>intro o l i;simp at i
 |some j=>
  rw[hl a rfl (H.ej c),c];simp[dS,jg.some,jg.M,jg.fQ,jg.bool]
def IH{b:T}{f:List T}(hl:∀a,dM b=some a->a<h1.size->h2.get a=h1.get a)(c:h1.jf b=some f):h2.jf b=some f:=by
 cases b with
 |arr a j m l k=>
  have d:=c;unfold H.jf at d|-;simp only at d|-;have⟨i,g,_⟩:=dB.1 d;rw[hl a rfl (H.ej g)];exact c
 |_=>exact c
def E8{b:T}{f:List T}(hl:∀a,dM b=some a->a<h1.size->h2.get a=h1.get a)(c:h1.entries b=some f):h2.entries b=some f:=by
 cases b with
 |map a=>
  have d:=c;unfold H.entries at d|-;simp only at d|-;have⟨i,g,_⟩:=dB.1 d;rw[hl a rfl (H.ej g)];exact c
 |_=>exact c
def Bx{g:U}{f:T}(hl:∀b,dM f=some b->b<h1.size->h2.get b=h1.get b)(a:jm cx h1 g f=true):jm cx h2 g f=true:=by
 cases g with
 |slice e=>
  unfold jm at a|-;simp only at a|-;cases d:cx.ty e with
  |none=>rw[d]at a;exact a
  |some k=>
   rw[d]at a;cases f with
   |arr b j q o l=>
    simp only at a|-;cases c:h1.get b with
    |none=>rw[c]at a;grind
    |some i=>rw[hl b rfl (H.ej c),c];rw[c]at a;exact a
   |_=>exact a
 |array p e=>
  unfold jm at a|-;simp only at a|-;cases d:cx.ty e with
  |none=>rw[d]at a;exact a
  |some k=>
   rw[d]at a;cases f with
   |ptr b j m n=>
    simp only at a|-;cases c:h1.get b with
    |none=>rw[c]at a;grind
    |some i=>rw[hl b rfl (H.ej c),c];rw[c]at a;exact a
   |_=>exact a
 |_=>exact a
def F9{m:Op}(av:gJ m=false)(hl:∀f,fP cx G e h1 m=some f->f<h1.size->h2.get f=h1.get f){c:T}{g:H}(b:iT m cx G e h1=some (.val c g)):
 (g=h1/\iT m cx G e h2=some (.val c h2))\/
 (∃q a,KG q/\fP cx G e h1 m=some h1.size/\c=q h1.size/\g=h1.cons a/\iT m cx G e h2=some (.val (q h2.size) (h2.cons a))):=by
 have K:Mk h1 h2 (iT m cx G e h1) (iT m cx G e h2)->fP cx G e h1 m=some h1.size->(g=h1/\iT m cx G e h2=some (.val c h2))\/
  (∃q a,KG q/\fP cx G e h1 m=some h1.size/\c=q h1.size/\g=h1.cons a/\iT m cx G e h2=some (.val (q h2.size) (h2.cons a))):=λY x=>by
  obtain⟨q,a,X,bn,bB,bC⟩:=Y c g b
  grind
 by_cases W:∃y,m= .call y
 ·obtain⟨y,rfl⟩:=W;left;have:jg h1 h2 (iT (.call y) cx G e h1) (iT (.call y) cx G e h2):=by
   simp only[iT,Ct];refine jg.M λV _=>?_;cases ap:y.callee with
   |invoke a Y=>exact jg.none
   |value q=>grind [gJ]
   |builtin f=>
    cases f<;>simp[gJ,ap]at av<;>simp only[kR]
    case len=>
     match V with
     | []=>exact jg.none
     | [a]=>
      simp only[L9];refine jg.M λ_ _=>jg.M λj _=>?_;cases j.u<;>first
       |exact jg.none
       |exact jg.val
       |(cases a<;>first|exact jg.none|exact jg.val)
     |_::_::_=>exact jg.none
    all_goals
     match V with
     | []=>exact jg.none
     | [a]=>exact jg.none
     | [a,U]=>exact jg.val
     |_::_::_::_=>exact jg.none
  exact this c g b
 cases m with
 |alloc d=>exact K Ou rfl
 |box d a=>exact K VA rfl
 |buildSlice d n R=>exact K Dh rfl
 |makeSlice d l y=>exact K EN rfl
 |range=>grind [gJ]
 |entry=>grind [gJ]
 |store=>grind [gJ]
 |next=>grind [gJ]
 |load d i=>
  left;have b:(M (cx.ty d) λj=>M (fq cx G e i) λi=>val h1 (h1.load j i))=some (.val c g):=b;replace b:=dB.1 b;obtain⟨j,P,b⟩:=b;replace b:=dB.1 b;obtain⟨s,t,b⟩:=b;obtain⟨E,rfl⟩:=fF.1 b;refine⟨rfl,?_⟩;show(M (cx.ty d) λj=>M (fq cx G e i) λi=>val h2 (h2.load j i))=some (.val c h2);rw[P,t];exact fF.2 ⟨LH (λf x z=>hl f (by show M (fq cx G e i) dM=some f;rw[t];exact x) z) E,rfl⟩
 |indexAddr d a C=>
  left;have bs:∀s,fq cx G e a=some s->∀f,dM s=some f->f<h1.size->h2.get f=h1.get f:=λs t f x z=>
   hl f (by show M (fq cx G e a) dM=some f;rw[t];exact x) z
  have:jg h1 h2 (iT (.indexAddr d a C) cx G e h1) (iT (.indexAddr d a C) cx G e h2):=by
   simp only[iT,oM];refine jg.M λj _=>jg.M λs t=>jg.M λ_ _=>jg.M λQ _=>?_;cases j.u<;>first
    |exact jg.none
    |exact jg.M λS _=>Dm (bs s t)
    |grind [Do,jg.M]
  exact this c g b
 |slice d a w o p=>
  left;have b:(M (cx.ty d) λj=>M (fq cx G e a) λa=>fQ (jm cx h1 j.u a)<|M (jF cx G e w) λw=>M (jF cx G e o) λo=>M (jF cx G e p) λp=>
   fQ (zI o p) (val h1 (oE (asSlice j.u a) w o p)))=some (.val c g):=b
  replace b:=dB.1 b;obtain⟨j,P,b⟩:=b;replace b:=dB.1 b;obtain⟨s,t,b⟩:=b;obtain⟨aA,b⟩:=dJ.1 b;have bz:jm cx h2 j.u s=true:=Bx (λf x z=>hl f (by show M (fq cx G e a) dM=some f;rw[t];exact x) z) aA;have:jg h1 h2 (M (jF cx G e w) λw=>M (jF cx G e o) λo=>M (jF cx G e p) λp=>fQ (zI o p) (val h1 (oE (asSlice j.u s) w o p)))
   (M (jF cx G e w) λw=>M (jF cx G e o) λo=>M (jF cx G e p) λp=>fQ (zI o p) (val h2 (oE (asSlice j.u s) w o p))):=
   jg.M λ_ _=>jg.M λ_ _=>jg.M λ_ _=>jg.fQ jg.val
  obtain⟨X,bn⟩:=this c g b;refine⟨X,?_⟩;show(M (cx.ty d) λj=>M (fq cx G e a) λa=>fQ (jm cx h2 j.u a)<|M (jF cx G e w) λw=>M (jF cx G e o) λo=>M (jF cx G e p) λp=>
   fQ (zI o p) (val h2 (oE (asSlice j.u a) w o p)))=some (.val c h2)
  rw[P,t];simp_all
 |binOp m d a U I=>
  left;have:jg h1 h2 (iT (.binOp m d a U I) cx G e h1) (iT (.binOp m d a U I) cx G e h2):=by
   cases m<;>simp only[iT,VT,LQ]<;>first
    |exact jg.M λ_ _=>jg.M λ_ _=>jg.M λ_ _=>jg.fQ (jg.M λ_ _=>jg.val)
    |exact jg.M λ_ _=>jg.M λ_ _=>jg.val
  exact this c g b
 |move a=>left;exact(show jg h1 h2 (iT (.move a) cx G e h1) (iT (.move a) cx G e h2)from jg.val) c g b
 |assign a=>left;exact(show jg h1 h2 (iT (.assign a) cx G e h1) (iT (.assign a) cx G e h2)from jg.val) c g b
 |pick y i f=>
  left;have:jg h1 h2 (iT (.pick y i f) cx G e h1) (iT (.pick y i f) cx G e h2):=by
   simp only[iT,Ea];refine jg.M λc _=>?_;cases c<;>first|exact jg.none|simp[jg.val,jg.bool]
  exact this c g b
 |build d R=>
  left;have:jg h1 h2 (iT (.build d R) cx G e h1) (iT (.build d R) cx G e h2):=by
   simp only[iT,Aa];refine jg.M λj _=>jg.M λ_ _=>?_;cases j.u<;>first|exact jg.none|exact jg.M λ_ _=>jg.val|simp[jg.val,jg.M]
  exact this c g b
 |nilCheck a=>
  left;have:jg h1 h2 (iT (.nilCheck a) cx G e h1) (iT (.nilCheck a) cx G e h2):=by
   simp only[iT,qy];refine jg.M λc _=>?_;cases c<;>first|exact jg.none|exact jg.some
  exact this c g b
 |unOp m d a=>left;exact(show jg h1 h2 (iT (.unOp m d a) cx G e h1) (iT (.unOp m d a) cx G e h2)from jg.M λ_ _=>jg.val) c g b
 |convert F A a=>
  left;have b:(M (cx.ty F) λ_=>M (fq cx G e a) λi=>M (cx.ty A) λL=>match L.u with
   | .slice _=>val h1 (CS cx A i)
   | .str=>(match i with
    | .str _=>val h1 (conv cx A i)
    |_=>val h1 (FN cx h1 F i))
   |_=>val h1 (conv cx A i))=some (.val c g):=b
  show g=h1/\(M (cx.ty F) λ_=>M (fq cx G e a) λi=>M (cx.ty A) λL=>match L.u with
   | .slice _=>val h2 (CS cx A i)
   | .str=>(match i with
    | .str _=>val h2 (conv cx A i)
    |_=>val h2 (FN cx h2 F i))
   |_=>val h2 (conv cx A i))=some (.val c h2)
  obtain⟨bN,a8,b⟩:=dB.1 b;obtain⟨s,t,b⟩:=dB.1 b;obtain⟨bu,aX,b⟩:=dB.1 b;rw[a8,t,aX];simp only[dS];have aE:∀{I:T},FN cx h1 F s=some I->FN cx h2 F s=some I:=by
   intro I v;unfold FN at v|-;obtain⟨t2,aN,v⟩:=dB.1 v;rw[aN];simp only[dS];cases bk:t2.u<;>rw[bk]at v<;>simp only[reduceCtorEq]at v|-;obtain⟨S,a7,v⟩:=dB.1 v;rw[a7];simp only[dS];cases bl:S.u<;>rw[bl]at v<;>simp only[reduceCtorEq]at v|-;obtain⟨an,v⟩:=dJ.1 v;rw[an,il];obtain⟨al,O,v⟩:=dB.1 v;rw[IH (λf x z=>hl f (by show M (fq cx G e a) dM=some f;rw[t];exact x) z) O];exact v
  cases bi:bu.u<;>rw[bi]at b<;>simp only at b|-
  case str=>
   cases s<;>simp only at b|- <;>(obtain⟨E,rfl⟩:=fF.1 b)<;>first
    |exact⟨rfl,fF.2 ⟨aE E,rfl⟩⟩
    |exact⟨rfl,fF.2 ⟨E,rfl⟩⟩
  all_goals
   obtain⟨E,rfl⟩:=fF.1 b;exact⟨rfl,fF.2 ⟨E,rfl⟩⟩
 |lookup d a C ae=>
  left;have:jg h1 h2 (iT (.lookup d a C ae) cx G e h1) (iT (.lookup d a C ae) cx G e h2):=by
   simp only[iT,wm];refine jg.M λj _=>?_;cases j.u<;>first
    |exact jg.none
    |skip
   refine jg.M λbH _=>jg.M λS _=>jg.M λs t=>jg.M λk _=>jg.fQ ?_;intro c g b;obtain⟨al,O,b⟩:=dB.1 b;rw[E8 (h2:=h2) (λf x z=>hl f (by show M (fq cx G e a) dM=some f;rw[t];exact x) z) O];exact(jg.M λ_ _=>jg.bool jg.val jg.none:jg h1 h2 _ _) c g b
  exact this c g b
 |makeMap d r=>exact K Iz rfl
 |mapUpdate=>grind [gJ]
 |makeInterface d a=>
  left;have:jg h1 h2 (iT (.makeInterface d a) cx G e h1) (iT (.makeInterface d a) cx G e h2):=by
   simp only[iT,z7];refine jg.M λj _=>?_;cases j.u<;>first|exact jg.none|exact jg.M λ_ _=>jg.fQ jg.val
  exact this c g b
 |makeFunc N i f=>
  left;have:jg h1 h2 (iT (.makeFunc N i f) cx G e h1) (iT (.makeFunc N i f) cx G e h2):=by
   simp only[iT,Cr];cases N<;>first
    |exact jg.none
    |(cases i.toList<;>first|exact jg.none|simp[jg.val,jg.M])
  exact this c g b
 |fieldAddr d a q=>
  left;have:jg h1 h2 (iT (.fieldAddr d a q) cx G e h1) (iT (.fieldAddr d a q) cx G e h2):=by
   simp only[iT,oN];refine jg.M λ_ _=>jg.M λc _=>?_;cases c<;>first|exact jg.none|exact jg.M λ_ _=>jg.some
  exact this c g b
 |field d a q=>
  left;have:jg h1 h2 (iT (.field d a q) cx G e h1) (iT (.field d a q) cx G e h2):=by
   simp only[iT,z9];refine jg.M λ_ _=>jg.M λ_ _=>jg.M λc _=>?_;cases c<;>first|exact jg.none|simp[jg.val,jg.M]
  exact this c g b
 |index d a C=>
  left;have:jg h1 h2 (iT (.index d a C) cx G e h1) (iT (.index d a C) cx G e h2):=by
   simp only[iT,zW];refine jg.M λj _=>jg.M λc _=>jg.M λ_ _=>jg.M λ_ _=>?_;cases j.u<;>first
    |exact jg.none
    |(cases c<;>first|exact jg.none|exact jg.M λ_ _=>jg.val|grind [jg.val,jg.M,jg.fQ])
  exact this c g b
 |extract a Q=>
  left;have:jg h1 h2 (iT (.extract a Q) cx G e h1) (iT (.extract a Q) cx G e h2):=by
   simp only[iT,tJ];refine jg.M λc _=>?_;cases c<;>first|exact jg.none|exact jg.val
  exact this c g b
 |_=>first|exact(W ⟨_,rfl⟩).elim|exact absurd b (by simp[iT])
end
end
section
def Hw{c:List Nat}{b:List Edge}{d:Nat}(h:(ww c b).testBit d=true):
 ∃a∈b,Region.binds .any a=true/\(d=a.on\/(c.getD a.on 0).testBit d=true):=by
 induction b with
 |nil=>grind [ww]
 |cons a b f=>
  have h:(@Bool.rec (λ_=>Nat) (ww c b) ((ww c b)|||((1<<<a.on)|||(c.getD a.on 0))) (Region.binds .any a)).testBit d=true:=h;cases e:Region.binds .any a with
  |false=>
   rw[e]at h
   grind
  |true=>
   rw[e]at h;simp only[Nat.testBit_or,bM]at h;rcases h with h|h|h
   ·grind
   ·refine⟨a,J,e,.inl ?_⟩;rw[Nat.one_shiftLeft,Nat.testBit_two_pow]at h
    grind
   grind
structure Cl(ops:af Oper)(listed:af Bool):Prop where
 size:listed.size=ops.size
 closed:∀j oj,ops[j]? =some oj->listed.getD j false=true->∀e∈oj.after,Region.binds .any e=true->listed.getD e.on false=true
theorem RY{ops:af Oper}{g:af Bool}(q:Cl ops g):∀(k:List Oper) (d:List Nat),(∀n:Nat,k[n]? =ops[d.length+n]?)->
 (∀(b c:Nat),d[b]? =some c->∀f,c.testBit f=true->∀i,ops[b]? =some i->(∀a∈i.after,Region.binds .any a=true->g.getD a.on false=true)->g.getD f false=true)->
 ∀(b c:Nat),(Jk k d)[b]? =some c->∀f,c.testBit f=true->∀i,ops[b]? =some i->(∀a∈i.after,Region.binds .any a=true->g.getD a.on false=true)->g.getD f false=true:=by
 intro k;induction k with
 |nil=>intro d _ l b c e;exact l b c e
 |cons i k C=>
  intro d hl l;refine C (d++[ww d i.after.toList]) (λn=>?_) ?_
  ·have:=hl (n+1);simp only[da]at this;rw[this];congr 1;simp;omega
  ·intro b c e f u E m s;by_cases v:b<d.length
   ·rw[cr v]at e;exact l b c e f u E m s
   ·rw[cC B]at e;have z:b=d.length:=by
     rcases Nat.eq_or_lt_of_le (Nat.le_of_not_lt v)with h|h
     ·exact h.symm
     ·rw[bL dp]at e;simp at e
    subst z;simp at e;subst e;have r:=hl 0;simp at r;rw[<-r]at m;simp at m;subst m;have⟨a,x,w,j⟩:=Hw u;have o:=s a (by simpa using x) w;rcases j with rfl|j
    ·exact o
    ·have y:a.on<g.size:=by
      rcases aM a.on g.size with h|h
      ·exact h
      ·simp[Array.getElem?_eq_none h]at o
     have A:a.on<ops.size:=by rw[<-q.size];exact y
     have t:ops[a.on]? =some ops[a.on]:=by simp[A]
     cases p:d[a.on]? with
     |none=>rw[List.getD_eq_getElem?_getD,p]at j;simp at j
     |some c=>
      rw[List.getD_eq_getElem?_getD,p]at j;exact l a.on c p f j ops[a.on] t (q.closed a.on _ t o)
def BW{ops:af Oper}{a:af Bool}(g:Cl ops a){d e:Nat}{f:Oper}(c:jy ops d e=true)(i:ops[e]? =some f)
 (h:∀b∈f.after,Region.binds .any b=true->a.getD b.on false=true):a.getD d false=true:=by
 unfold jy at c;rw[List.getD_eq_getElem?_getD]at c
 grind [RY,Jk]
def nZ:Op->Bool
 | .store .. =>true
 |_=>false
def og(ops:af Oper):Bool:=
 let e:=Jk ops.toList []
 let d:=ops.toList.zipIdx
 d.all λa=>(a.1.after.toList.all λc=> !Region.binds .any c||Nat.blt c.on a.2)&&
  d.all λb=> !Nat.blt b.2 a.2||(b.1.apart ops a.1&&(!(gJ b.1.op&&gJ a.1.op)||(nZ b.1.op&&nZ a.1.op)))||(e.getD a.2 0).testBit b.2
def mem_zipIdx{ops:af Oper}{a:Nat}{b:Oper}(c:ops[a]? =some b):(b,a)∈ops.toList.zipIdx:=by
 rw[c8];exact⟨a,by simp[c]⟩
def I5{ops:af Oper}(e:og ops=true){b:Nat}{c:Oper}(f:ops[b]? =some c):∀a∈c.after,Region.binds .any a=true->a.on<b:=by
 intro a i h;unfold og at e;have d:=List.all_eq_true.1 e (c,b) (mem_zipIdx f);simp only[az]at d;have g:=List.all_eq_true.1 d.1 a (by grind);simp_all
def Hf{ops:af Oper}(g:og ops=true){b c:Nat}{d e:Oper}(i:ops[b]? =some d)(j:ops[c]? =some e)(l:b<c):
 (d.apart ops e=true/\(gJ d.op=true->gJ e.op=true->nZ d.op=true/\nZ e.op=true))\/jy ops b c=true:=by
 unfold og at g;have f:=List.all_eq_true.1 g (e,c) (mem_zipIdx j);simp only[az]at f;have a:=List.all_eq_true.1 f.2 (d,b) (mem_zipIdx i);have h:Nat.blt b c=true:=by rw[aF];omega
 simp only[h,Bool.not_true,Bool.false_or,bM,az,bF,Bool.and_eq_false_iff]at a;rcases a with⟨a,k⟩|a
 ·grind
 ·right;exact a
section
variable {cx:Ctx}{cf:iH}{G:Nat}{ops:af Oper}
def ou(G:Nat)(ops:af Oper)(c:Nat->Env)(b:Nat):Prop:=∃a,ops[b]? =some a/\gJ a.op=true/\ka ops G (c b) a.guard=some true
def wZ(cx:Ctx)(G:Nat)(ops:af Oper)(c:Nat->Env)(d:Nat->H)(a e:Nat):Prop:=
 ∃b,ops[a]? =some b/\gJ b.op=false/\ka ops G (c a) b.guard=some true/\fP cx G (c a) (d a) b.op=some e
def Uw(cx:Ctx)(G:Nat)(ops:af Oper)(c:Nat->Env)(a e:Nat):Prop:=
 ∃b f d g,ops[a]? =some b/\b.op= .store f d g/\ka ops G (c a) b.guard=some true/\M (fq cx G (c a) d) dM=some e
structure Trace(cx:Ctx)(cf:iH)(G:Nat)(ops:af Oper)(E:Nat->Env)(Hs:Nat->H):Prop where
 step:∀k o,ops[k]? =some o->kU cx cf G ops (E k) (Hs k) o=some (E (k+1),Hs (k+1))
 ahead:∀k k' b,wZ cx G ops E Hs k b->ou G ops E k'->k<k'->em (Hs k') (Hs (k'+1)) b=true\/jy ops k k'=true
 behind:∀k k' b,wZ cx G ops E Hs k b->ou G ops E k'->k'<k->em (Hs k') (Hs (k'+1)) b=true\/jy ops k' k=true
 both:∀k k' b,Uw cx G ops E k b->ou G ops E k'->k'<k->em (Hs k') (Hs (k'+1)) b=true\/jy ops k' k=true
def xE{a b:Bool}(c: @Bool.rec (λ_=>Bool) b true a=true):a=true\/b=true:=by cases a<;>simp_all
def xU{e:Oper}{k:List Oper}{c:Nat}{d:Seen}{g n:Env}{a o:H}(b:jL cx cf G ops (e::k) c d g a=some (n,o)):
 ∃h f j,kU cx cf G ops g a e=some (h,f)/\ka ops G g e.guard=some j/\
  ∃m,jL cx cf G ops k (c+1) m h f=some (n,o)/\(∀l∈d.lU,l∈m.lU)/\(∀l∈d.kG,l∈m.kG)/\
   (j=true->gJ e.op=true->wQ ops c a f d.lU=true/\(c,a,f)∈m.kG/\qf cx G ops c g d.kG e.op=true)/\
   (j=true->gJ e.op=false->∀i,fP cx G g a e.op=some i->nD ops c i d.kG=true/\(c,i)∈m.lU):=by
 have b:(M (kU cx cf G ops g a e) λl=>two l λh f=>
  M (ka ops G g e.guard) λj=> @Bool.rec (λ_=>aa (Env×H)) (jL cx cf G ops k (c+1) d h f)
   (@Bool.rec (λ_=>aa (Env×H))
     (@Option.rec Nat (λ_=>aa (Env×H)) (jL cx cf G ops k (c+1) d h f)
       (λi=>fQ (nD ops c i d.kG) (jL cx cf G ops k (c+1) ⟨(c,i)::d.lU,d.kG⟩ h f)) (fP cx G g a e.op))
     (fQ (wQ ops c a f d.lU) (fQ (qf cx G ops c g d.kG e.op) (jL cx cf G ops k (c+1) ⟨d.lU,(c,a,f)::d.kG⟩ h f))) (gJ e.op)) j)=some (n,o):=b
 replace b:=dB.1 b;obtain⟨⟨h,f⟩,r,b⟩:=b;simp only[km]at b;replace b:=dB.1 b;obtain⟨j,s,b⟩:=b;refine⟨h,f,j,r,s,?_⟩;cases j with
 |false=>grind
 |true=>
  cases q:gJ e.op with
  |true=>
   rw[q]at b
   grind [dJ]
  |false=>
   rw[q]at b;cases p:fP cx G g a e.op with
   |none=>
    rw[p]at b;exact⟨d,b,λ_ a=>a,λ_ a=>a,λ_ a=>by grind,λ_ _ i a=>by grind⟩
   |some i=>
    rw[p]at b
    grind [dJ,ar]
def Da:∀(E:List Oper) (c:Nat) (s:Seen) (t F:Env) (o I:H),(∀P,E[P]? =ops[c+P]?)->jL cx cf G ops E c s t o=some (F,I)->
 ∃(h:Nat->Env) (i:Nat->H),h c=t/\i c=o/\h (c+E.length)=F/\i (c+E.length)=I/\
  (∀a f,c<=a->ops[a]? =some f->kU cx cf G ops (h a) (i a) f=some (h (a+1),i (a+1)))/\
  (∀a b,c<=a->wZ cx G ops h i a b->∀g∈s.kG,em g.2.1 g.2.2 b=true\/jy ops g.1 a=true)/\
  (∀a,c<=a->ou G ops h a->∀g∈s.lU,em (i a) (i (a+1)) g.2=true\/jy ops g.1 a=true)/\
  (∀a d b,c<=a->wZ cx G ops h i a b->ou G ops h d->a<d->em (i d) (i (d+1)) b=true\/jy ops a d=true)/\
  (∀a d b,c<=d->wZ cx G ops h i a b->ou G ops h d->d<a->em (i d) (i (d+1)) b=true\/jy ops d a=true)/\
  (∀a b,c<=a->Uw cx G ops h a b->∀g∈s.kG,em g.2.1 g.2.2 b=true\/jy ops g.1 a=true)/\
  (∀a d b,c<=d->Uw cx G ops h a b->ou G ops h d->d<a->em (i d) (i (d+1)) b=true\/jy ops d a=true):=by
 intro E;induction E with
 |nil=>
  intro c s t F o I hl K;have K:some (t,o)=some (F,I):=K;simp only[ar,aB]at K;obtain⟨rfl,rfl⟩:=K;have A:∀a f,c<=a->ops[a]? =some f->False:=λa f e m=>by
   have:=hl (a-c);rw[show c+(a-c)=a by omega,m]at this;simp at this
  refine⟨λ_=>t,λ_=>o,rfl,rfl,rfl,rfl,λa f e m=>(A a f e m).elim,?_,?_,?_,?_,?_,?_⟩
  ·rintro a b e ⟨f,m,_⟩;exact(A a f e m).elim
  ·rintro a e ⟨f,m,_⟩;exact(A a f e m).elim
  ·rintro a d b e ⟨f,m,_⟩;exact(A a f e m).elim
  ·rintro a d b e _ ⟨f,m,_⟩;exact(A d f e m).elim
  ·rintro a b e ⟨f,_,_,_,m,_⟩;exact(A a f e m).elim
  ·rintro a d b e _ ⟨f,m,_⟩;exact(A d f e m).elim
 |cons f E bi=>
  intro c s t F o I hl K;have⟨ae,L,bT,a8,X,Y,a7,aE,aN,V,aX⟩:=xU K;have R:ops[c]? =some f:=by have:=hl 0;simpa using this.symm
  obtain⟨h,i,bk,bl,bn,bs,bu,ap,av,bz,bB,bH,bN⟩:=bi (c+1) Y ae F L I (λP=>by
   have:=hl (P+1);simp only[da]at this;rw[this];congr 1;omega) a7
  let n:Nat->Env:=λa=>if a=c then t else h a
  let u:Nat->H:=λa=>if a=c then o else i a
  have hE:∀a,a≠c->n a=h a:=λa e=>by simp[n,e]
  have p:∀a,a≠c->u a=i a:=λa e=>by simp[u,e]
  have y:n c=t:=by simp[n]
  have N:u c=o:=by simp[u]
  have aA:n (c+1)=ae:=by rw[hE _ B,bk]
  have U:u (c+1)=L:=by rw[p _ B,bl]
  have Q:∀a,a≠c->ou G ops n a->ou G ops h a:=λa e=>by unfold ou;rw[hE a e];exact id
  have S:∀a b,a≠c->wZ cx G ops n u a b->wZ cx G ops h i a b:=λa b e=>by unfold wZ;rw[hE a e,p a e];exact id
  have bS:∀a b,a≠c->Uw cx G ops n a b->Uw cx G ops h a b:=λa b e=>by unfold Uw;rw[hE a e];exact id
  have bC:∀b,Uw cx G ops n c b->nD ops c b s.kG=true:=by
   rintro b ⟨T,P,x,v,k,q,l,O⟩;rw[R]at k;simp only[ar]at k;subst k;rw[y,X]at l;rw[y]at O;simp only[ar]at l;have:=(V l (by rw[q];rfl)).2.2;rw[q]at this;have this: @Option.rec Nat (λ_=>Bool) true (λb=>nD ops c b s.kG) (M (fq cx G t x) dM)=true:=this;rw[O]at this;exact this
  have al:ou G ops n c->wQ ops c o L s.lU=true/\(c,o,L)∈Y.kG:=by
   rintro⟨T,k,q,l⟩;rw[R]at k;simp only[ar]at k;subst k;rw[y,X]at l;simp only[ar]at l;exact⟨(V l q).1,(V l q).2.1⟩
  have an:∀b,wZ cx G ops n u c b->nD ops c b s.kG=true/\(c,b)∈Y.lU:=by
   rintro b ⟨T,k,q,l,O⟩;rw[R]at k;simp only[ar]at k;subst k;rw[y,X]at l;rw[y,N]at O;simp only[ar]at l;exact aX l q b O
  refine⟨n,u,y,N,?_,?_,?_,?_,?_,?_,?_,?_,?_⟩
  ·rw[hE _ J,<-bn];congr 1;simp;omega
  ·rw[p _ J,<-bs];congr 1;simp;omega
  ·intro a T e k;by_cases j:a=c
   ·subst j;rw[R]at k;simp only[ar]at k;subst k;rw[y,N,aA,U];exact a8
   ·rw[hE a j,p a j,hE (a+1) B,p (a+1) B];exact bu a T B k
  ·intro a b e r g C;by_cases j:a=c
   ·subst j;have⟨q,_⟩:=an b r;exact xE (pL q g C)
   ·exact ap a b B (S a b j r) g (aN g C)
  ·intro a e w g C;by_cases j:a=c
   ·subst j;have⟨q,_⟩:=al w;rw[N,U];exact xE (pL q g C)
   ·rw[p a j,p (a+1) B];exact av a B (Q a j w) g (aE g C)
  ·intro a d b e r w W;have z:d≠c:=B;rw[p d z,p (d+1) B];by_cases j:a=c
   ·subst j;have⟨_,l⟩:=an b r;exact av d B (Q d z w) (a,b) l
   ·exact bz a d b B (S a b j r) (Q d z w) W
  ·intro a d b e r w W;have j:a≠c:=B;by_cases z:d=c
   ·subst z;have⟨_,l⟩:=al w;rw[N,U];exact ap a b B (S a b j r) (d,o,L) l
   ·rw[p d z,p (d+1) B];exact bB a d b B (S a b j r) (Q d z w) W
  ·intro a b e r g C;by_cases j:a=c
   ·subst j;exact xE (pL (bC b r) g C)
   grind
  grind
def Dz(cx:Ctx)(cf:iH)(G:Nat)(c:Env)(a:H)(f:Op)(g:T)(e:H):Prop:=
 iT f cx G c a=some (.val g e)\/∃d b,iT f cx G c a=some (.call d b)/\cf d b a=some (g,e)
def mB{e b:Env}{g c:H}{f:Oper}(a:kU cx cf G ops e g f=some (b,c)):
 (ka ops G e f.guard=some false/\e.dst G f.dst .undef=some b/\c=g)\/
 (ka ops G e f.guard=some true/\∃d,Dz cx cf G e g f.op d c/\e.dst G f.dst d=some b):=by
 replace a:=dB.1 a;obtain⟨r,q,a⟩:=a;cases r with
 |false=>
  left;have a:(M (e.dst G f.dst .undef) λb=>some (b,g))=some (b,c):=a;replace a:=dB.1 a;grind
 |true=>
  right;refine⟨q,?_⟩;have a:(M (iT f.op cx G e g) λj=> @kC.rec (λ_=>aa (Env×TI.H))
   (λd c=>M (e.dst G f.dst d) λb=>some (b,c))
   (λi h=>M (cf i h g) λl=>two l λd c=>M (e.dst G f.dst d) λb=>some (b,c)) j)=some (b,c):=a
  replace a:=dB.1 a;obtain⟨j,n,a⟩:=a;rcases j with⟨d,m⟩|⟨i,h⟩
  ·skip
   have a:(M (e.dst G f.dst d) λb=>some (b,m))=some (b,c):=a;replace a:=dB.1 a;obtain⟨o,k,a⟩:=a;simp only[ar,aB]at a;obtain⟨rfl,rfl⟩:=a;exact⟨d,.inl n,k⟩
  ·skip
   have a:(M (cf i h g) λl=>two l λd c=>M (e.dst G f.dst d) λb=>some (b,c))=some (b,c):=a;replace a:=dB.1 a;obtain⟨⟨d,m⟩,p,a⟩:=a;simp only[km]at a;replace a:=dB.1 a;obtain⟨o,k,a⟩:=a;simp only[ar,aB]at a;obtain⟨rfl,rfl⟩:=a;exact⟨d,.inr ⟨i,h,n,p⟩,k⟩
def CD{P:ai}{h:Nat}{a:World}{g:Mu}{j:Env}{b c:H}{i:Act}{k:Oper}{f:T}(iU:iG P cx)(o:mU P cx cf)
 (e:St cx h a.heap g b) (l:jY a.heap g G j i.tmps) (u:Dz cx cf G j b k.op f c):yW P (pV cx h a g b f c) ((execOp i.eval k).run P a):=by
 rcases u with d|⟨p,m,d,s⟩
 ·exact((yn iU e l d).ZT).mono λv w r=>⟨r,Ot e.wf f c d⟩
 ·have⟨_,n,q,t⟩:=Ga (P:=P) e l d;rw[t];exact o p m b f c s h a g n e q
def Dz.congr{b e':Env}{c d:H}{a:Op}{f:T}(h:∀g∈a.operands,fq cx G b g=fq cx G e' g)(e:Dz cx cf G b c a f d):Dz cx cf G e' c a f d:=by
 unfold Dz at*
 rw[zu h]at e;exact e
def IJ{b:Call}{d:Env}{f:H}{e:aj}{c:List T}(a:iT (.call b) cx G d f=some (.call e c)):gJ (.call b)=true:=by
 have a:Ct b cx G d f=some (.call e c):=a;replace a:=dB.1 a;grind [gJ,uy]
def Hb{d:Env}{e f:H}{b:Op}{h:T}(l:gJ b=false)(k:Dz cx cf G d e b h f):iT b cx G d e=some (.val h f):=by
 rcases k with c|⟨j,i,c,_⟩
 ·omega
 ·by_cases g:∃a,b= .call a
  ·obtain⟨a,rfl⟩:=g;rw[IJ c]at l;grind
  ·exact absurd c (B6 (λa m=>g ⟨a,m⟩) j i)
def As(G:Nat)(a:Env):List Nat->fH
 | []=> .nil
 |s::b=>match a.get G s with
  |some c=> .cons s c (As G a b)
  |none=>As G a b
def IE{b:Env}{c:Nat}:∀(a:List Nat),dG (As G b a) c=if c∈a then b.get G c else none:=by
 intro a;induction a with
 |nil=>rfl
 |cons e a d=>
  unfold As;cases f:b.get G e with
  |none=>
   grind
  |some g=>
   simp only[mM,d,co]
   grind
def BM(G:Nat)(a:Env)(b:List Nat):Env:=⟨As G a b,As G a b⟩
def yf{b:Env}{a:Nat}{c:List Nat}:(BM G b c).get G a=if a∈c then b.get G a else none:=by
 show @Bool.rec (λ_=>aa T) (dG (As G b c) a) (dG (As G b c) a) (jX G a)=_;rw[IE];cases jX G a<;>rfl
def zt{a:Env}{c:Oper}{b:ah}(h:b∈c.op.operands):fq cx G a b=fq cx G (BM G a (c.looksAt ops)) b:=by
 cases b with
 |tmp d=>
  show a.get G d=(BM G a (c.looksAt ops)).get G d;rw[yf,aq];unfold Oper.looksAt;exact cS _ (List.mem_filterMap.2 ⟨.tmp d,by grind,rfl⟩)
 |const e=>rfl
 |global g=>rfl
 |func f=>rfl
def HO{c:Env}{a:Oper}:ka ops G (BM G c (a.looksAt ops)) a.guard=ka ops G c a.guard:=by
 cases i:a.guard with
 |none=>rfl
 |some f=>
  obtain⟨d,k⟩:=f;show(M (M (M (lF ops.toList d) λa=>a.dst) λb=>(BM G c (a.looksAt ops)).get G b) λh=>_)=(M (M (M (lF ops.toList d) λa=>a.dst) λb=>c.get G b) λh=>_);cases e:(M (lF ops.toList d) λa=>a.dst)with
  |none=>rfl
  |some b=>
   simp only[dS];rw[yf,aq];unfold Oper.looksAt;refine df _ ?_;replace e:=dB.1 e;obtain⟨f,g,j⟩:=e;rw[ky]at g;have:ops[d]? =some f:=by grind
   grind
end
end
section
def eK.conv{G:af Obj}{C E:Mu}{b:T}{r:am}(a:eK G C b r){n:Nat}(hl:oR n b)(s:∀c e,c<n->C c=some e->E c=some e)
 (F:∀k,mR E k->mR C k):eK G E b r:=by
 induction a with
 |undef=>exact .undef
 |bool c=>exact .bool c
 |int d U=>exact .int d U
 |str W a=>exact .str W a
 |jQ=>exact .jQ
 |ptr c w k R e h j x O=>cases hl with|ptr _ _ _ _ a=>exact .ptr c w k R e h (s c e a j) x O
 |jh v t off arr q fz A y i p hr g=>
  cases hl with|jh _ a=>exact .jh v t off arr q fz (λd=>A (F _ d)) y i p λd b f=>g d b f (a b (ax f))
 |mX m h=>exact .mX m h
 |Y L M m t off u X arr q fz A y z P Q i p hr g=>
  cases hl with|Y _ _ a=>exact .Y L M m t off u X arr q fz (λd=>A (F _ d)) y z P Q i p λd b f=>g d b f (a b (ax f))
 |fK h u=>exact .fK h u
 |arr c w V S m e h K j x z o=>cases hl with|arr _ _ _ _ _ a=>exact .arr c w V S m e h K (s c e a j) x z o
 |func N I l i hr g=>cases hl with|func _ _ a=>exact .func N I l i λd b f=>g d b f (a b (ax f))
 |kj=>exact .kj
 |kq=>exact .kq
 |iface q b r a g=>cases hl with|iface _ _ a=>exact .iface q b r (g a)
 |iter c e h j o=>cases hl with|iter _ a=>exact .iter c e h (s c e a j) o
 |map c e k j o=>cases hl with|map _ a=>exact .map c e k (s c e a j) o
 |mw=>exact .mw
 |agg v l i p hr g=>cases hl with|agg _ a=>exact .agg v l i p λd b f=>g d b f (a b (ax f))
 |tuple ae l i hr g=>cases hl with|tuple _ a=>exact .tuple ae l i λd b f=>g d b f (a b (ax f))
def p8.conv{u:af Obj}{r s:Mu}{e:Loc}{p:iI}(i:p8 u r e p){n:Nat}(hl:∀c∈eY p.eg,oR n c)(k:∀m e,m<n->r m=some e->s m=some e)
 (j:∀l,mR s l->mR r l):p8 u s e p:=by
 refine⟨i.ep,i.sz,λa=>?_,λa=>?_⟩
 ·have h:=i.plain a;have⟨x,O,b,f,d⟩:=h.row;exact⟨⟨x,O,b,f,d.1,λa c v=>(d.2 a c v).conv (hl c (ax v)) k j⟩,h.room,h.sw,h.size,h.scalar⟩
 ·obtain⟨t,b|⟨z,b,f,d⟩|⟨K,I,M,N,y,b,f,d,G⟩⟩:=i.iter a
  ·grind
  rotate_left
  ·exact⟨t,.inr (.inr ⟨K,I,M,N,y,b,f.conv (hl _ (by rw[b];simp[eY,T.cells])) k j,d,G⟩)⟩
  ·refine⟨t,.inr (.inl ⟨z,b,f,λl q w=>?_⟩)⟩;have⟨a,c,L,o,A,C,E,F⟩:=d l q w;have g:=hl q (List.mem_flatMap.2 ⟨q,ax w,by rw[o];simp[T.cells]⟩);rw[o]at g;cases g with|tuple _ g=>exact⟨a,c,L,o,A,C,E.conv (g a J) k j,F.conv (g c J) k j⟩
def oR.mono{n c:Nat}{d:T}(a:oR n d)(g:n<=c):oR c d:=by
 induction a with
 |ptr b e h i a=>exact .ptr _ _ _ _ B
 |arr b e k j f a=>exact .arr _ _ _ _ _ B
 |iter b a=>exact .iter _ B
 |map b a=>exact .map _ B
 |_=>constructor<;>assumption
def St.congr{cx:Ctx}{f:Nat}{h:af Obj}{e:Mu}{g c:H}(a:St cx f h e g)(j:c.eZ.length=c.size)(l:∀b d,e b=some d->c.get b=g.get b):St cx f h e c:=
 ⟨j,a.fit,λb d i=>by have⟨o,k,m⟩:=a.box b d i;grind,a.inj,a.low,a.apart,a.pY,a.yA⟩
def H.get_some{a:H}(e:a.eZ.length=a.size){b:Nat}(c:b<a.size):∃d,a.get b=some d:=by
 rw[H.get_eq,aq c];exact⟨a.eZ[a.size-1-b]' B,J⟩
def uj(Hs:Nat->H)(a:Nat):Nat->Nat
 |0=>0
 |k+1=>if a<(Hs k).size then uj Hs a k else k+1
def Fd(Hs:Nat->H)(a n:Nat):uj Hs a n<=n:=by
 induction n with
 |zero=>simp[uj]
 |succ n b=>unfold uj;split<;>omega
def Ws{Hs:Nat->H}{a:Nat}{n:Nat}(d:∀b,b<n->(Hs b).size<=(Hs (b+1)).size)(c:a<(Hs n).size):a<(Hs (uj Hs a n)).size:=by
 induction n with
 |zero=>exact c
 |succ n e=>
  grind [uj]
theorem RE{Hs:Nat->H}{c:Nat}:∀{n p:Nat},p<uj Hs c n->(∀b,b<n->(Hs b).size<=(Hs (b+1)).size)->(Hs p).size<=c:=by
 intro n;induction n with
 |zero=>simp[uj]
 |succ n i=>
  intro p d f;unfold uj at d;split at d
  ·grind
  ·rename_i h;have:∀a,p+a=n->(Hs p).size<=(Hs n).size:=by
    intro a;induction a generalizing p with
    |zero=>intro e;rw[show p=n by omega];omega
    |succ a g=>
     intro e;have:=f p B;have:=g (p:=p+1) B B;omega
   have:=this (n-p) B;omega
section
variable {Hs:Nat->H}{n:Nat}
def mK(f:∀c,c<n->(Hs c).size<=(Hs (c+1)).size){b d:Nat}(e:b<=d)(j:d<=n):(Hs b).size<=(Hs d).size:=by
 obtain⟨a,rfl⟩:=Nat.exists_eq_add_of_le e;clear e;induction a with
 |zero=>simp
 |succ a g=>
  have h:=g B;have i:=f (b+a) B;have:b+(a+1)=b+a+1:=B;rw[this];omega
def kL(c:∀a,a<n->(Hs a).size<=(Hs (a+1)).size){b a:Nat}(e:b<(Hs n).size)(f:a<=n):b<(Hs a).size↔uj Hs b n<=a:=by
 constructor
 ·grind [uj,aM,RE]
 ·intro d;have:=Ws c e;have:=mK c d f;omega
def lJ(l:∀a,a<n->(Hs a).size<=(Hs (a+1)).size){c b e:Nat}(g:b<=e)(f:∀a,b<=a->a<e->(Hs (a+1)).get c=(Hs a).get c):(Hs e).get c=(Hs b).get c:=by
 obtain⟨d,rfl⟩:=Nat.exists_eq_add_of_le g;clear g;induction d with
 |zero=>rfl
 |succ d k=>
  have i:=k λa h c=>f a h B;have j:=f (b+d) B B;have:b+(d+1)=b+d+1:=B;rw[this,j,i]
end
def PH(Hs:Nat->H)(n:Nat)(b:Nat->Nat):H:=
 ⟨(Hs n).size,0,(List.range (Hs n).size).reverse.map λa=>((Hs (max (b a) (uj Hs a n))).get a).getD default⟩
def Ep(Hs:Nat->H)(n:Nat)(a:Nat->Nat):(PH Hs n a).eZ.length=(PH Hs n a).size:=by simp[PH]
def Xg{Hs:Nat->H}{n a:Nat}{c:Nat->Nat}(g:∀b,b<n->(Hs b).size<=(Hs (b+1)).size)(i:∀b,b<=n->(Hs b).eZ.length=(Hs b).size)(j:c a<=n)(d:a<(Hs n).size):
 (PH Hs n c).get a=(Hs (max (c a) (uj Hs a n))).get a:=by
 have e:max (c a) (uj Hs a n)<=n:=by have:=Fd Hs a n;omega
 have f:a<(Hs (max (c a) (uj Hs a n))).size:=(kL g d e).2 B;have⟨l,k⟩:=H.get_some (i _ e) f;rw[H.get_eq];have h:(PH Hs n c).size=(Hs n).size:=rfl;rw[h,aq d];show((List.range (Hs n).size).reverse.map λa=>((Hs (max (c a) (uj Hs a n))).get a).getD default)[(Hs n).size-1-a]? =_;rw[aQ,List.getElem?_reverse (by grind)];have:(List.range (Hs n).size).length-1-((Hs n).size-1-a)=a:=by grind
 rw[this]
 grind
def rn(b:af Oper)(a:af Bool)(c:Nat):Nat->Nat
 |0=>0
 |k+1=>if a.getD k false=true/\(b[k]?).bind (·.dst)=some c then k+1 else rn b a c k
theorem yu{ops:af Oper}{listed:af Bool}{s:Nat}:∀(n:Nat),rn ops listed s n=0\/∃a,rn ops listed s n=a+1/\a<n/\listed.getD a false=true/\(ops[a]?).bind (·.dst)=some s:=by
 intro n;induction n with
 |zero=>left;rfl
 |succ n b=>
  unfold rn
  grind
def IB{ops:af Oper}{listed:af Bool}{s:Nat}:∀{n a:Nat},a<n->listed.getD a false=true->(ops[a]?).bind (·.dst)=some s->a+1<=rn ops listed s n:=by
 intro n;induction n with
 |zero=>omega
 |succ n e=>
  intro a d b c;unfold rn
  grind
def VD{ops:af Oper}{listed:af Bool}{s:Nat}(n:Nat):rn ops listed s n<=n:=by
 rcases yu (ops:=ops) (listed:=listed) (s:=s) n with a|⟨d,b,c,_⟩<;>omega
def LF{b:af Oper}{e f:af Bool}{c:Nat}:∀{n:Nat},(∀a,a<n->(b[a]?).bind (·.dst)=some c->f.getD a false=e.getD a false)->rn b f c n=rn b e c n:=by
 intro n;induction n with
 |zero=>intro _;rfl
 |succ n d=>
  intro g;have d:=d λa h=>g a B
  grind [rn]
end
section
structure Dr(P:ai)(cx:Ctx)(cf:iH)(base G m:Nat)(ops:af Oper)(E:Nat->Env)(Hs:Nat->H)(ws:World)(nc:Mu):Prop where
 iU:iG P cx
 ck:mU P cx cf
 dst:Er m ops
 tr:Trace cx cf G ops E Hs
 qt:St cx base ws.heap nc (Hs 0)
 DM:∀i j oi oj,ops[i]? =some oi->ops[j]? =some oj->i<j->(oi.apart ops oj=true/\(gJ oi.op=true->gJ oj.op=true->nZ oi.op=true/\nZ oj.op=true))\/jy ops i j=true
 back:∀j o,ops[j]? =some o->∀e∈o.after,Region.binds .any e=true->e.on<j
 afm:∀k,k<=ops.size->∀s v,(E k).get G s=some v->oR (Hs k).size v
 dj:∀k,k<=ops.size->∀b x,(nc b≠none\/(Hs 0).size<=b)->(Hs k).get b=some x->∀v∈eY x.eg,oR (Hs k).size v
 grow:∀k,k<ops.size->kJ (Hs k) (Hs (k+1))
 wf:∀k,k<=ops.size->(Hs k).eZ.length=(Hs k).size
structure Inv(cx:Ctx)(base G m:Nat)(ops:af Oper)(E:Nat->Env)(Hs:Nat->H)(ws:World)(nc:Mu)(listed:af Bool)(a:Act)(w:World)(μ:Mu)(q:Nat->Nat):Prop where
 cl:Cl ops listed
 size:a.tmps.size=m
 LW:a.defers=[]
 HK:∀b,q b<=ops.size
 kG:∀k b,ou G ops E k->b<(Hs k).size->em (Hs k) (Hs (k+1)) b=false->(listed.getD k false=true↔k<q b)
 st:St cx base w.heap μ (PH Hs ops.size q)
 MN:∀s v,(E (rn ops listed s ops.size)).get G s=some v->eK w.heap μ v (a.tmps.getD s Go.undef)
 Rs:∀b,μ b≠none↔(nc b≠none\/((Hs 0).size<=b/\b<(Hs ops.size).size/\listed.getD (uj Hs b ops.size-1) false=true))
 ext:oS ws nc w μ
section
variable {P:ai}{cx:Ctx}{cf:iH}{base G m:Nat}{ops:af Oper}{E:Nat->Env}{Hs:Nat->H}{ws w:World}{nc μ:Mu}{listed:af Bool}{a:Act}{q:Nat->Nat}
def Dr.mono(c:Dr P cx cf base G m ops E Hs ws nc):∀b,b<ops.size->(Hs b).size<=(Hs (b+1)).size:=λb d=>(c.grow b d).size
def Dr.lt0(c:Dr P cx cf base G m ops E Hs ws nc){b:Nat}(e:nc b≠none):b<(Hs 0).size:=by
 have⟨f,d⟩:=Option.ne_none_iff_exists'.1 e;exact c.qt.ej d
def Dr.still(g:Dr P cx cf base G m ops E Hs ws nc){b d:Nat}(p:b<ops.size)(n:d<(Hs b).size)(h:¬ou G ops E b):(Hs (b+1)).get d=(Hs b).get d:=by
 have f:ops[b]? =some ops[b]:=J;rcases mB (g.tr.step b _ f)with⟨_,_,c⟩|⟨i,r,k,_⟩
 ·rw[c]
 ·have e:gJ ops[b].op=false:=by
   cases c:gJ ops[b].op with
   |false=>rfl
   |true=>exact absurd ⟨_,f,c,i⟩ h
  rcases F9 (h2:=Hs b) e (λ_ _ _=>rfl) (Hb e k)with⟨c,_⟩|⟨l,s,_,_,_,c,_⟩
  ·rw[c]
  grind [H.mH]
def Dr.ver(d:Dr P cx cf base G m ops E Hs ws nc){b c:Nat}(g:b<ops.size)(f:c<(Hs b).size)(n:em (Hs b) (Hs (b+1)) c=true):(Hs (b+1)).get c=(Hs b).get c:=by
 have⟨k,e⟩:=H.get_some (d.wf b B) f;have⟨p,i,h⟩:=(d.grow b g).ver c k e;rcases h with rfl|l
 ·rw[e,i]
 simp_all[aC,Nat.beq,em]
def Dr.same(d:Dr P cx cf base G m ops E Hs ws nc){b c:Nat}(f:b<ops.size)(e:c<(Hs b).size)(i:ou G ops E b->em (Hs b) (Hs (b+1)) c=false->False):(Hs (b+1)).get c=(Hs b).get c:=by
 by_cases g:ou G ops E b
 ·cases h:em (Hs b) (Hs (b+1)) c with
  |true=>exact d.ver f e h
  |false=>grind
 ·exact d.still f e g
def Dr.wH(c:Dr P cx cf base G m ops E Hs ws nc){b:Nat}(e:q b<=ops.size)(d:b<(Hs ops.size).size):(PH Hs ops.size q).get b=(Hs (max (q b) (uj Hs b ops.size))).get b:=
 Xg c.mono c.wf e d
def Inv.lt(f:Dr P cx cf base G m ops E Hs ws nc)(c:Inv cx base G m ops E Hs ws nc listed a w μ q){b:Nat}{d:Loc}(e:μ b=some d):b<(Hs ops.size).size:=c.st.ej e
variable {j:Nat}{o:Oper}
structure KE(ops:af Oper)(listed:af Bool)(j:Nat)(o:Oper):Prop where
 op:ops[j]? =some o
 lt:j<ops.size
 not:listed.getD j false=false
 before:∀i,jy ops i j=true->listed.getD i false=true
 behind:∀k,jy ops j k=true->listed.getD k false=false
 abE:∀e∈o.after,Region.binds .any e=true->listed.getD e.on false=true
def G7{listed:af Bool}{b:Nat}(c:listed.getD b true=false):listed.getD b false=false:=by
 grind
def rdy(c:Cl ops listed)(k:j∈Region.ready .any ops listed):∃o,KE ops listed j o:=by
 have⟨e,o,d,f⟩:=mem_ready.1 k;have n:j<ops.size:=(Array.getElem?_eq_some_iff.1 d).1;refine⟨o,d,n,G7 e,λr i=>BW c i d f,λb l=>?_,f⟩;cases h:listed.getD b false with
 |false=>rfl
 |true=>
  have p:b<listed.size:=by
   grind
  have g:ops[b]? =some (ops[b]'(by rw[<-c.size];omega)):=by
   have:b<ops.size:=by rw[<-c.size];omega
   simp
  have:=BW c l g (c.closed b _ g h);rw[G7 e]at this;grind
def Cl.set(b:Cl ops listed)(k:KE ops listed j o):Cl ops (listed.setIfInBounds j true):=by
 refine⟨by simp[b.size],λh i g hl c e d=>?_⟩;by_cases f:j=h
 ·subst f;have:i=o:=Option.some.inj (g.symm.trans k.op);subst this;exact getD_set_true (k.abE c e d)
 ·rw[getD_set_ne false f]at hl;exact getD_set_true (b.closed h i g hl c e d)
def uK(b:Cl ops listed)(c:KE ops listed j o):(listed.setIfInBounds j true).getD j false=true:=by
 have:j<listed.size:=by rw[b.size];exact c.lt
 simp[this]
theorem Inv.dG(p:Dr P cx cf base G m ops E Hs ws nc)(S:Inv cx base G m ops E Hs ws nc listed a w μ q)(f:KE ops listed j o){s:Nat}(C:s∈o.looksAt ops):
 (E (rn ops listed s ops.size)).get G s=(E j).get G s:=by
 have K:∀b i,ops[b]? =some i->i.dst=some s->(b<j->listed.getD b false=true)/\(j<b->listed.getD b false=false):=by
  intro b i k t;refine⟨λu=>?_,λu=>?_⟩
  ·rcases p.DM b j i o k f.op u with⟨r,_⟩|v
   ·exact absurd C ((Oper.apart_spec r).1 s t)
   ·exact f.before b v
  ·rcases p.DM j b o i f.op k u with⟨r,_⟩|v
   ·exact absurd C ((Oper.apart_spec r).2.2 s t)
   ·exact f.behind b v
 have V:rn ops listed s ops.size<=j:=by
  rcases yu (ops:=ops) (listed:=listed) (s:=s) ops.size with h|⟨b,T,U,M,x⟩
  ·omega
  ·have e:ops[b]? =some ops[b]:=J;rw[e]at x;have F:=K b _ e x;rcases Nat.lt_trichotomy b j with h|h|h
   ·omega
   ·subst h;rw[f.not]at M;grind
   grind
 have R:∀c,rn ops listed s ops.size+c<=j->(E (rn ops listed s ops.size+c)).get G s=(E (rn ops listed s ops.size)).get G s:=by
  intro c;induction c with
  |zero=>simp
  |succ c O=>
   intro t;have k:rn ops listed s ops.size+c<ops.size:=by have:=f.lt;omega
   have e:ops[rn ops listed s ops.size+c]? =some ops[rn ops listed s ops.size+c]:=J;rw[<-O B];have A:ops[rn ops listed s ops.size+c].dst≠some s:=by
    intro y;have F:=(K _ _ e y).1 B;have:=IB (n:=ops.size) k F (by rw[e];exact y);omega
   have W:∀l g,(E (rn ops listed s ops.size+c)).dst G ops[rn ops listed s ops.size+c].dst l=some g->g.get G s=(E (rn ops listed s ops.size+c)).get G s:=by
    intro l g d;cases z:ops[rn ops listed s ops.size+c].dst with
    |none=>rw[z]at d;have d:some _=some g:=d;simp only[ar]at d;rw[d]
    |some I=>
     rw[z]at d A;have N:s≠I:=λL=>A (by rw[L]);rw[Env.A7 (show Env.set G _ I l=some g from d) s,ao N]
   rcases mB (p.tr.step _ _ e)with⟨_,d,_⟩|⟨_,l,_,d⟩
   ·grind
   grind
 have:=R (j-rn ops listed s ops.size) B;rw[show rn ops listed s ops.size+(j-rn ops listed s ops.size)=j by omega]at this
 grind
def Inv.MX(d:Dr P cx cf base G m ops E Hs ws nc)(c:Inv cx base G m ops E Hs ws nc listed a w μ q)(f:KE ops listed j o):jY w.heap μ G (BM G (E j) (o.looksAt ops)) a.tmps:=by
 intro g h b;rw[yf]at b;split at b
 ·rename_i e;exact c.MN g h (by rw[c.dG d f e];exact b)
 grind
def Inv.Bw(p:Dr P cx cf base G m ops E Hs ws nc)(g:Inv cx base G m ops E Hs ws nc listed a w μ q)(c:KE ops listed j o){k:af Obj}{n:Mu}(M:Ext w.heap μ k n){l:T}{r:am}
 (K:eK k n l r) (y:(E j).dst G o.dst l=some (E (j+1))):∀s f,(E (rn ops (listed.setIfInBounds j true) s ops.size)).get G s=some f->eK k n f ((a.put o.dst r).tmps.getD s Go.undef):=by
 intro s f d;by_cases e:o.dst=some s
 ·have i:rn ops (listed.setIfInBounds j true) s ops.size=j+1:=by
   have R:=IB (ops:=ops) (s:=s) c.lt (uK g.cl c) (by rw[c.op];exact e);rcases yu (ops:=ops) (listed:=listed.setIfInBounds j true) (s:=s) ops.size with h|⟨b,N,O,t,u⟩
   ·omega
   ·rcases Nat.lt_trichotomy b j with h|h|h
    ·omega
    ·omega
    ·have v:ops[b]? =some ops[b]:=J;rw[v]at u;rw[getD_set_ne false B]at t;rcases p.DM j b o _ c.op v h with⟨z,_⟩|I
     ·exact absurd u ((Oper.apart_spec z).2.1 s e)
     ·rw[c.behind b I]at t;grind
  rw[i]at d;rw[e]at y|-;rw[Env.A7 (show Env.set G _ s l=some _ from y) s]at d;simp only[bj,ar]at d;subst d;have C:s<a.tmps.size:=by rw[g.size];exact p.dst j o s c.op e
  simpa[Act.put,bQ,C]using K
 ·have i:rn ops (listed.setIfInBounds j true) s ops.size=rn ops listed s ops.size:=by
   refine LF λb U A=>?_;have:j≠b:=by rintro rfl;rw[c.op]at A;grind
   simp_all
  rw[i]at d;have x:=(g.MN s f d).ext M;cases S:o.dst with
  |none=>exact x
  |some L=>
   have F:L≠s:=by grind
   simpa[Act.put,bQ,dg F]using x
def Inv.looked(d:Dr P cx cf base G m ops E Hs ws nc)(k:Inv cx base G m ops E Hs ws nc listed a w μ q)(n:KE ops listed j o)(v:gJ o.op=false)(M:ka ops G (E j) o.guard=some true)
 {b:Nat} (z:fP cx G (E j) (Hs j) o.op=some b) {e:Nat} (R:j<=e) (x:e<=ops.size) (u:b<(Hs e).size) (S:e=j\/e=j+1):
 (PH Hs ops.size q).get b=(Hs e).get b:=by
 have l:b<(Hs ops.size).size:=bp u (mK d.mono x (au _));rw[d.wH (k.HK _) l];have N:uj Hs b ops.size<=e:=(kL d.mono l x).1 u;have t:wZ cx G ops E Hs j b:=⟨o,n.op,v,M,z⟩;have O:¬ou G ops E j:=by
  rintro⟨T,r,A,_⟩;rw[n.op]at r;simp only[ar]at r;subst r;rw[v]at A;grind
 rcases Nat.le_total (max (q b) (uj Hs b ops.size)) e with K|C
 ·refine(lJ d.mono K λc F I=>?_).symm;have f:b<(Hs c).size:=(kL d.mono l B).2 B;by_cases g:ou G ops E c
  ·have p:c<j:=by
    grind
   cases i:em (Hs c) (Hs (c+1)) b with
   |true=>exact d.ver B f i
   |false=>
    rcases d.tr.behind j c b t g p with h|h
    ·rw[i]at h;grind
    ·have:=(k.kG c b g f i).1 (n.before c h);omega
  ·exact d.still B f g
 ·refine lJ d.mono C λc F I=>?_;have L:c<q b:=B;have s:c<ops.size:=by have:=k.HK b;omega
  have f:b<(Hs c).size:=(kL d.mono l B).2 B;by_cases g:ou G ops E c
  ·have p:j<c:=by
    grind
   cases i:em (Hs c) (Hs (c+1)) b with
   |true=>exact d.ver s f i
   |false=>
    rcases d.tr.ahead j c b t g p with h|h
    ·rw[i]at h;grind
    ·have y:=(k.kG c b g f i).2 L;rw[n.behind c h]at y;grind
  ·exact d.still s f g
def Inv.want(b:Dr P cx cf base G m ops E Hs ws nc)(c:Inv cx base G m ops E Hs ws nc listed a w μ q)(k:KE ops listed j o){d:Bool}(g:ka ops G (E j) o.guard=some d):
 Region.wanted o (yielded ops a.tmps)=d:=
 Bm (c.MX b k) (λh i l e f=>by rw[c.size];exact b.dst h i l e f) (by rw[HO];exact g)
def Dr.made(c:Dr P cx cf base G m ops E Hs ws nc)(g:j<ops.size){b:Nat}(d:b<(Hs ops.size).size):uj Hs b ops.size=j+1↔((Hs j).size<=b/\b<(Hs (j+1)).size):=by
 have e:=kL c.mono d (show j<=ops.size by omega);have f:=kL c.mono d (show j+1<=ops.size by omega);omega
def Dr.cr0(c:Dr P cx cf base G m ops E Hs ws nc){b:Nat}(d:b<(Hs ops.size).size)(e:(Hs 0).size<=b):0<uj Hs b ops.size:=by
 rcases Nat.eq_zero_or_pos (uj Hs b ops.size)with h|h
 ·have:=(kL c.mono d (aw _)).2 B;omega
 omega
def Dr.AB(c:Dr P cx cf base G m ops E Hs ws nc)(f:j<ops.size){b:Nat}(d:b<(Hs ops.size).size)(e:(Hs 0).size<=b)(g:¬((Hs j).size<=b/\b<(Hs (j+1)).size)):
 (listed.setIfInBounds j true).getD (uj Hs b ops.size-1) false=listed.getD (uj Hs b ops.size-1) false:=by
 refine getD_set_ne false λh=>g ?_;have:=c.cr0 d e;exact(c.made f d).1 B 
def Inv.E9(f:Dr P cx cf base G m ops E Hs ws nc)(k:Inv cx base G m ops E Hs ws nc listed a w μ q)(h:KE ops listed j o)(g:(Hs (j+1)).size=(Hs j).size){i:Mu}(l:∀b,i b≠none↔μ b≠none):
 ∀b,i b≠none↔(nc b≠none\/((Hs 0).size<=b/\b<(Hs ops.size).size/\(listed.setIfInBounds j true).getD (uj Hs b ops.size-1) false=true)):=by
 intro b;rw[l,k.Rs];refine or_congr Iff.rfl ⟨λ⟨c,d,e⟩=>⟨c,d,?_⟩,λ⟨c,d,e⟩=>⟨c,d,?_⟩⟩
 ·rw[f.AB h.lt d c (by rw[g];omega)];exact e
 ·rw[f.AB h.lt d c (by rw[g];omega)]at e;exact e
def B4(c:KE ops listed j o)(d:gJ o.op=false\/ka ops G (E j) o.guard=some false):¬ou G ops E j:=by
 rintro⟨g,b,e,f⟩;rw[c.op]at b;grind
def Inv.CG(d:Inv cx base G m ops E Hs ws nc listed a w μ q)(h:¬ou G ops E j):
 ∀b c,ou G ops E b->c<(Hs b).size->em (Hs b) (Hs (b+1)) c=false->((listed.setIfInBounds j true).getD b false=true↔b<q c):=by
 intro b c f e g;have:j≠b:=by grind
 rw[getD_set_ne false this];exact d.kG b c f e g
variable {Q:Exit->Act->World->Prop}
def Inv.skip(d:Dr P cx cf base G m ops E Hs ws nc)(b:Inv cx base G m ops E Hs ws nc listed a w μ q)(c:KE ops listed j o)(g:ka ops G (E j) o.guard=some false)
 (f:(E j).dst G o.dst .undef=some (E (j+1))) (e:Hs (j+1)=Hs j):Inv cx base G m ops E Hs ws nc (listed.setIfInBounds j true) (a.put o.dst Go.undef) w μ q:=
 ⟨b.cl.set c,by rw[Act.po];exact b.size,by rw[Act.pq];exact b.LW,b.HK,b.CG (B4 c (.inr g)),b.st,
   b.Bw d c (Ext.refl _ _) .undef f,b.E9 d c (by rw[e]) λ_=>Iff.rfl,b.ext⟩
def Inv.quiet(p:Dr P cx cf base G m ops E Hs ws nc)(i:Inv cx base G m ops E Hs ws nc listed a w μ q)(k:KE ops listed j o)(cL:ka ops G (E j) o.guard=some true)(ae:gJ o.op=false){v:T}
 (bn:Dz cx cf G (E j) (Hs j) o.op v (Hs (j+1))) (ce:(E j).dst G o.dst v=some (E (j+1))):
 yW P (λc W=>∃t,Inv cx base G m ops E Hs ws nc (listed.setIfInBounds j true) (a.put o.dst c) W t q) ((execOp a.eval o).run P w):=by
 have ca:=B4 (G:=G) (E:=E) k (.inl ae);have cb:=Hb ae bn;have aX:∀F∈o.op.operands,fq cx G (E j) F=fq cx G (BM G (E j) (o.looksAt ops)) F:=λF bn=>zt bn;rw[zu aX]at cb;have ds:∀b,fP cx G (BM G (E j) (o.looksAt ops)) (Hs j) o.op=some b->b<(Hs j).size->(PH Hs ops.size q).get b=(Hs j).get b:=by
  intro b d b7;rw[<-vd aX]at d;exact i.looked p k ae cL d (au _) (bm k.lt) b7 (.inl rfl)
 rcases F9 ae ds cb with⟨ap,bk⟩|⟨f,F,M,d,eh,ap,bk⟩
 ·
  refine((yn p.iU i.st (i.MX p k) bk).ZT).mono λc W aN=>?_;obtain⟨t,C,x,A,V⟩:=aN;refine⟨t,i.cl.set k,by rw[Act.po];exact i.size,by rw[Act.pq];exact i.LW,i.HK,i.CG ca,x,i.Bw p k A.ext C ce,?_,i.ext.trans A⟩;refine i.E9 p k (by rw[ap]) λb=>⟨λd=>?_,λd=>?_⟩
  ·rcases V.2.1 b d with h|h
   ·exact h
   ·omega
  ·have⟨e,U⟩:=Option.ne_none_iff_exists'.1 d;have⟨an,av,_⟩:=A.ext.mu b e U;rw[av];simp
 ·
  subst eh;have aE:(PH Hs ops.size q).size=(Hs ops.size).size:=rfl;have cp:(Hs (j+1)).size=(Hs j).size+1:=by rw[ap];rfl
  have bN:(Hs j).size<(Hs ops.size).size:=by
   have:=mK p.mono (show j+1<=ops.size from k.lt) (au _);omega
  have bC:(Hs 0).size<=(Hs j).size:=mK p.mono (aw _) (bm k.lt);have bS:uj Hs (Hs j).size ops.size=j+1:=(p.made k.lt bN).2 ⟨au _,B⟩;have eD:μ (Hs j).size=none:=by
   cases dv:μ (Hs j).size with
   |none=>rfl
   |some e=>
    exfalso;rcases(i.Rs (Hs j).size).1 (by rw[dv];simp)with h|⟨_,_,h⟩
    ·have:=p.lt0 h;omega
    ·rw[bS]at h;simp only[Nat.add_sub_cancel]at h;rw[k.not]at h;grind
  have dm:(Hs (j+1)).get (Hs j).size=some F:=by rw[ap];exact H.so (p.wf j (bm k.lt)) F
  have eb:(PH Hs ops.size q).get (Hs j).size=some F:=by
   rw[<-vd aX]at d;rw[i.looked p k ae cL d (show j<=j+1 by omega) k.lt B (.inr rfl)];omega
  refine((yn p.iU i.st (i.MX p k) bk).ZT).mono λc W aN=>?_;obtain⟨t,C,x,A,V⟩:=aN;rw[aE]at C V;have di:((PH Hs ops.size q).cons F).size=(Hs ops.size).size+1:=rfl;rw[di]at V;have eu:t (Hs ops.size).size≠none:=V.2.2 _ (au _) B;have b8:∀b e,μ b=some e->b<(Hs ops.size).size:=λb e d=>i.st.ej d;have bT:∀b,b≠(Hs ops.size).size->(t b≠none↔μ b≠none):=by
   intro b eB;constructor
   ·intro d;rcases V.2.1 b d with h|h
    ·exact h
    ·omega
   ·intro d;have⟨e,U⟩:=Option.ne_none_iff_exists'.1 d;have⟨an,av,_⟩:=A.ext.mu b e U;rw[av];simp
  have et:t (Hs j).size=none:=by
   grind
  have⟨ey,eA⟩:=Option.ne_none_iff_exists'.1 eu
  let I:Mu:=⟨λb=>if b=(Hs j).size then t (Hs ops.size).size else if b=(Hs ops.size).size then none else t b,t.mt⟩
  have K:I (Hs j).size=t (Hs ops.size).size:=by grind
  have Y:I (Hs ops.size).size=none:=by
   have:(Hs ops.size).size≠(Hs j).size:=B
   grind
  have S:∀b,b≠(Hs j).size->b≠(Hs ops.size).size->I b=t b:=λb r s=>by grind
  have b6:∀R,mR I R->mR t R:=by
   rintro R (⟨b,e,d,hl⟩|hr)
   ·by_cases r:b=(Hs j).size
    ·subst r;rw[K]at d;exact .inl ⟨_,e,d,hl⟩
    ·by_cases s:b=(Hs ops.size).size
     ·subst s;rw[Y]at d;grind
     ·rw[S b r s]at d;exact .inl ⟨b,e,d,hl⟩
   ·exact .inr hr
  have b9:∀b e,b<(Hs ops.size).size->t b=some e->I b=some e:=by
   intro b e d U;have r:b≠(Hs j).size:=by rintro rfl;rw[et]at U;grind
   rw[S b r B];exact U
  have a8:Ext w.heap μ W.heap I:=by
   refine⟨A.ext.size,λR dn ea=>?_,λb e d=>?_,A.ext.mt,A.ext.kept⟩
   ·have⟨eE,eF⟩:=A.ext.mV R dn ea
    grind
   ·have⟨an,av,eC⟩:=A.ext.mu b e d
    grind
  have ec:eK W.heap I (f (Hs j).size) c:=by
   rcases M with M|⟨l,M⟩|M|M
   ·rw[M]at C|-;cases C with|ptr _ _ _ _ e X d a7 c9=>exact .ptr _ _ _ _ e X (by rw[K];exact d) a7 c9
   ·rw[M]at C|-;cases C with|arr _ _ _ _ _ e X c4 d a7 hl h=>exact .arr _ _ _ _ _ e X c4 (by rw[K];exact d) a7 hl h
   ·rw[M]at C|-;cases C with|iter _ e X d h=>exact .iter _ e X (by rw[K];exact d) h
   ·rw[M]at C|-;cases C with|map _ e R d h=>exact .map _ e R (by rw[K];exact d) h
  have ef:St cx base W.heap I (PH Hs ops.size q):=by
   refine⟨Ep _ _ _,x.fit,λb e d=>?_,λb c1 e an d dd hl=>?_,λb e d=>?_,λb e d=>?_,x.pY,λg c6 dk=>?_⟩
   ·by_cases r:b=(Hs j).size
    ·subst r;rw[K]at d;have⟨y,al,bi⟩:=x.box _ e d;have eo:y=F:=by
      have:=H.so (Ep Hs ops.size q) F;rw[aE,al]at this
      grind
     subst eo;refine⟨y,eb,bi.conv (n:=(Hs ops.size).size) (λu bl=>?_) b9 b6⟩;exact(p.dj (j+1) k.lt _ y (.inr bC) dm u bl).mono B
    ·by_cases s:b=(Hs ops.size).size
     ·subst s;rw[Y]at d;grind
     ·rw[S b r s]at d;have⟨y,al,bi⟩:=x.box b e d;have de:μ b≠none:=(bT b s).1 (by rw[d];simp);have⟨bu,bH⟩:=Option.ne_none_iff_exists'.1 de;have b7:=b8 b bu bH;rw[H.mH (by rw[aE];omega)]at al;refine⟨y,al,bi.conv (n:=(Hs ops.size).size) (λu bl=>?_) b9 b6⟩;have⟨z,bs,er⟩:=i.st.box b bu bH;rw[al]at bs;simp only[ar]at bs;subst bs;exact er.low b8 u bl
   ·have bz:∀b e,I b=some e->(b=(Hs j).size/\t (Hs ops.size).size=some e)\/(b≠(Hs j).size/\b≠(Hs ops.size).size/\t b=some e):=by
     grind
    rcases bz b e d with⟨N,L⟩|⟨N,L,O⟩<;>rcases bz c1 an dd with⟨c7,aA⟩|⟨c7,aA,bB⟩
    ·omega
    ·exact absurd (x.inj _ _ _ _ L bB hl).symm aA
    ·exact absurd (x.inj _ _ _ _ O aA hl) L
    ·exact x.inj _ _ _ _ O bB hl
   ·by_cases r:b=(Hs j).size
    ·subst r;rw[K]at d;exact x.low _ _ d
    ·by_cases s:b=(Hs ops.size).size
     ·subst s;rw[Y]at d;grind
     ·rw[S b r s]at d;exact x.low _ _ d
   ·by_cases r:b=(Hs j).size
    ·subst r;rw[K]at d;exact x.apart _ _ d
    ·by_cases s:b=(Hs ops.size).size
     ·subst s;rw[Y]at d;grind
     ·rw[S b r s]at d;exact x.apart _ _ d
   ·exact(i.st.yA g c6 dk).ext a8
  refine⟨I,i.cl.set k,by rw[Act.po];exact i.size,by rw[Act.pq];exact i.LW,i.HK,i.CG ca,ef,i.Bw p k a8 ec ce,λb=>?_,
   i.ext.trans ⟨a8,A.os,A.tape,A.output⟩⟩
  by_cases r:b=(Hs j).size
  ·subst r;refine⟨λ_=> .inr ⟨bC,bN,?_⟩,λ_=>by rw[K];omega⟩;rw[bS];exact uK i.cl k
  ·by_cases s:b=(Hs ops.size).size
   ·subst s;refine⟨λh=>absurd Y h,λh=>?_⟩;rcases h with h|⟨_,h,_⟩
    ·have:=p.lt0 h;omega
    ·omega
   ·rw[S b r s,bT b s,i.Rs];refine or_congr Iff.rfl ⟨λ⟨N,L,O⟩=>⟨N,L,?_⟩,λ⟨N,L,O⟩=>⟨N,L,?_⟩⟩
    ·rw[p.AB k.lt L N (by rw[cp];omega)];exact O
    ·rw[p.AB k.lt L N (by rw[cp];omega)]at O;exact O
def Inv.afn(k:Dr P cx cf base G m ops E Hs ws nc)(f:Inv cx base G m ops E Hs ws nc listed a w μ q)(K:KE ops listed j o)(ea:ka ops G (E j) o.guard=some true)(c7:gJ o.op=true)
 (cb:∀i al,ops[i]? =some al->gJ al.op=true->(i<j->jy ops i j=true)/\(j<i->jy ops j i=true)) {v:T}
 (A:Dz cx cf G (E j) (Hs j) o.op v (Hs (j+1))) (dm:(E j).dst G o.dst v=some (E (j+1))):
 yW P (λc av=>∃L,Inv cx base G m ops E Hs ws nc (listed.setIfInBounds j true) (a.put o.dst c) av L (λ_=>j+1)) ((execOp a.eval o).run P w):=by
 have er:ou G ops E j:=⟨o,K.op,c7,ea⟩;have b6:∀i,ou G ops E i->i<j->listed.getD i false=true:=by
  rintro i ⟨al,N,F,_⟩ bz;exact K.before i ((cb i al N F).1 bz)
 have bT:∀i,ou G ops E i->j<i->listed.getD i false=false:=by
  rintro i ⟨al,N,F,_⟩ bz;exact K.behind i ((cb i al N F).2 bz)
 have r:=K.lt;have ey:(Hs j).size<=(Hs (j+1)).size:=k.mono j r;have eA:(Hs (j+1)).size<=(Hs ops.size).size:=mK k.mono (show j+1<=ops.size from r) (au _);have eh:(Hs 0).size<=(Hs j).size:=mK k.mono (aw _) (bm r);have c4:∀b,b<(Hs j).size->(PH Hs ops.size q).get b=(Hs j).get b:=by
  intro b e;have t:b<(Hs ops.size).size:=B;rw[k.wH (f.HK _) t];have b7:uj Hs b ops.size<=j:=(kL k.mono t (bm r)).1 e;rcases Nat.le_total (max (q b) (uj Hs b ops.size)) j with de|dd
  ·refine(lJ k.mono de λi bs bu=>?_).symm;have V:b<(Hs i).size:=(kL k.mono t B).2 B;refine k.same B V λF an=>?_;have:=(f.kG i b F V an).1 (b6 i F bu);omega
  ·refine lJ k.mono dd λi bs bu=>?_;have dk:=f.HK b;have V:b<(Hs i).size:=(kL k.mono t B).2 B;refine k.same B V λF an=>?_;have hl:=(f.kG i b F V an).2 B;rcases Nat.eq_or_lt_of_le bs with h|h
   ·subst h;rw[K.not]at hl;grind
   grind
 have c9:∀b d,μ b=some d->b<(Hs j).size\/(Hs (j+1)).size<=b:=by
  intro b d e;rcases aM b (Hs j).size with h|h
  ·omega
  ·right;rcases aM b (Hs (j+1)).size with l|l
   ·exfalso;have t:b<(Hs ops.size).size:=B;rcases(f.Rs b).1 (by rw[e];simp)with g|⟨_,_,g⟩
    ·have:=k.lt0 g;omega
    ·rw[(k.made r t).2 ⟨h,l⟩]at g;simp only[Nat.add_sub_cancel]at g;rw[K.not]at g;grind
   omega
 have c6:∀b,μ b≠none->nc b≠none\/(Hs 0).size<=b:=λb e=>by
  rcases(f.Rs b).1 e with g|⟨g,_⟩
  ·grind
  omega
 let Y:Mu:=⟨λb=>if b<(Hs j).size then μ b else none,λp=>μ.mt p\/∃b d,(Hs j).size<=b/\μ b=some d/\d.iE=p⟩
 have bC:∀b,b<(Hs j).size->Y b=μ b:=λb e=>by grind
 have U:∀b d,Y b=some d->b<(Hs j).size/\μ b=some d:=by
  grind
 have aA:∀p,mR Y p->mR μ p:=by
  rintro p (⟨b,d,e,hl⟩|hr|⟨b,d,e,M,hl⟩)
  ·exact .inl ⟨b,d,(U b d e).2,hl⟩
  ·exact .inr hr
  ·exact .inl ⟨b,d,M,hl⟩
 have aE:∀b d,b<(Hs j).size->μ b=some d->Y b=some d:=λb d e M=>by rw[bC b e];exact M
 have ef:St cx base w.heap Y (Hs j):=by
  refine⟨k.wf j (bm r),f.st.fit,λb d e=>?_,λb O d C e a7 hl=>?_,λb d e=>?_,λb d e=>?_,λp hr=>?_,λg bi bl=>?_⟩
  ·have⟨x,l⟩:=U b d e;have⟨X,A,N⟩:=f.st.box b d l;rw[c4 b x]at A;exact⟨X,A,N.conv (k.dj j (bm r) b X (c6 b (by rw[l];simp)) A) aE aA⟩
  ·exact f.st.inj b O d C (U b d e).2 (U O C a7).2 hl
  ·exact f.st.low b d (U b d e).2
  ·rintro(hr|⟨O,C,a7,aX,hl⟩)
   ·exact f.st.apart b d (U b d e).2 hr
   ·have:=f.st.inj O b C d aX (U b d e).2 hl;have:=(U b d e).1;omega
  ·rcases hr with hr|⟨b,d,_,M,hl⟩
   ·exact f.st.pY p hr
   ·rw[<-hl];exact f.st.lt M
  ·have b8:=f.st.yA g bi bl;refine b8.conv (n:=0) ?_ (λb d e=>by omega) aA;have⟨_,_,_,_,_,_,_,_,_,dn,_⟩:=b8.lx;exact .jh _ λu ae=>(dn u ae).2.low 0
 have ec:jY w.heap Y G (BM G (E j) (o.looksAt ops)) a.tmps:=by
  intro s u ae;refine(f.MX k K s u ae).conv (n:=(Hs j).size) ?_ aE aA
  rw[yf]at ae;split at ae
  ·exact k.afm j (bm r) s u ae
  grind
 have eb:=A.congr (e':=BM G (E j) (o.looksAt ops)) λX A=>zt A;refine(CD k.iU k.ck ef ec eb).mono λc av c1=>?_;obtain⟨⟨L,ce,W,I,cp⟩,_⟩:=c1
 let S:Mu:=⟨λb=>if b<(Hs (j+1)).size then L b else μ b,μ.mt⟩
 have bk:∀b,b<(Hs (j+1)).size->S b=L b:=λb e=>by grind
 have bH:∀b,(Hs (j+1)).size<=b->S b=μ b:=λb e=>by
  have:¬b<(Hs (j+1)).size:=B
  grind
 have bB:L.mt=Y.mt:=I.ext.mt;have et:∀b d,(Hs (j+1)).size<=b->μ b=some d->L.mt d.iE:=by
  intro b d e M;rw[bB]
  grind
 have bN:∀p,mR S p->mR L p:=by
  rintro p (⟨b,d,e,hl⟩|hr)
  ·by_cases h:b<(Hs (j+1)).size
   ·rw[bk b h]at e;exact .inl ⟨b,d,e,hl⟩
   ·rw[bH b B]at e;right;rw[<-hl];grind
  ·right;rw[bB];grind
 have ca:∀b d,L b=some d->b<(Hs (j+1)).size:=λb d e=>W.ej e;have bS:∀b d,b<(Hs (j+1)).size->L b=some d->S b=some d:=λb d e M=>by rw[bk b e];exact M
 have a8:Ext w.heap μ av.heap S:=by
  refine⟨I.ext.size,λp bn di=>?_,λb d e=>?_,rfl,λp bn hr=>I.ext.kept p bn (.inl hr)⟩
  ·have⟨y,z⟩:=I.ext.mV p bn λh=>di (aA p h)
   grind
  ·rcases c9 b d e with h|h
   ·have⟨C,aX,eu⟩:=I.ext.mu b d (aE b d h e)
    grind
   grind
 have ds:St cx base av.heap S (PH Hs ops.size (λ_=>j+1)):=by
  have ap:∀b d,S b=some d->(b<(Hs (j+1)).size/\L b=some d)\/((Hs (j+1)).size<=b/\μ b=some d):=by
   grind
  refine⟨Ep _ _ _,W.fit,λb d e=>?_,λb O d C e a7 hl=>?_,λb d e=>?_,λb d e hr=>?_,λp hr=>?_,λg bi bl=>(f.st.yA g bi bl).ext a8⟩
  ·rcases ap b d e with⟨x,l⟩|⟨x,l⟩
   ·have⟨X,A,N⟩:=W.box b d l;have t:b<(Hs ops.size).size:=B;have b7:uj Hs b ops.size<=j+1:=(kL k.mono t (show j+1<=ops.size from r)).1 x;refine⟨X,?_,N.conv (N.low ca) bS bN⟩;rw[k.wH (q:=λ_=>j+1) (show j+1<=ops.size from r) t,show max (j+1) (uj Hs b ops.size)=j+1 by omega];exact A
   ·have⟨X,A,N⟩:=f.st.box b d l;have t:b<(Hs ops.size).size:=f.st.ej l;have b7:¬uj Hs b ops.size<=j+1:=λh=>by
     have:=(kL k.mono t (show j+1<=ops.size from r)).2 h;omega
    refine⟨X,?_,N.ext a8 ?_⟩
    ·rw[k.wH (f.HK _) t]at A;rw[k.wH (q:=λ_=>j+1) (show j+1<=ops.size from r) t,show max (j+1) (uj Hs b ops.size)=uj Hs b ops.size by omega];rw[<-A];refine(lJ k.mono B λi bs bu=>?_).symm;have dk:=f.HK b;have eo:=Fd Hs b ops.size;have V:b<(Hs i).size:=(kL k.mono t B).2 B;refine k.same B V λF an=>?_;have hl:=(f.kG i b F V an).2 B;rw[bT i F B]at hl;grind
    ·exact I.ext.kept d.iE (f.st.lt l) (.inr ⟨b,d,B,l,rfl⟩)
  ·rcases ap b d e with⟨x,l⟩|⟨x,l⟩<;>rcases ap O C a7 with⟨cL,aN⟩|⟨cL,aN⟩
   ·exact W.inj b O d C l aN hl
   ·exact absurd (by rw[hl];grind) (W.apart b d l)
   ·exact absurd (by rw[<-hl];grind) (W.apart O C aN)
   ·exact f.st.inj b O d C l aN hl
  ·rcases ap b d e with⟨x,l⟩|⟨x,l⟩
   ·exact W.low b d l
   ·exact f.st.low b d l
  ·rcases ap b d e with⟨x,l⟩|⟨x,l⟩
   ·exact W.apart b d l (by rw[bB];grind)
   ·exact f.st.apart b d l hr
  ·exact bp (f.st.pY p hr) I.ext.size
 have dv:eK av.heap S v c:=ce.conv (ce.low ca) bS bN;refine⟨S,f.cl.set K,by rw[Act.po];exact f.size,by rw[Act.pq];exact f.LW,λ_=>r,λi b b9 _ _=>?_,ds,f.Bw k K a8 dv dm,λb=>?_,
  f.ext.trans ⟨a8,I.os,I.tape,I.output⟩⟩
 ·rcases Nat.lt_trichotomy i j with h|h|h
  ·rw[getD_set_ne false B,b6 i b9 h];grind
  ·subst h;rw[uK f.cl K];simp
  ·rw[getD_set_ne false B,bT i b9 h];grind
 ·by_cases x:b<(Hs (j+1)).size
  ·rw[bk b x];have t:b<(Hs ops.size).size:=B;by_cases l:b<(Hs j).size
   ·have:L b≠none↔μ b≠none:=by
     constructor
     ·intro e;rcases cp.2.1 b e with g|g
      ·rwa[bC b l]at g
      ·omega
     ·intro e;have⟨d,M⟩:=Option.ne_none_iff_exists'.1 e;have⟨C,aX,_⟩:=I.ext.mu b d (aE b d l M);rw[aX];simp
    rw[this,f.Rs];refine or_congr Iff.rfl ⟨λ⟨y,z,R⟩=>⟨y,z,?_⟩,λ⟨y,z,R⟩=>⟨y,z,?_⟩⟩
    ·rw[k.AB r z y B];exact R
    ·rw[k.AB r z y B]at R;exact R
   ·refine⟨λ_=> .inr ⟨B,t,?_⟩,λ_=>cp.2.2 b B x⟩;rw[(k.made r t).2 ⟨B,x⟩];exact uK f.cl K
  ·rw[bH b B,f.Rs];refine or_congr Iff.rfl ⟨λ⟨y,z,R⟩=>⟨y,z,?_⟩,λ⟨y,z,R⟩=>⟨y,z,?_⟩⟩
   ·rw[k.AB r z y B];exact R
   ·rw[k.AB r z y B]at R;exact R
def MI{e l f:H}{C:Ty}{c z n A:Nat}{p:T}(b:e.store C (.ptr c z n A) p=some l)(W:e.eZ.length=e.size)(X:f.eZ.length=f.size)(I:f.get c=e.get c):
 l.size=e.size/\(∀g,g≠c->l.get g=e.get g)/\em e l c=false/\c<e.size/\∃d,f.store C (.ptr c z n A) p=some d/\d.size=f.size/\d.eZ.length=d.size/\d.get c=l.get c/\∀g,g≠c->d.get g=f.get g:=by
 have b:fQ (Nat.beq (kv p.cells) C.size) (M (e.get c) λG=> @iI.rec (λ_=>aa H) (λu h r exact t k=>
  fQ (Nat.beq h z) (@Bool.rec (λ_=>aa H) (M (lF k n) λx=>M (lj x A p.cells) λy=>M (kf k n y) λs=>
   M (fU (Nat.succ r)) λi=>e.put c ⟨u,h,i,exact,false,s⟩) none t)) G)=some l:=b
 have⟨Y,b⟩:=dJ.1 b;replace b:=dB.1 b;obtain⟨⟨u,h,r,L,t,k⟩,v,b⟩:=b;have⟨ae,b⟩:=dJ.1 b;cases t with
 |true=>grind
 |false=>
  replace b:=dB.1 b;obtain⟨x,al,b⟩:=b;replace b:=dB.1 b;obtain⟨y,an,b⟩:=b;replace b:=dB.1 b;obtain⟨s,ap,b⟩:=b;replace b:=dB.1 b;obtain⟨i,K,b⟩:=b;have V:i=r+1:=by rw[gX]at K;grind
  have⟨p1,p2,p3,p4⟩:=A1 b W;have U:c<f.size:=H.ej (I.trans v);have F:∃d,f.put c ⟨u,h,i,L,false,s⟩=some d:=⟨_,H.u0.2 ⟨U,B,rfl⟩⟩;obtain⟨d,F⟩:=F;have⟨N,O,R,S⟩:=A1 F X;refine⟨p1,p4,?_,H.ej v,d,?_,N,O,by rw[R,p3],S⟩
  ·unfold em;rw[v,p3];show Nat.beq r i=false;rw[V]
   grind [aC,Nat.beq]
  ·show fQ (Nat.beq (kv p.cells) C.size) (M (f.get c) λG=> @iI.rec (λ_=>aa H) (λu h r exact t k=>
    fQ (Nat.beq h z) (@Bool.rec (λ_=>aa H) (M (lF k n) λx=>M (lj x A p.cells) λy=>M (kf k n y) λs=>
     M (fU (Nat.succ r)) λi=>f.put c ⟨u,h,i,exact,false,s⟩) none t)) G)=some d
   rw[I,v];simp_all
def Dr.MJ(r:Dr P cx cf base G m ops E Hs ws nc){c:Nat}{k:Oper}(n:ops[c]? =some k)(K:nZ k.op=true)(U:ou G ops E c):
 ∃e,Uw cx G ops E c e/\e<(Hs c).size/\(Hs (c+1)).size=(Hs c).size/\(∀f,f≠e->(Hs (c+1)).get f=(Hs c).get f)/\em (Hs c) (Hs (c+1)) e=false/\
  ∀d:H,d.eZ.length=d.size->d.get e=(Hs c).get e->∃g,iT k.op cx G (E c) d=some (.val .undef g)/\g.size=d.size/\g.eZ.length=g.size/\g.get e=(Hs (c+1)).get e/\∀f,f≠e->g.get f=d.get f:=by
 obtain⟨aN,t,_,L⟩:=U;rw[n]at t;simp only[ar]at t;subst t;have I:c<ops.size:=(Array.getElem?_eq_some_iff.1 n).1;rcases mB (r.tr.step c _ n)with⟨V,_⟩|⟨_,h,b,_⟩
 ·rw[L]at V;grind
 ·cases u:k.op with
  |store x y z=>
   rw[u]at b;rcases b with b|⟨S,N,b,_⟩
   ·have b:(M (cx.ty x) λp=>M (fq cx G (E c) y) λa=>M (fq cx G (E c) z) λh=>fQ h.fg (M ((Hs c).store p a h) λl=>some (kC.val .undef l)))=some (.val h (Hs (c+1))):=b;replace b:=dB.1 b;obtain⟨p,O,b⟩:=b;replace b:=dB.1 b;obtain⟨W,A,b⟩:=b;replace b:=dB.1 b;obtain⟨aX,R,b⟩:=b;have⟨an,b⟩:=dJ.1 b;replace b:=dB.1 b;obtain⟨l,C,b⟩:=b;simp only[ar,kC.val.injEq]at b;obtain⟨rfl,rfl⟩:=b;cases W with
    |ptr e ap i aE=>
     have F:∀d:H,d.eZ.length=d.size->d.get e=(Hs c).get e->_:=λd v s=>MI C (r.wf c (bm I)) v s;have⟨X,Y,ae,al,_⟩:=F (Hs c) (r.wf c (bm I)) rfl;refine⟨e,⟨k,x,y,z,n,u,L,by rw[A];rfl⟩,al,X,Y,ae,λd v s=>?_⟩;have⟨_,_,_,_,g,av,T⟩:=F d v s;refine⟨g,?_,T⟩;show(M (cx.ty x) λp=>M (fq cx G (E c) y) λa=>M (fq cx G (E c) z) λh=>fQ h.fg (M (d.store p a h) λl=>some (kC.val .undef l)))=_;rw[O,A,R];simp_all
    |_=>simp[H.store]at C
   ·exact absurd b (B6 (λf aA=>by grind) S N)
  |_=>rw[u]at K;simp[nZ]at K
def Inv.aaO(g:Dr P cx cf base G m ops E Hs ws nc)(i:Inv cx base G m ops E Hs ws nc listed a w μ q)(k:KE ops listed j o)(cb:ka ops G (E j) o.guard=some true)(F:nZ o.op=true)
 {K:T} (t:Dz cx cf G (E j) (Hs j) o.op K (Hs (j+1))) (b7:(E j).dst G o.dst K=some (E (j+1))):
 yW P (λO ap=>∃L c1,Inv cx base G m ops E Hs ws nc (listed.setIfInBounds j true) (a.put o.dst O) ap L c1) ((execOp a.eval o).run P w):=by
 have U:gJ o.op=true:=by cases bC:o.op<;>rw[bC]at F<;>simp[nZ]at F<;>rfl
 have V:ou G ops E j:=⟨o,k.op,U,cb⟩;have A:=k.lt;have⟨d,a8,R,b8,bN,ca,al⟩:=g.MJ k.op F V;have v:d<(Hs ops.size).size:=bp R (mK g.mono (bm A) (au _));have N:∀b,ou G ops E b->b<j->em (Hs b) (Hs (b+1)) d=false->listed.getD b false=true:=by
  intro b l x e;rcases g.tr.both j b d a8 l x with h|h
  ·rw[e]at h;grind
  ·exact k.before b h
 have av:∀b,ou G ops E b->j<b->em (Hs b) (Hs (b+1)) d=false->listed.getD b false=false:=by
  intro b l x e;have bl:=l;obtain⟨cL,Y,bs,_⟩:=bl;rcases g.DM j b o cL k.op Y x with⟨_,h⟩|h
  ·have⟨y,bi,_,_,bS,_⟩:=g.MJ Y (h U bs).2 l;have:y=d:=by
    rcases Nat.decEq y d with bB|rfl
    ·exfalso;have z:=bS d (aW bB);unfold em at e;rw[z]at e;cases s:(Hs b).get d with
     |none=>rw[s]at e;grind
     |some n=>
      rw[s]at e;have e:Nat.beq n.ver n.ver=false:=e;simp at e
    ·rfl
   subst this;rcases g.tr.both b j y bi V x with h|h
   ·rw[ca]at h;grind
   ·exact k.behind b h
  ·exact k.behind b h
 have dd:uj Hs d ops.size<=j:=(kL g.mono v (bm A)).1 R;have bT:(PH Hs ops.size q).get d=(Hs j).get d:=by
  rw[g.wH (i.HK _) v];have di:=i.HK d;rcases Nat.le_total (max (q d) (uj Hs d ops.size)) j with bz|bn
  ·refine(lJ g.mono bz λb W X=>?_).symm;have r:d<(Hs b).size:=(kL g.mono v B).2 B;refine g.same B r λl e=>?_;have:=(i.kG b d l r e).1 (N b l X e);omega
  ·refine lJ g.mono bn λb W X=>?_;have r:d<(Hs b).size:=(kL g.mono v B).2 B;refine g.same B r λl e=>?_;have hl:=(i.kG b d l r e).2 B;rcases Nat.eq_or_lt_of_le W with h|h
   ·subst h;rw[k.not]at hl;grind
   grind
 have⟨c9,ae,aA,c7,aE,aN⟩:=al (PH Hs ops.size q) (Ep _ _ _) bT;have b9:K= .undef:=by
  have⟨de,bH,_⟩:=al (Hs j) (g.wf j (bm A)) rfl;rcases t with t|⟨f,c6,t,_⟩
  ·rw[bH]at t;grind
  grind
 subst b9;have bk:∀n∈o.op.operands,fq cx G (E j) n=fq cx G (BM G (E j) (o.looksAt ops)) n:=λn t=>zt t;rw[zu bk]at ae;refine((yn g.iU i.st (i.MX g k) ae).ZT).mono λO ap s=>?_;obtain⟨L,ce,an,I,cp⟩:=s;refine⟨L,λc=>if c=d then j+1 else q c,i.cl.set k,by rw[Act.po];exact i.size,by rw[Act.pq];exact i.LW,λc=>?_,λb c C r e=>?_,
  an.congr (Ep _ _ _) λc M u=>?_,i.Bw g k I.ext ce b7,i.E9 g k b8 λc=>⟨λu=>?_,λu=>?_⟩,i.ext.trans I⟩
 ·show(if c=d then j+1 else q c)<=ops.size;have:=i.HK c;split<;>omega
 ·show _↔b<(if c=d then j+1 else q c);by_cases p:c=d
  ·subst p;rw[aq rfl];rcases Nat.lt_trichotomy b j with h|h|h
   ·rw[getD_set_ne false B,N b C h e];grind
   ·subst h;rw[uK i.cl k];simp
   ·rw[getD_set_ne false B,av b C h e];grind
  ·rw[ao p];have bu:j≠b:=by
    rintro rfl;have z:=bN c p;unfold em at e;rw[z]at e;cases s:(Hs j).get c with
    |none=>rw[s]at e;grind
    |some n=>
     rw[s]at e;have e:Nat.beq n.ver n.ver=false:=e;simp at e
   rw[getD_set_ne false bu];exact i.kG b c C r e
 ·have S:c<(Hs ops.size).size:=by
   have:=an.ej u;rw[aA]at this;exact this
  have b6:(if c=d then j+1 else q c)<=ops.size:=by have:=i.HK c;split<;>omega
  rw[g.wH (q:=λc=>if c=d then j+1 else q c) b6 S];by_cases p:c=d
  ·subst p;rw[aq rfl,aE,show max (j+1) (uj Hs c ops.size)=j+1 by omega]
  ·rw[ao p,aN c p,g.wH (i.HK _) S]
 ·rcases cp.2.1 c u with h|h
  ·exact h
  omega
 ·have⟨M,aX⟩:=Option.ne_none_iff_exists'.1 u;have⟨c4,a7,_⟩:=I.ext.mu c M aX;rw[a7];simp
def Inv.step(c:Dr P cx cf base G m ops E Hs ws nc)(d:Inv cx base G m ops E Hs ws nc listed a w μ q)(z:j∈Region.ready .any ops listed):
 wpOp P ops Q j (λx i=>∃C A,Inv cx base G m ops E Hs ws nc (listed.setIfInBounds j true) x i C A) a w:=by
 have⟨o,b⟩:=rdy d.cl z;unfold wpOp;simp only[b.op];rcases mB (c.tr.step j o b.op)with⟨e,f,y⟩|⟨e,F,p,f⟩
 ·simp only[d.want c b e,cd,bo];exact⟨μ,q,d.skip c b e f y⟩
 ·simp only[d.want c b e,bj];left;cases g:gJ o.op with
  |false=>exact yW.wp (d.quiet c b e g p f) λr i k=>by grind
  |true=>
   cases n:nZ o.op with
   |true=>exact yW.wp (d.aaO c b e n p f) λr i k=>k
   |false=>
    refine yW.wp (d.afn c b e g (λu v t s=>⟨λl=>?_,λl=>?_⟩) p f) λr i k=>by grind
    ·rcases c.DM u j v o t b.op l with⟨_,h⟩|h
     ·have:=(h s g).2;rw[n]at this;grind
     omega
    ·rcases c.DM j u o v b.op t l with⟨_,h⟩|h
     ·have:=(h g s).1;rw[n]at this;grind
     omega
def Y1(listed:af Bool):Nat:=(listed.toList.filter λb=> !b).length
def IU:∀(b:List Bool) (j:Nat),b[j]? =some false->((b.set j true).filter λc=> !c).length+1=(b.filter λc=> !c).length:=by
 intro b;induction b with
 |nil=>simp
 |cons f b e=>
  intro j d;cases j with
  |zero=>grind
  |succ j=>
   simp at d;have:=e j d;cases f<;>simp[cT]<;>omega
def Jz(b:listed.getD j true=false):Y1 (listed.setIfInBounds j true)+1=Y1 listed:=by
 have c:j<listed.size:=by
  grind
 unfold Y1;rw[Array.toList_setIfInBounds];simp_all[IU]
def Jo(d:Dr P cx cf base G m ops E Hs ws nc)(e:Cl ops listed)(hr:Region.ready .any ops listed=[]):∀b,b<ops.size->listed.getD b false=true:=by
 intro b;induction b using Nat.strongRecOn with
 |_ b n=>
  intro i;cases k:listed.getD b false with
  |true=>rfl
  |false=>
   have c:ops[b]? =some ops[b]:=J;have:b∈Region.ready .any ops listed:=by
    refine mem_ready.2 ⟨?_,ops[b],c,λf h g=>?_⟩
    ·have:b<listed.size:=by rw[e.size];exact i
     grind
    ·have l:=d.back b _ c f h g
     grind
   rw[hr]at this
   grind
def Inv.aby(c:Dr P cx cf base G m ops E Hs ws nc)(f:Inv cx base G m ops E Hs ws nc listed a w μ q)(p:∀g,g<ops.size->listed.getD g false=true):
 St cx base w.heap μ (Hs ops.size)/\jY w.heap μ G (E ops.size) a.tmps/\xJ nc μ (Hs 0).size (Hs ops.size).size:=by
 refine⟨f.st.congr (c.wf _ (au _)) λd S r=>?_,λs h N=>f.MN s h ?_,?_⟩
 ·have u:=f.lt c r;rw[c.wH (f.HK _) u];have U:=Fd Hs d ops.size;have:=f.HK d;refine lJ c.mono B λg W y=>?_;have t:d<(Hs g).size:=(kL c.mono u B).2 B;refine c.same y t λK M=>?_;have:=(f.kG g d K t M).1 (p g y);omega
 ·
  have R:∀b,rn ops listed s ops.size+b<=ops.size->(E (rn ops listed s ops.size+b)).get G s=(E (rn ops listed s ops.size)).get G s:=by
   intro b;induction b with
   |zero=>simp
   |succ b O=>
    intro V;have x:rn ops listed s ops.size+b<ops.size:=B;have z:ops[rn ops listed s ops.size+b]? =some ops[rn ops listed s ops.size+b]:=J;rw[<-O B];have A:ops[rn ops listed s ops.size+b].dst≠some s:=by
     intro I;have:=IB (n:=ops.size) x (p _ x) (by rw[z];exact I);omega
    have Y:∀h i,(E (rn ops listed s ops.size+b)).dst G ops[rn ops listed s ops.size+b].dst h=some i->i.get G s=(E (rn ops listed s ops.size+b)).get G s:=by
     intro h i e;cases v:ops[rn ops listed s ops.size+b].dst with
     |none=>rw[v]at e;have e:some _=some i:=e;simp only[ar]at e;rw[e]
     |some C=>
      rw[v]at e A;have L:s≠C:=λF=>A (by rw[F]);rw[Env.A7 (show Env.set G _ C h=some i from e) s,ao L]
    rcases mB (c.tr.step _ _ z)with⟨_,e,_⟩|⟨_,h,_,e⟩
    ·grind
    grind
  have X:=VD (ops:=ops) (listed:=listed) (s:=s) ops.size;have:=R (ops.size-rn ops listed s ops.size) B;rw[show rn ops listed s ops.size+(ops.size-rn ops listed s ops.size)=ops.size by omega]at this;rw[<-this];exact N
 ·refine⟨mK c.mono (aw _) (au _),λd r=>?_,λd k l=>?_⟩
  ·rcases(f.Rs d).1 r with T|⟨k,l,_⟩
   ·grind
   omega
  ·refine(f.Rs d).2 (.inr ⟨k,l,p _ ?_⟩);have:=c.cr0 l k;have:=Fd Hs d ops.size;omega
def Md(f:Dr P cx cf base G m ops E Hs ws nc)
 (p:∀a w μ,St cx base w.heap μ (Hs ops.size)->jY w.heap μ G (E ops.size) a.tmps->xJ nc μ (Hs 0).size (Hs ops.size).size->oS ws nc w μ->a.tmps.size=m->a.defers=[]->Q .normal a w):
 ∀(c:Nat) (listed:af Bool) (a:Act) (w:World),Y1 listed<=c->(∃μ q,Inv cx base G m ops E Hs ws nc listed a w μ q)->wpAny P .any ops Q c listed a w:=by
 have fin:∀(listed:af Bool) (a:Act) (w:World),(∃μ q,Inv cx base G m ops E Hs ws nc listed a w μ q)->Region.ready .any ops listed=[]->Q .normal a w:=by
  rintro listed a w ⟨μ,q,b⟩ hr;have⟨k,l,n⟩:=b.aby f (Jo f b.cl hr);exact p a w μ k l n b.ext b.size b.LW
 intro c;induction c with
 |zero=>
  intro listed a w r d;have hr:Region.ready .any ops listed=[]:=by
   cases hr:Region.ready .any ops listed with
   |nil=>rfl
   |cons g u=>
    have e:g∈Region.ready .any ops listed:=by rw[hr];simp
    have:=Jz (mem_ready.1 e).1;omega
  exact⟨hr,fin listed a w d hr⟩
 |succ c s=>
  intro listed a w r d;refine⟨λhr=>fin listed a w d hr,λg e=>?_⟩;obtain⟨μ,q,b⟩:=d;have:=Jz (mem_ready.1 e).1;exact wpOp_mono (λh t i=>s _ h t B i) (b.step f e)
theorem chain{n:World}{p:Mu}{h:H}{u:Env}{g c:H}{f:Env}(iU:iG P cx)(t:mU P cx cf)(v:Er m ops){l:Nat}(y:ops[l]? =some o)(N:kU cx cf G ops u g o=some (f,c))
 (r:sH cx base G m n p h u g a w):(∃C e,sH cx base G m n p h f c C e)/\kJ g c:=by
 have A:=r;obtain⟨μ,b,d,R,F,I,x,T⟩:=A;rcases mB N with⟨O,k,rfl⟩|⟨O,U,z,k⟩
 ·exact⟨⟨_,w,μ,b,jY.put d .undef (λb i=>by rw[x];exact v l o b y i) k,R,F,I,by rw[Act.po];exact x,by rw[Act.pq];omega⟩,kJ.refl b.wf⟩
 ·have hr:=CD (P:=P) iU t b d z;have⟨s,e,L⟩:=hr.some;have K:yW P (λs e=>sH cx base G m n p h f c (a.put o.dst s) e) ((execOp a.eval o).run P w):=
   r.after (λb i=>v l o b y i) k λbase μ b d=>CD iU t b d z
  have⟨S,V,M⟩:=K.some;exact⟨⟨_,_,M⟩,L.2⟩
def I4(b9:P.follows .mixedOrders=true)(iU:iG P cx)(X:mU P cx cf):P7 P cx cf og:=by
 intro base G m dn ds dk ops e bB h bH a w Q id ae an cb bs bS;have⟨E,Hs,c1,c6,bk,U,c7,_,_,c9,dd,_,c4⟩:=Da ops.toList 0 ⟨[],[]⟩ e bB h bH (λt=>by simp) cb;simp only[cB,cu]at bk U;have bl:Trace cx cf G ops E Hs:=⟨λb o k=>c7 b o (aw _) k,λb C c u v A=>c9 b C c (aw _) u v A,λb C c u v A=>dd b C c (aw _) u v A,λb C c u v A=>c4 b C c (aw _) u v A⟩;obtain⟨nc,p,r,x,bz,g,aA,ap⟩:=bs;subst c1 c6;have N:∀b,b<=ops.size->∃O L,sH cx base G m w nc (Hs 0) (E b) (Hs b) O L:=by
  intro b;induction b with
  |zero=>intro _;exact⟨a,w,nc,p,r,oS.refl _ _,xJ.refl _ _,kJ.refl p.wf,aA,ap⟩
  |succ b T=>
   intro f;have⟨a1,M,W⟩:=T B;have k:ops[b]? =some ops[b]:=J;exact(chain iU X an k (bl.step b _ k) W).1
 have Y:∀b,b<ops.size->kJ (Hs b) (Hs (b+1)):=by
  intro b f;have⟨a1,M,W⟩:=N b B;have k:ops[b]? =some ops[b]:=J
  grind [chain]
 have I:Dr P cx cf base G m ops E Hs {w with drawn:=w.drawn+1} nc:=by
  refine⟨iU,X,an,bl,p,λi j dm cL bT b8 b6=>Hf ae bT b8 b6,λj o k=>I5 ae k,λb f sl F n=>?_,λb f c y d aN F n=>?_,Y,λb f=>?_⟩
  ·have⟨a1,M,V,s,r1,_⟩:=N b f;exact(r1 sl F n).low λc l d=>s.ej d
  ·have⟨a1,M,V,s,r1,de,bu,_⟩:=N b f;have b7:V c≠none:=by
    rcases d with d|d
    ·have⟨l,R⟩:=Option.ne_none_iff_exists'.1 d;have⟨di,bN,_⟩:=de.ext.mu c l R;rw[bN];simp
    ·exact bu.2.2 c d (H.ej aN)
   have⟨l,R⟩:=Option.ne_none_iff_exists'.1 b7;have⟨z,S,ca⟩:=s.box c l R;rw[aN]at S;simp only[ar]at S;subst S;exact ca.low (λc l d=>s.ej d) F n
  ·have⟨a1,M,V,s,_⟩:=N b f;exact s.wf
 have bC:∀b,b<=ops.size->kJ (Hs 0) (Hs b):=by
  intro b;induction b with
  |zero=>intro _;exact kJ.refl p.wf
  |succ b T=>intro f;exact(T B).trans (Y b B)
 refine wp_region_any b9 (Md I (λO L bn aX a7 a8 K ce cp=>?_) ops.size _ a _ (by simp[Y1]) ⟨nc,λ_=>0,?_⟩)
 ·rw[bk]at a7;rw[U]at aX a8;have bi:oS w nc L bn:=⟨K.ext,K.os,K.tape,K.output⟩;exact bS O L ⟨bn,aX,a7,x.trans bi,bz.trans (hp:=w.heap) a8 bi.ext,by have:=bC ops.size (au _);rw[U]at this;exact g.trans this,ce,cp⟩
 ·have aE:∀b,(Array.replicate ops.size false).getD b false=false:=by
   intro b;rcases aM b ops.size with h|h<;>simp[h]
  refine⟨⟨J,λj cL _ hl=>?_⟩,aA,ap,λ_=>aw _,λb c _ _ _=>?_,?_,λsl F n=>?_,λc=>?_,⟨Ext.refl _ _,rfl,rfl,rfl⟩⟩
  ·rw[aE]at hl;grind
  ·rw[aE];simp
  ·refine p.congr (Ep _ _ _) λc l d=>?_;have av:=p.ej d;have al:c<(Hs ops.size).size:=bp av (mK I.mono (aw _) (au _));rw[I.wH (q:=λ_=>0) (aw _) al];have:uj Hs c ops.size<=0:=(kL I.mono al (aw _)).1 av;rw[show max 0 (uj Hs c ops.size)=0 by omega]
  ·have:rn ops (Array.replicate ops.size false) sl ops.size=0:=by
    grind [Array.replicate,yu]
   rw[this]at n;exact r sl F n
  grind
end
end
section
section
variable {P:ai}{cx:Ctx}{cf:iH}{base G m:Nat}{w0 w:World}{μ0 μ:Mu}{h0 h h':H}{e e':Env}{a:Act}
def zv{d:List T}{cs:af am}{g:af Obj}(b:fX g μ d cs.toList):eK g μ (iz d) (if h:cs.size=1 then cs[0]else .tuple cs):=by
 have c:∀(j:cs.size≠1),eK g μ (.tuple d) (if h:cs.size=1 then cs[0]else .tuple cs):=by
  intro j;rw[dif_neg j];exact .tuple d cs (by simpa using b.1.symm) λn i l=>by simpa[bQ,List.getD]using b.2 n i l
 have f:=b.1
 match d,b,f,c with
 | [],b,f,c=>exact c (by grind)
 | [i],b,f,c=>
  have k:cs.size=1:=by grind
  rw[dif_pos k];have:=b.2 0 i J
  grind [List.getD,iz]
 |o::p::d,b,f,c=>exact c (by grind)
def pi(c:af am):ResultVar->Sem am
 | .tmp b=>pure (c.getD b Go.undef)
 | .cell d b=>do loadVar b (<-asAddr (c.getD d Go.undef))
def BE(c:Func)(d:af am):results c d=(do let b<-c.results.mapM (pi d);pure (if h:b.size=1 then b[0]else .tuple b)):=by
 unfold results;congr 1
def Ey(iU:iG P cx)(I:St cx base w.heap μ h)(r:jY w.heap μ G e a.tmps):∀(g:List ResultVar) (k:List T),kF cx G e h g=some k->
 ∃d:List am,fX w.heap μ k d/\(g.mapM (pi a.tmps)).run P w= .ok d w:=by
 intro g;induction g with
 |nil=>
  intro k b;have b:some []=some k:=b;simp_all[ar,fX.nil]
 |cons n g F=>
  intro k b;unfold kF at b;rw[jp]at b;replace b:=dB.1 b;obtain⟨j,c,b⟩:=b;replace b:=dB.1 b;obtain⟨s,E,b⟩:=b;simp only[ar]at b;subst b;have⟨d,x,A⟩:=F s E;have q:∀f,(pi a.tmps n).run P w= .ok f w->eK w.heap μ j f->∃d:List am,fX w.heap μ (j::s) d/\((n::g).mapM (pi a.tmps)).run P w= .ok d w:=by
   intro f y hr;refine⟨f::d,fX.cons hr x,?_⟩;rw[List.mapM_cons,Sem.run_bind,y,Result.andThen_ok,Sem.run_bind,A,Result.andThen_ok,Sem.run_pure]
  cases n with
  |tmp i=>
   have c:e.get G i=some j:=c;exact q _ (by rfl) (r i j c)
  |cell p i=>
   have c:(M (e.get G p) λl=>M (cx.ty i) λo=>h.load o l)=some j:=c;replace c:=dB.1 c;obtain⟨l,z,c⟩:=c;replace c:=dB.1 c;obtain⟨o,C,c⟩:=c;have⟨K,f,t,u,v⟩:=Cb (iU.ty i o C) I (r p l z) c;exact q f (by simp only[pi,t,asAddr,Sem.run_bind,Sem.run_pure,Result.andThen_ok,u]) v
def Db(iU:iG P cx)(j:St cx base w.heap μ h)(i:jY w.heap μ G e a.tmps){b:Func}{d:List T}(f:kF cx G e h b.results.toList=some d):
 ∃c,(results b a.tmps).run P w= .ok c w/\eK w.heap μ (iz d) c:=by
 have⟨cs,k,g⟩:=Ey (P:=P) iU j i _ _ f;refine⟨_,?_,zv (cs:=cs.toArray) B⟩;rw[BE];have:b.results.mapM (pi a.tmps)=List.toArray<$>b.results.toList.mapM (pi a.tmps):=by
  rw[<-List.mapM_toArray]
 rw[this,Sem.run_bind,Sem.run_map,g];rfl
def Dl:∀(f d:Nat) (k:List T) (o:fH),lV G f d k=some o->∀n j,dG o n=some j->(∃c,n=d+c/\c<f/\(k[c]? =some j\/(k.length<=c/\j= .undef))):=by
 intro f;induction f with
 |zero=>
  intro d k o b n j g;have b:some fH.nil=some o:=b;simp only[ar]at b;subst b
  grind [dG]
 |succ f u=>
  intro d k o b n j g;have b:(M (fU (Nat.succ d)) λp=> @List.rec T (λ_=>aa fH)
   (@Bool.rec (λ_=>aa fH) (lV G f p []) (M (lV G f p []) λi=>some (.cons d .undef i)) (jX G d))
   (λa l _=>M (lV G f p l) λi=>some (.cons d a i)) k)=some o:=b
  simp only[gX,dS]at b;have q:∀{l:List T} {i:fH},lV G f (d+1) l=some i->dG i n=some j->∃c,n=d+(c+1)/\c<f/\(l[c]? =some j\/(l.length<=c/\j= .undef)):=by
   grind
  cases k with
  |nil=>
   simp only at b;cases hl:jX G d with
   |false=>
    rw[hl]at b;have⟨c,r,s,t⟩:=q b g;simp_all
   |true=>
    rw[hl]at b;replace b:=dB.1 b;obtain⟨i,ht,b⟩:=b;simp only[ar]at b;subst b;rw[mM]at g;split at g
    ·simp_all
    ·have⟨c,r,s,t⟩:=q ht g;simp_all
  |cons v l=>
   simp only at b;replace b:=dB.1 b;obtain⟨i,ht,b⟩:=b;simp only[ar]at b;subst b;rw[mM]at g;split at g
   ·simp_all
   ·have⟨c,r,s,t⟩:=q ht g;simp_all
def IL{n:Nat}{d:List T}{i:fH}{l:af Obj}{c:af am}(k:fX l μ d c.toList)(o:lV G n 0 d=some i):
 jY l μ G ⟨i,.nil⟩ (c++Array.replicate (n-c.size) Go.undef):=by
 intro b j f;have f: @Bool.rec (λ_=>aa T) (dG .nil b) (dG i b) (jX G b)=some j:=f;cases hl:jX G b with
 |false=>rw[hl]at f;grind [dG]
 |true=>
  rw[hl]at f;have⟨q,r,s,g⟩:=Dl n 0 d i o b j f;have p:b=q:=B;subst p;have t:d.length=c.size:=by simpa using k.1
  rcases g with g|⟨g,rfl⟩
  ·have u:b<d.length:=by
    grind
   have hr:=k.2 b j g;have:(c++Array.replicate (n-c.size) Go.undef).getD b Go.undef=c.toList.getD b Go.undef:=by
    rw[bQ,Array.getElem?_append_left B];simp
   rw[this];exact hr
  ·have:(c++Array.replicate (n-c.size) Go.undef).getD b Go.undef=Go.undef:=by
    rw[bQ,Array.getElem?_append_right B]
    grind
   rw[this];exact .undef
def Gt{m g:Nat}{f:af Oper->Bool}(p:m<=g):∀(b:Code),mh m f b=true->mh g f b=true:=by
 intro b;induction b with
 |region id q o=>
  intro h;simp only[mh,az]at h|-;refine⟨?_,h.2⟩;have d:=h.1;unfold Rr at d|-;rw[cw]at d|-;intro i j;have:=d i j
  grind [aF]
 |seq a c l n=>simp_all[az,mh]
 |cond i a c l n=>simp_all[az,mh]
 |block id c k=>grind [mh]
 |loop c k=>grind [mh]
 |_=>intro _;rfl
def C2(P:ai)(cx:Ctx)(f:aj)(g:Prim):Prop:=
 ∀b h d h',yk g b h=some (d,h')->∀base w μ (c:af am),St cx base w.heap μ h->fX w.heap μ b c.toList->yW P (pV cx base w μ h d h') ((callFunc f c).run P w)
def wM(b:Fun):Bool:= !(b.fn.name== "runtime.NumGoroutine")&&match b.fn.body with
 |none=>false
 |some c=>mh b.fn.ntmps og c
def nl{c:aj}{b:Func}{f:Code}(i:P.funcs[c]? =some b)(k:(b.name== "runtime.NumGoroutine")=false)(g:b.body=some f)(d:af am)(w:World):
 (callFunc c d).run P w= .ok (.enter c d) w:=by
 have j:¬b.name= "runtime.NumGoroutine" :=by grind
 simp[callFunc,i,j,g]
theorem Ji(ae:P.follows .mixedOrders=true)(iU:iG P cx)(z:mU P cx cf){r:aj}{b:Fun}(E:P.funcs[r]? =some b.fn)(g:wM b=true){C:Nat}{x:List T}{o:T}
 (c:rZ cx cf C b.fn b.G b.jV x h=some (o,h')) (K:St cx base w.heap μ h) {f:af am} (X:fX w.heap μ x f.toList):
 yW P (pV cx base w μ h o h') ((callFunc r f).run P w):=by
 unfold wM at g;simp only[az,bF]at g;obtain⟨al,g⟩:=g;unfold rZ at c;cases l:b.fn.body with
 |none=>rw[l]at g;grind
 |some y=>
  rw[l]at g c;simp only at g;obtain⟨d,t,k⟩:=h;simp only at c;replace c:=dB.1 c;obtain⟨bl,aA,c⟩:=c;replace c:=dB.1 c;obtain⟨⟨q,A,s⟩,Y,c⟩:=c;simp only[lh]at c;have j:(q= .normal\/q= .ret)/\(M (kF cx b.G A s b.fn.results.toList) λN=>qR b.jV d t (iz N) s)=some (o,h'):=by
   cases q with
   |normal=>grind
   |exit i=>grind
   |ret=>grind
  obtain⟨aN,j⟩:=j;replace j:=dB.1 j;obtain⟨N,aE,j⟩:=j;rw[nl E al l];show Calls P r f w _;refine calls_of_wp E l ?_;have L:St cx base w.heap μ ⟨d,d,k⟩:=K.JK d;have an:=IL (G:=b.G) (n:=b.fn.ntmps) X aA;have O:sH cx base b.G (f.size+(b.fn.ntmps-f.size)) w μ ⟨d,d,k⟩ ⟨bl,.nil⟩ ⟨d,d,k⟩ {tmps:=f++Array.replicate (b.fn.ntmps-f.size) Go.undef,defers:=[]} w:=
   ⟨μ,L,an,oS.refl _ _,xJ.refl _ _,kJ.refl L.wf,J,rfl⟩
  refine I9 (m:=f.size+(b.fn.ntmps-f.size)) (w0:=w) (μ0:=μ) (h0:=⟨d,d,k⟩) (base:=base) (G:=b.G) iU z (I4 ae iU z) C y (Gt B y g) _ _ q A s Y _ _ _ O λv u Q=>?_;have I:v.defers=[]/\∃p,(results b.fn v.tmps).run P u= .ok p u/\pV cx base w μ ⟨d,t,k⟩ o h' p u:=by
   obtain⟨bu,F,aX,a7,a8,bi,bs,bk⟩:=Q;have⟨p,ap,av⟩:=Db (P:=P) iU F aX aE;have⟨⟨bn,R,S,U,V⟩,W⟩:=GG (low0:=t) K F bi a7 a8 av j;exact⟨bk,p,ap,⟨bn,R,S,U,V⟩,W⟩
  rcases aN with rfl|rfl
  ·exact I
  ·exact I
