/- TiEnv -/
import Derived.Test.YtnfojkibhgjfmaaGreatDoorA2
import Derived.Orders
import Derived.Laws.Externs
set_option linter.all false
namespace Go.TI
noncomputable section
def pO(b:Nat)(d:T)(c:iP)(a:Nat):Y (.cons b d c) a=if b=a then some d else Y c a:=by show @Bool.rec (λ_=>aa T) (Y c a) (some d) (aq b a)=_;cases e:aq b a;have:=dj e;simp[this];have:=aJ e;simp[this]
def Lf{l e:iP}{c:Nat}{g:T}(a:nL l c g=D e)(f:Nat):Y e f=if f=c then some g else Y l f:=by
 induction l generalizing e with
 |nil=>
  have a:some (iP.cons c g .nil)=D e:=a;cases a;rw[pO];by_cases b:c=f;simp[b];simp[b,bE b]
 |cons d m i o=>
  have a: @Bool.rec (λ_=>aa iP) (Z (nL i c g) λj=>some (.cons d m j)) (some (.cons d g i)) (aq d c)=D e:=a;cases h:aq d c;rw[h]at a;have k:=dj h;have a:(Z (nL i c g) λj=>some (iP.cons d m j))=D e:=a;have⟨j,ht,a⟩:=ed.1 a;cases a;rw[pO,pO,o ht];by_cases b:d=f;have:f≠c:=λn=>k (b.trans n);simp[b,this];simp[b];rw[h]at a;have k:=aJ h;have a:some (iP.cons d g i)=D e:=a;cases a;rw[pO,pO,k];by_cases b:c=f;simp[b];simp[b,bE b]
def Env.Fx{d:Nat}{m g:Env}{c:Nat}{f:T}(a:m.set d c f=D g)(b:Nat):g.get d b=if b=c then some f else m.get d b:=by
 obtain⟨l,k⟩:=m;have a: @Bool.rec (λ_=>aa Env) (some ⟨l,.cons c f k⟩) (Z (nL l c f) λj=>some ⟨j,k⟩) (lL d c)=D g:=a;have get:∀(h i:iP),(⟨h,i⟩:Env).get d b=if lL d b=true then Y h b else Y i b:=by
  intro h i;show @Bool.rec (λ_=>aa T) (Y i b) (Y h b) (lL d b)=_;cases lL d b<;>rfl
 cases hl:lL d c;rw[hl]at a;have a:some (⟨l,.cons c f k⟩:Env)=D g:=a;cases a;rw[get,get,pO];by_cases e:b=c;subst e;simp[hl];simp[e,bE e];rw[hl]at a;have a:(Z (nL l c f) λj=>some (⟨j,k⟩:Env))=D g:=a;have⟨j,n,a⟩:=ed.1 a;cases a;rw[get,get,Lf n];by_cases e:b=c;subst e;simp[hl];simp[e]
theorem mh.put{k:af Obj}{m:Mu}{h:Nat}{f g:Env}{i:Act}{e:aa Tmp}{l:T}{c:am}(o:mh k m h f i.tmps)(s:iu k m l c)(q:∀b,e=D b->b<i.tmps.size)
 (a:f.dst h e l=D g):mh k m h g (i.put e c).tmps:=by
 rcases e with _|b;have a:some f=D g:=a;cases a;exact o;have a:f.set h b l=D g:=a;intro p t d;rw[Env.Fx a]at d;have r:=q b rfl;by_cases j:p=b;subst j;simp[ay]at d;subst d;simpa[Act.put,cC,r]using s;simp[j]at d;have:=o p t d;simpa[Act.put,cC,Array.getElem?_setIfInBounds_ne (bE j)]using this
def Act.tJ(a:Act)(b:aa Tmp)(c:am):(a.put b c).tmps.size=a.tmps.size:=by cases b<;>simp[Act.put]
def Act.tK(a:Act)(b:aa Tmp)(c:am):(a.put b c).defers=a.defers:=by cases b<;>rfl
def FS{x:af Obj}{A:Mu}{l:Nat}{j:Env}{c:Act}{g:af Oper}{i:Oper}{d:Bool}(z:mh x A l j c.tmps)(v:∀(f:Nat) (b:Oper) t,g[f]? =D b->b.dst=D t->t<c.tmps.size)
 (a:md g l j i.guard=D d):Region.wanted i (yielded g c.tmps)=d:=by
 unfold Region.wanted;cases o:i.guard with
 |none=>
  rw[o]at a;have a:some true=D d:=a;simpa using a
 |some b=>
  obtain⟨f,n⟩:=b;rw[o]at a;have a:(Z (Z (Z (oS g.toList f) λi=>i.dst) λe=>j.get l e) λm=>
   match m with
   | .ej d=>some (@Bool.rec (λ_=>Bool) (@Bool.rec (λ_=>Bool) true false n) n d)
   |_=>some false)=D d:=a
  replace a:=ed.1 a;obtain⟨m,h,a⟩:=a;replace h:=ed.1 h;obtain⟨e,k,h⟩:=h;replace k:=ed.1 k;obtain⟨b,p,r⟩:=k;rw[mV]at p;have q:g[f]? =D b:=iD p;have w:=v f b e q r;have s:=z e m h;have y:((g[f]?).bind (·.dst)).bind (c.tmps[·]?)=D (c.tmps.getD e Go.undef):=by
   simp[q,r,cC,w]
  simp only[yielded,y];generalize c.tmps.getD e Go.undef=B at s;cases s<;>simp only[ay]at a<;>first
   |(subst a;rfl)
   |skip
  rename_i u;subst a;cases u<;>cases n<;>rfl
section
def ut(cx:Ctx)(base:Nat)(w:World)(f:Mu)(h:H)(c:T)(h':H)(b:am)(d:World):Prop:=aa7 cx base w f h.size c h' b d/\mY h h'
def p9(P:ai)(cx:Ctx)(cf:jU):Prop:=
 ∀f c h g h',cf f c h=D (g,h')->∀base w b (d:af am),St cx base w.heap b h->jc w.heap b c d.toList->Dd P (ut cx base w b h g h') ((callFunc f d).run P w)
def wS(cx:Ctx)(base M m:Nat)(w0:World)(μ0:Mu)(h0:H)(e:Env)(h:H)(a:Act)(w:World):Prop:=
 ∃b,St cx base w.heap b h/\mh w.heap b M e a.tmps/\sM w0 μ0 w b/\BX μ0 b h0.size h.size/\mY h0 h/\a.tmps.size=m/\a.defers=[]
section
variable {P:ai}{cx:Ctx}{cf:jU}{base M m:Nat}{w0 w:World}{μ0:Mu}{h0 h h':H}{e e':Env}{a:Act}{ops:af Oper}{Q:Exit->Act->World->Prop}
def Jy(m:Nat)(ops:af Oper):Prop:=∀(d:Nat) (b:Oper) c,ops[d]? =D b->b.dst=D c->c<m
def wS.after(H:wS cx base M m w0 μ0 h0 e h a w){d:aa Tmp}(z:∀b,d=D b->b<m){l:T}(r:e.dst M d l=D e')
 {g:Result Next} (hr:∀base c,St cx base w.heap c h->mh w.heap c M e a.tmps->Dd P (ut cx base w c h l h') g):Dd P (λi n=>wS cx base M m w0 μ0 h0 e' h' (a.put d i) n) g:=by
 obtain⟨c,b,k,x,o,p,j,A⟩:=H;refine(hr base c b k).mono λi n q=>?_;obtain⟨⟨y,s,t,f,u⟩,v⟩:=q;refine⟨y,t,?_,x.trans f,o.trans (hp:=w.heap) u f.ext,p.trans v,by rw[Act.tJ];exact j,by rw[Act.tK];omega⟩;exact mh.put (k.ext f.ext) s (λb B=>by rw[j];grind) r
def NF(j9:jP P cx)(L:p9 P cx cf){n:Nat}{d:Oper}(s:ops[n]? =D d)(r:Jy m ops)(b:nj cx cf M ops e h d=D (e',h'))
 (H:wS cx base M m w0 μ0 h0 e h a w) {A:Act->World->Prop} (v:∀B o,wS cx base M m w0 μ0 h0 e' h' B o->A B o):wpOp P ops Q n A a w:=by
 have I:=H;obtain⟨t,c,f,x,N,O,y,al⟩:=I;unfold wpOp;simp[s];obtain⟨ae,W,b⟩:=ed.1 b;have F:=FS f (λX Y c T i=>y▸r X Y c T i) W;cases ae with
 |false=>
  have b:(Z (e.dst M d.dst .undef) λe'=>some (e',h))=D (e',h'):=b;obtain⟨E,l,b⟩:=ed.1 b;simp[ay,aI]at b;obtain⟨rfl,rfl⟩:=b;simp[F,df];refine v _ _ ⟨t,c,mh.put f .undef (λc i=>by rw[y];exact r n d c s i) l,x,N,O,by rw[Act.tJ];exact y,by rw[Act.tK];omega⟩
 |true=>
  simp[F];left;have b:(Z (ka d.op cx M e h) λu=> @ni.rec (λ_=>aa (Env×TI.H))
   (λg h'=>Z (e.dst M d.dst g) λe'=>some (e',h'))
   (λq p=>Z (cf q p h) λf=>two f λg h'=>Z (e.dst M d.dst g) λe'=>some (e',h')) u)=D (e',h'):=b
  obtain⟨u,z,b⟩:=ed.1 b;rcases u with⟨g,j⟩|⟨q,p⟩
  .skip
   have b:(Z (e.dst M d.dst g) λe'=>some (e',j))=D (e',h'):=b;obtain⟨E,l,b⟩:=ed.1 b;simp[ay,aI]at b;obtain⟨rfl,rfl⟩:=b;refine Dd.wp (H.after (λc i=>r n d c s i) l (h':=j) λbase t c f=>?_) (λC o k=>v _ _ k);exact((Cy j9 c f z).ran).mono λC o k=>⟨k,Vz c.wf g j z⟩
  .skip
   have b:(Z (cf q p h) λf=>two f λg h'=>Z (e.dst M d.dst g) λe'=>some (e',h'))=D (e',h'):=b;obtain⟨⟨g,j⟩,S,b⟩:=ed.1 b;simp[m6]at b;obtain⟨E,l,b⟩:=ed.1 b;simp[ay,aI]at b;obtain⟨rfl,rfl⟩:=b;refine Dd.wp (H.after (λc i=>r n d c s i) l (h':=j) λbase t c f=>?_) (λC o k=>v _ _ k);have⟨_,K,R,U⟩:=LB (P:=P) c f z;rw[U];exact L q p h g j S base w t K c R
def JF(j9:jP P cx)(n:p9 P cx cf)(q:Jy m ops):∀(c:List Oper) (d:Nat) (e:Env) (h:H) (a:Act) (w:World),(∀g,c[g]? =ops[d+g]?)->
 mo cx cf M ops c e h=D (e',h')->wS cx base M m w0 μ0 h0 e h a w->(∀f i,wS cx base M m w0 μ0 h0 e' h' f i->Q .normal f i)->wpOps P ops Q (List.range' d c.length) a w:=by
 intro c;induction c with
 |nil=>
  intro d e h a w _ b H j;have b:some (e,h)=D (e',h'):=b;simp[ay,aI]at b;obtain⟨rfl,rfl⟩:=b;exact j a w H
 |cons k c t=>
  intro d e h a w hl b H j;have b:(Z (nj cx cf M ops e h k) λu=>two u λe' h'=>mo cx cf M ops c e' h')=D (e',h'):=b;obtain⟨⟨o,p⟩,s,b⟩:=ed.1 b;simp[m6]at b;simp[aZ,List.range'_succ];rw[wpOps_cons];have r:ops[d]? =D k:=by have:=hl 0;grind
  refine NF j9 n r q s H λf i l=>t (d+1) o p f i (λg=>?_) b l j;have:=hl (g+1);simp[dI]at this;rw[this];grind
def Y0(m:Nat)(ops:af Oper):Bool:=ops.toList.all λb=>match b.dst with|some c=>au c m|none=>true
def YZ(b:Y0 m ops):Jy m ops:=by intro g d i f c;unfold Y0 at b;rw[cF]at b;have:=b d c5;rw[c]at this;simp_all
def oR(m:Nat)(rN:af Oper->Bool):Code->Bool
 | .region _ ops c=>Y0 m ops&&(!c||rN ops)
 | .seq a b=>oR m rN a&&oR m rN b
 | .cond _ a b=>oR m rN a&&oR m rN b
 | .block _ b=>oR m rN b
 | .loop b=>oR m rN b
 |_=>true
def ahf:Ex->Exit
 | .normal=> .normal
 | .exit b=> .exit b
 | .ret=> .ret
def Xm(P:ai)(cx:Ctx)(cf:jU)(rN:af Oper->Bool):Prop:=
 ∀(base M m:Nat) (w0:World) (μ0:Mu) (h0:H) (ops:af Oper) (e e':Env) (h h':H) (a:Act) (w:World) (Q:Exit->Act->World->Prop) (id:Nat),rN ops->Jy m ops->
  lf cx cf M ops ops.toList 0 ⟨[],[]⟩ e h=D (e',h')->wS cx base M m w0 μ0 h0 e h a w->(∀b c,wS cx base M m w0 μ0 h0 e' h' b c->Q .normal b c)->(Code.region id ops true).wp P Q a w
def wS.drop(H:wS cx base M m w0 μ0 h0 e h a w):wS cx base M m w0 μ0 h0 ⟨e.vars,.nil⟩ h a w:=by obtain⟨q,n,l,p,g,i,k,j⟩:=H;refine⟨q,n,λb d c=>l b d ?_,p,g,i,k,j⟩;obtain⟨f,o⟩:=e;have c: @Bool.rec (λ_=>aa T) (Y .nil b) (Y f b) (lL M b)=D d:=c;show @Bool.rec (λ_=>aa T) (Y o b) (Y f b) (lL M b)=D d;cases hl:lL M b;rw[hl]at c;grind [Y];rw[hl]at c;exact c
def wpL(P:ai)(d:Code)(Q:Exit->Act->World->Prop)(a:Act)(w:World):Prop:=
 ∀(c:Frame) (g:List Item) (f:List Frame),∃e b i,Q e b i/\Arrives P (lone (c.at a (.code d:: .inLoop d::g)) f w) c g f e b i
def Rl{b:Code}(h:b.wp P (Exit.then (wpL P b Q) Q) a w):wpL P b Q a w:=by
 intro i k j;have⟨e,f,g,d,c⟩:=h i (.inLoop b::k) j;cases e with
 |normal=>
  have⟨n,l,q,p,o⟩:=d i k j;exact⟨n,l,q,p,.of_steps (Steps.trans c (.one step_inLoop)) o⟩
 |exit id=>exact⟨_,f,g,d,.pass (x:= .inLoop b) rfl (λ_ _=> .inl V) c⟩
 |goto s=>exact⟨_,f,g,d,.pass (x:= .inLoop b) rfl (λ_ _=> .inl V) c⟩
 |ret=>exact⟨_,f,g,d,.pass (x:= .inLoop b) rfl (λ_ _=> .inl V) c⟩
 |panic r=>exact⟨_,f,g,d,.pass (x:= .inLoop b) rfl (λ_ _=> .inl V) c⟩
 |outgrown=>exact⟨_,f,g,d,.pass (x:= .inLoop b) rfl (λ_ _=> .inl V) c⟩
def Rk{b:Code}(h:wpL P b Q a w):(Code.loop b).wp P Q a w:=by intro d j f;have⟨e,c,k,i,g⟩:=h d j f;exact⟨e,c,k,i,.of_steps (.one step_loop) g⟩
def ahK(P:ai)(cx:Ctx)(base M m:Nat)(w0:World)(μ0:Mu)(h0:H)(f:Code)(g:Env->H->Out):Prop:=
 ∀e h d e' h',g e h=D (d,e',h')->∀a w Q,wS cx base M m w0 μ0 h0 e h a w->(∀b c,wS cx base M m w0 μ0 h0 e' h' b c->Q (ahf d) b c)->f.wp P Q a w
def Ox{p:Code}{j:Env->H->Out}(s:ahK P cx base M m w0 μ0 h0 p j):∀(f:Nat) (e:Env) (h:H) (c:Ex) (e':Env) (h':H),qQ j f e h=D (c,e',h')->
 ∀a w Q,wS cx base M m w0 μ0 h0 e h a w->(∀d g,wS cx base M m w0 μ0 h0 e' h' d g->Q (ahf c) d g)->wpL P p Q a w:=by
 intro f;induction f with
 |zero=>simp[qQ]
 |succ f t=>
  intro e h c e' h' b a w Q H n;have b:(Z (j e h) λu=>three u λc e' h'=> @Ex.rec (λ_=>Out) (qQ j f e' h') (λo=>some (.exit o,e',h')) (some (.ret,e',h')) c)=D (c,e',h'):=b;obtain⟨⟨q,i,k⟩,r,b⟩:=ed.1 b;refine Rl (s e h q i k r a w _ H λd g l=>?_);cases q with
  |normal=>
   have b:qQ j f i k=D (c,e',h'):=b;exact t i k c e' h' b d g Q l n
  |exit o=>
   have b:some (Ex.exit o,i,k)=D (c,e',h'):=b;simp[ay,aI]at b;obtain⟨rfl,rfl,rfl⟩:=b;exact n d g l
  |ret=>
   have b:some (Ex.ret,i,k)=D (c,e',h'):=b;simp[ay,aI]at b;obtain⟨rfl,rfl,rfl⟩:=b;exact n d g l
def Pd(j9:jP P cx)(L:p9 P cx cf){rN:af Oper->Bool}(N:Xm P cx cf rN)(p:Nat):∀(s:Code),oR m rN s->ahK P cx base M m w0 μ0 h0 s (ll cx cf p M s):=by
 intro s;induction s with
 |skip=>
  intro _ e h c e' h' b a w Q H d;have b:some (Ex.normal,e,h)=D (c,e',h'):=b;simp[ay,aI]at b;obtain⟨rfl,rfl,rfl⟩:=b;exact wp_skip (d a w H)
 |exit id=>
  intro _ e h c e' h' b a w Q H d;have b:some (Ex.exit id,e,h)=D (c,e',h'):=b;simp[ay,aI]at b;obtain⟨rfl,rfl,rfl⟩:=b;exact wp_exit (d a w H)
 |ret=>
  intro _ e h c e' h' b a w Q H d;have b:some (Ex.ret,e,h)=D (c,e',h'):=b;simp[ay,aI]at b;obtain⟨rfl,rfl,rfl⟩:=b;exact wp_ret (d a w H)
 |region id ops O=>
  intro g e h c e' h' b a w Q H d;simp[oR,aC]at g;have I:=YZ g.1;have n:=H.drop;obtain⟨E,U⟩:=e;cases O;have b:(Z (mo cx cf M ops ops.toList ⟨E,.nil⟩ h) λo=>two o λe' h'=>some (Ex.normal,(⟨e'.vars,.nil⟩:Env),h'))=D (c,e',h'):=b;replace b:=ed.1 b;obtain⟨⟨k,j⟩,q,b⟩:=b;simp[m6,ay,aI]at b;obtain⟨rfl,rfl,rfl⟩:=b;refine wp_region ?_;rw[List.range_eq_range'];have:=JF (Q:=Q) j9 L I ops.toList 0 ⟨E,.nil⟩ h a w (λT=>by simp) q n λf i x=>d f i x.drop;omega;have b:(Z (lf cx cf M ops ops.toList 0 ⟨[],[]⟩ ⟨E,.nil⟩ h) λo=>two o λe' h'=>some (Ex.normal,(⟨e'.vars,.nil⟩:Env),h'))=D (c,e',h'):=b;replace b:=ed.1 b;obtain⟨⟨k,j⟩,q,b⟩:=b;simp[m6,ay,aI]at b;obtain⟨rfl,rfl,rfl⟩:=b;exact N base M m w0 μ0 h0 ops _ _ h j a w Q id c5 I q n λf i x=>d f i x.drop
 |seq r y A B=>
  intro g e h c e' h' b a w Q H d;simp[oR,aC]at g;have b:(Z (ll cx cf p M r e h) λo=>three o λc e' h'=> @Ex.rec (λ_=>Out) (ll cx cf p M y e' h') (λl=>some (.exit l,e',h')) (some (.ret,e',h')) c)=D (c,e',h'):=b;replace b:=ed.1 b;obtain⟨⟨t,k,j⟩,q,b⟩:=b;refine wp_seq (A g.1 e h t k j q a w _ H λf i n=>?_);cases t with
  |normal=>exact B g.2 k j c e' h' b f i Q n d
  |exit l=>
   have b:some (Ex.exit l,k,j)=D (c,e',h'):=b;simp[ay,aI]at b;obtain⟨rfl,rfl,rfl⟩:=b;exact d f i n
  |ret=>
   have b:some (Ex.ret,k,j)=D (c,e',h'):=b;simp[ay,aI]at b;obtain⟨rfl,rfl,rfl⟩:=b;exact d f i n
 |cond K r y A B=>
  intro g e h c e' h' b a w Q H d;simp[oR,aC]at g;have b:(Z (iG cx M e K) λC=>match C with
   | .ej v=> @Bool.rec (λ_=>Out) (ll cx cf p M y e h) (ll cx cf p M r e h) v
   |_=>none)=D (c,e',h'):=b
  replace b:=ed.1 b;obtain⟨C,R,b⟩:=b;cases C<;>simp[reduceCtorEq]at b;rename_i v;have F:a.eval K= .bool v:=by
   obtain⟨W,S,o,_⟩:=H;exact(iV S o R).tU
  cases v;exact wp_cond_false F (B g.2 e h c e' h' b a w Q H d);exact wp_cond_true F (A g.1 e h c e' h' b a w Q H d)
 |block id r z=>
  intro g e h c e' h' b a w Q H d;have b:(Z (ll cx cf p M r e h) λo=>three o λc e' h'=> @Ex.rec (λ_=>Out) (some (.normal,e',h')) (λl=> @Bool.rec (λ_=>Out) (some (.exit l,e',h')) (some (.normal,e',h')) (aq l id)) (some (.ret,e',h')) c)=D (c,e',h'):=b;replace b:=ed.1 b;obtain⟨⟨t,k,j⟩,q,b⟩:=b;refine wp_block (z g e h t k j q a w _ H λf i n=>?_);cases t with
  |normal=>
   have b:some (Ex.normal,k,j)=D (c,e',h'):=b;simp[ay,aI]at b;obtain⟨rfl,rfl,rfl⟩:=b;exact d f i n
  |exit l=>
   have b: @Bool.rec (λ_=>Out) (some (.exit l,k,j)) (some (.normal,k,j)) (aq l id)=D (c,e',h'):=b;show(if l=id then Q .normal f i else Q (.exit l) f i);cases u:aq l id;rw[u]at b;simp[ay,aI]at b;obtain⟨rfl,rfl,rfl⟩:=b;rw[aw (dj u)];exact d f i n;rw[u]at b;simp[ay,aI]at b;obtain⟨rfl,rfl,rfl⟩:=b;rw[ax (aJ u)];exact d f i n
  |ret=>
   have b:some (Ex.ret,k,j)=D (c,e',h'):=b;simp[ay,aI]at b;obtain⟨rfl,rfl,rfl⟩:=b;exact d f i n
 |loop r z=>
  intro g e h c e' h' b a w Q H d;exact Rk (Ox (z g) p e h c e' h' b a w Q H d)
 |_=>intro _ e h c e' h' b;exact absurd b (by simp[ll])
end
end
section
def pN{d g:Type}{b c:d->aa g}:∀{a:List d},(∀x∈a,b x=c x)->iK b a=iK c a
 | [],_=>rfl
 |x::a,h=>by
  rw[kv,kv,h x V,pN λf i=>h f c5]
section
variable {cx:Ctx}{M:Nat}{e e':Env}{h h1 h2:H}
def EJ{a:List ah}(c:∀b∈a,iG cx M e b=iG cx M e' b):tM cx M e a=tM cx M e' a:=pN c
def A2{b:List (Nat×ah)}(d:∀a∈b,iG cx M e a.2=iG cx M e' a.2):partsOf cx M e b=partsOf cx M e' b:=by unfold partsOf;refine pN λa c=>?_;obtain⟨f,g⟩:=a;simp[m6];rw[d (f,g) c]
def ye{b:aa ah}(f:∀a,b=D a->iG cx M e a=iG cx M e' a):kQ cx M e b=kQ cx M e' b:=by rcases b with _|a;rfl;show(Z (iG cx M e a) λd=>Z (tq d) λc=>some (some c))=(Z (iG cx M e' a) λd=>Z (tq d) λc=>some (some c));rw[f a rfl]
theorem d0{p:Prop}(h:p:=by simp[Op.operands]):p:=h
def DR{f:Op}(b:∀a∈f.operands,iG cx M e a=iG cx M e' a):ka f cx M e h=ka f cx M e' h:=by
 by_cases v:∃d,f= .call d;obtain⟨d,rfl⟩:=v;have h1:tM cx M e d.args.toList=tM cx M e' d.args.toList:=EJ λa w=>b a (by simp[Op.operands,Call.operands,Array.mem_append];grind);simp[ka,Hn,h1];cases u:d.callee with
 |builtin j=>rfl
 |invoke a s=>rfl
 |value n=>
  have h2:=b n (by simp only[Op.operands,Call.operands,u];simp)
  grind
 cases f with
 |move a=>have h1:=b a d0;simp_all[Hj,ka]
 |assign a=>have h1:=b a d0;simp_all[Hj,ka]
 |pick d g j=>
  have h1:=b d d0;have h2:=b g d0;have p:=b j d0;simp_all[Jb,ka]
 |alloc c=>rfl
 |box c a=>have h1:=b a d0;simp_all[SK,ka]
 |build c m=>
  have h1:partsOf cx M e m.toList=partsOf cx M e' m.toList:=A2 λo x=>b o.2 (by simp[Op.operands,List.mem_toArray,List.mem_map];grind);simp_all[Ec,ka]
 |buildSlice c F m=>
  have h1:partsOf cx M e m.toList=partsOf cx M e' m.toList:=A2 λo x=>b o.2 (by simp[Op.operands,List.mem_toArray,List.mem_map];grind);simp_all[qS,ka]
 |load c g=>have h1:=b g d0;simp_all[Mx,ka]
 |store c g a=>have h1:=b g d0;have h2:=b a d0;simp_all[Hh,ka]
 |nilCheck a=>have h1:=b a d0;simp_all[uR,ka]
 |binOp f c a A N=>
  have h1:=b a d0;have h2:=b A d0;cases f<;>simp[ka,hEq,SN,h1,h2]
 |unOp f c a=>have h1:=b a d0;simp_all[hUn,ka]
 |convert L B a=>have h1:=b a d0;simp_all[Qt,ka]
 |makeInterface c a=>have h1:=b a d0;simp_all[D9,ka]
 |makeFunc C g j=>
  have h1:tM cx M e j.toList=tM cx M e' j.toList:=EJ λa w=>b a (by simp[Op.operands,Array.mem_append];grind);simp_all[Hl,ka]
 |makeSlice c z d=>have h1:=b z d0;have h2:=b d d0;simp_all[sx,ka]
 |slice c a r q t=>
  have h1:=b a d0;have h2:kQ cx M e r=kQ cx M e' r:=ye λl k=>b l (by subst k;simp[Op.operands]);have p:kQ cx M e q=kQ cx M e' q:=ye λl k=>b l (by subst k;simp[Op.operands]);have E:kQ cx M e t=kQ cx M e' t:=ye λl k=>b l (by subst k;simp[Op.operands]);simp_all[Hi,ka]
 |fieldAddr c a n=>have h1:=b a d0;simp_all[sI,ka]
 |field c a n=>have h1:=b a d0;simp_all[Eb,ka]
 |indexAddr c a i=>have h1:=b a d0;have h2:=b i d0;simp_all[sH,ka]
 |index c a i=>have h1:=b a d0;have h2:=b i d0;simp_all[D8,ka]
 |extract a i=>have h1:=b a d0;simp_all[xJ,ka]
 |makeMap c K=>rfl
 |lookup c a i I=>have h1:=b a d0;have h2:=b i d0;simp_all[wA,ka]
 |mapUpdate c s y a=>
  have h1:=b s d0;have h2:=b y d0;have p:=b a d0;simp_all[qG,ka]
 |range=>rfl
 |next=>rfl
 |entry=>rfl
 |_=>first|rfl|grind
def zR{c:Op}(b:∀a∈c.operands,iG cx M e a=iG cx M e' a):jd cx M e h c=jd cx M e' h c:=by
 cases c with
 |load d a=>have h1:=b a d0;grind [jd]
 |indexAddr d a f=>have h1:=b a d0;grind [jd]
 |slice d a j i k=>have h1:=b a d0;grind [jd]
 |convert m g a=>have h1:=b a d0;grind [jd]
 |lookup d a f l=>have h1:=b a d0;grind [jd]
 |_=>rfl
def ku(h1 h2:H)(c d:aa ni):Prop:=∀b a,c=be b a->a=h1/\d=be b h2
theorem ku.none:ku h1 h2 none none:=λ_ _ a=>by grind
theorem ku.val{a:aa T}:ku h1 h2 (val h1 a) (val h2 a):=λd c b=>by
 obtain⟨rfl,rfl⟩:=iM.1 b;exact⟨rfl,iM.2 ⟨rfl,rfl⟩⟩
def ku.some{a:T}:ku h1 h2 (be a h1) (be a h2):=λa b c=>by
 grind
theorem ku.Z{f:Type}{a:aa f}{c d:f->aa ni}(g:∀b,a=Option.some b->ku h1 h2 (c b) (d b)):ku h1 h2 (Z a c) (Z a d):=by rcases a with _|b;exact ku.none;simp_all
theorem ku.iT{a:Bool}{b c:aa ni}(d:ku h1 h2 b c):ku h1 h2 (iT a b) (iT a c):=by cases a;exact ku.none;exact d
def ku.bool{a:Bool}{b d c f:aa ni}(g:ku h1 h2 b c)(i:ku h1 h2 d f):ku h1 h2 (Bool.casesOn a b d) (Bool.casesOn a c f):=by cases a<;>assumption
def Rh(b:Nat->T):Prop:=(∀a,b a= .eZ a 0 0 0)\/(∃c,∀a,b a= .arr a 0 0 c false)\/(∀a,b a= .iter a)\/(∀a,b a= .map a)
def Mk(h1 h2:H)(f g:aa ni):Prop:=∀c b,f=be c b->∃a d,Rh a/\c=a h1.size/\b=h1.cons d/\g=be (a h2.size) (h2.cons d)
theorem Mk.none:Mk h1 h2 none none:=λ_ _ a=>by grind
def Mk.new{f:Nat->T}{c:jI}(d:Rh f):Mk h1 h2 (km (h1.new f c)) (km (h2.new f c)):=λi g a=>by
 rw[kl,H.mL]at a;simp[ay,aI]at a;obtain⟨rfl,rfl⟩:=a;exact⟨f,c,d,rfl,rfl,by rw[kl,H.mL]⟩
theorem Mk.Z{f:Type}{a:aa f}{c d:f->aa ni}(g:∀b,a=Option.some b->Mk h1 h2 (c b) (d b)):Mk h1 h2 (Z a c) (Z a d):=by rcases a with _|b;exact Mk.none;simp_all
theorem Mk.iT{a:Bool}{b c:aa ni}(d:Mk h1 h2 b c):Mk h1 h2 (iT a b) (iT a c):=by cases a;exact Mk.none;exact d
def VA{a:ab}:Mk h1 h2 (ka (.alloc a) cx M e h1) (ka (.alloc a) cx M e h2):=by simp[ka,Ho];refine Mk.Z λb _=>?_;cases AJ cx b<;>exact Mk.new (.inl λ_=>rfl)
def acm{a:ab}{b:ah}:Mk h1 h2 (ka (.box a b) cx M e h1) (ka (.box a b) cx M e h2):=by simp[ka,SK];exact Mk.Z λc _=>Mk.iT (Mk.new (.inl λ_=>rfl))
def Il{c:ab}{b:Nat}{a:af (Nat×ah)}:Mk h1 h2 (ka (.buildSlice c b a) cx M e h1) (ka (.buildSlice c b a) cx M e h2):=by
 simp[ka,qS];refine Mk.Z λd _=>?_;cases d.u<;>first
  |exact Mk.none
  |exact Mk.Z λg _=>Mk.Z λa _=>Mk.iT (Mk.iT (Mk.Z λf _=>Mk.new (.inr (.inl ⟨_,λ_=>rfl⟩))))
def J7{c:ab}{b a:ah}:Mk h1 h2 (ka (.makeSlice c b a) cx M e h1) (ka (.makeSlice c b a) cx M e h2):=by
 simp[ka,sx];refine Mk.Z λd _=>?_;cases d.u<;>first
  |exact Mk.none
  |exact Mk.Z λf _=>Mk.Z λ_ _=>Mk.Z λ_ _=>Mk.Z λ_ _=>Mk.Z λ_ _=>Mk.iT (Mk.iT (Mk.iT (Mk.iT (Mk.new (.inr (.inl ⟨_,λ_=>rfl⟩))))))
def Ot{b:ab}{a:aa ah}:Mk h1 h2 (ka (.makeMap b a) cx M e h1) (ka (.makeMap b a) cx M e h2):=by
 simp[ka,xI];rcases a with _|d
 refine Mk.Z λc _=>?_;cases c.u<;>first
  |exact Mk.none
  |exact Mk.new (.inr (.inr (.inr λ_=>rfl)))
 exact Mk.none
def Sz{f:Ty}{c g:T}(hl:∀a,fa c=D a->a<h1.size->h2.get a=h1.get a)(b:h1.load f c=D g):h2.load f c=D g:=by
 cases c with
 |eZ a j k m=>
  have b:(Z (h1.elem a j k) λe=>Z (kZ m e.cells) λi=>lj f i)=D g:=b;show(Z (h2.elem a j k) λe=>Z (kZ m e.cells) λi=>lj f i)=D g;obtain⟨n,l,b⟩:=ed.1 b;have o:h2.elem a j k=D n:=by
   have d:=l;unfold H.elem at d|-;obtain⟨q,p,_⟩:=ed.1 d;rw[hl a rfl (H.fN p)];exact l
  rw[o];exact b
 |_=>exact b
def Iq{g:Ty}{j:T}{b:Nat}(hl:∀a,fa j=D a->a<h1.size->h2.get a=h1.get a):ku h1 h2 (my h1 g j b) (my h2 g j b):=by
 cases j with
 |em s m=>exact ku.Z λ_ _=>ku.iT ku.some
 |arr a d l k m=>
  intro o n f;have q:=f;have f:iT (au b k) (Z (h1.get a) λc=>iT (aq c.sz g.size)<|iT (aq c.ep d) (Z (iZ (Nat.add l b)) λi=>some (ni.val (.eZ a d i 0) h1)))=be o n:=f;have⟨_,f⟩:=fh.1 f;have⟨j,r,_⟩:=ed.1 f;have p:=hl a rfl (H.fN r);have:my h2 g (.arr a d l k m) b=iT (au b k) (Z (h1.get a) λc=>iT (aq c.sz g.size)<|iT (aq c.ep d) (Z (iZ (Nat.add l b)) λi=>some (ni.val (.eZ a d i 0) h2))):=by
   rw[<-p];rfl
  rw[this];exact(ku.iT (ku.Z λ_ _=>ku.iT (ku.iT (ku.Z λ_ _=>ku.some))):ku h1 h2 (iT (au b k) (Z (h1.get a) λc=>iT (aq c.sz g.size)<|iT (aq c.ep d) (Z (iZ (Nat.add l b)) λi=>some (ni.val (.eZ a d i 0) h1)))) _) o n q
 |_=>exact ku.none
theorem Ir{f:Nat}{g:Ty}{b:T}{d:Nat}(hl:∀a,fa b=D a->a<h1.size->h2.get a=h1.get a):ku h1 h2 (pB h1 f g b d) (pB h2 f g b d):=by
 unfold pB;refine ku.iT ?_;cases b<;>first
  |exact ku.none
  |exact ku.Z λ_ _=>ku.some
  |skip
 rename_i a k m n;simp only;rcases c:h1.get a with _|j
 intro o l i;simp at i;rw[hl a rfl (H.fN c),c];simp[fj,ku.some,ku.iT,ku.bool]
def OD{b:T}{f:List T}(hl:∀a,fa b=D a->a<h1.size->h2.get a=h1.get a)(c:h1.jQ b=D f):h2.jQ b=D f:=by
 cases b with
 |arr a j m l k=>
  have d:=c;unfold H.jQ at d|-
  dsimp at d|-
  have⟨i,g,_⟩:=ed.1 d;rw[hl a rfl (H.fN g)];exact c
 |_=>exact c
def Kv{b:T}{f:List T}(hl:∀a,fa b=D a->a<h1.size->h2.get a=h1.get a)(c:h1.entries b=D f):h2.entries b=D f:=by
 cases b with
 |map a=>
  have d:=c;unfold H.entries at d|-
  dsimp at d|-
  have⟨i,g,_⟩:=ed.1 d;rw[hl a rfl (H.fN g)];exact c
 |_=>exact c
def F3{g:U}{f:T}(hl:∀b,fa f=D b->b<h1.size->h2.get b=h1.get b)(a:jy cx h1 g f):jy cx h2 g f=true:=by
 cases g with
 |slice e=>
  unfold jy at a|-
  dsimp at a|-
  rcases d:cx.ty e with _|k;rw[d]at a;exact a;rw[d]at a;cases f with
  |arr b j q o l=>
   dsimp at a|-
   rcases c:h1.get b with _|i;rw[c]at a;grind;rw[hl b rfl (H.fN c),c];rw[c]at a;exact a
  |_=>exact a
 |array p e=>
  unfold jy at a|-
  dsimp at a|-
  rcases d:cx.ty e with _|k;rw[d]at a;exact a;rw[d]at a;cases f with
  |eZ b j m n=>
   dsimp at a|-
   rcases c:h1.get b with _|i;rw[c]at a;grind;rw[hl b rfl (H.fN c),c];rw[c]at a;exact a
  |_=>exact a
 |_=>exact a
def LA{m:Op}(av:jt m=false)(hl:∀f,jd cx M e h1 m=D f->f<h1.size->h2.get f=h1.get f){c:T}{g:H}(b:ka m cx M e h1=be c g):
 (g=h1/\ka m cx M e h2=be c h2)\/
 (∃q a,Rh q/\jd cx M e h1 m=D h1.size/\c=q h1.size/\g=h1.cons a/\ka m cx M e h2=be (q h2.size) (h2.cons a)):=by
 have I:Mk h1 h2 (ka m cx M e h1) (ka m cx M e h2)->jd cx M e h1 m=D h1.size->(g=h1/\ka m cx M e h2=be c h2)\/
  (∃q a,Rh q/\jd cx M e h1 m=D h1.size/\c=q h1.size/\g=h1.cons a/\ka m cx M e h2=be (q h2.size) (h2.cons a)):=λY x=>by
  obtain⟨q,a,X,bs,bH,bN⟩:=Y c g b
  grind
 by_cases W:∃y,m= .call y
 .obtain⟨y,rfl⟩:=W;left;have:ku h1 h2 (ka (.call y) cx M e h1) (ka (.call y) cx M e h2):=by
   simp only[ka,Hn];refine ku.Z λU _=>?_;cases ap:y.callee with
   |invoke a Y=>exact ku.none
   |value q=>grind [jt]
   |builtin f=>
    cases f<;>simp[jt,ap]at av<;>simp only[ng]
    case len=>
     match U with
     | []=>exact ku.none
     | [a]=>
      simp only[Td];refine ku.Z λ_ _=>ku.Z λj _=>?_;cases j.u<;>first
       |exact ku.none
       |exact ku.val
       |(cases a<;>first|exact ku.none|exact ku.val)
     |_::_::_=>exact ku.none
    all_goals
     match U with
     | []=>exact ku.none
     | [a]=>exact ku.none
     | [a,S]=>exact ku.val
     |_::_::_::_=>exact ku.none
  exact this c g b
 cases m with
 |alloc d=>exact I VA rfl
 |box d a=>exact I acm rfl
 |buildSlice d n Q=>exact I Il rfl
 |makeSlice d l y=>exact I J7 rfl
 |range=>grind [jt]
 |entry=>grind [jt]
 |store=>grind [jt]
 |next=>grind [jt]
 |load d i=>
  left;have b:(Z (cx.ty d) λj=>Z (iG cx M e i) λi=>val h1 (h1.load j i))=be c g:=b;replace b:=ed.1 b;obtain⟨j,O,b⟩:=b;replace b:=ed.1 b;obtain⟨s,t,b⟩:=b;obtain⟨C,rfl⟩:=iM.1 b;refine⟨rfl,?_⟩;show(Z (cx.ty d) λj=>Z (iG cx M e i) λi=>val h2 (h2.load j i))=be c h2;rw[O,t];exact iM.2 ⟨Sz (λf x z=>hl f (by show Z (iG cx M e i) fa=D f;rw[t];exact x) z) C,rfl⟩
 |indexAddr d a B=>
  left;have bu:∀s,iG cx M e a=D s->∀f,fa s=D f->f<h1.size->h2.get f=h1.get f:=λs t f x z=>
   hl f (by show Z (iG cx M e a) fa=D f;rw[t];exact x) z
  have:ku h1 h2 (ka (.indexAddr d a B) cx M e h1) (ka (.indexAddr d a B) cx M e h2):=by
   simp only[ka,sH];refine ku.Z λj _=>ku.Z λs t=>ku.Z λ_ _=>ku.Z λP _=>?_;cases j.u<;>first
    |exact ku.none
    |exact ku.Z λR _=>Iq (bu s t)
    |grind [Ir,ku.Z]
  exact this c g b
 |slice d a w o p=>
  left;have b:(Z (cx.ty d) λj=>Z (iG cx M e a) λa=>iT (jy cx h1 j.u a)<|Z (kQ cx M e w) λw=>Z (kQ cx M e o) λo=>Z (kQ cx M e p) λp=>
   iT (zO o p) (val h1 (sh (asSlice j.u a) w o p)))=be c g:=b
  replace b:=ed.1 b;obtain⟨j,O,b⟩:=b;replace b:=ed.1 b;obtain⟨s,t,b⟩:=b;obtain⟨aA,b⟩:=fh.1 b;have bC:jy cx h2 j.u s:=F3 (λf x z=>hl f (by show Z (iG cx M e a) fa=D f;rw[t];exact x) z) aA;have:ku h1 h2 (Z (kQ cx M e w) λw=>Z (kQ cx M e o) λo=>Z (kQ cx M e p) λp=>iT (zO o p) (val h1 (sh (asSlice j.u s) w o p)))
   (Z (kQ cx M e w) λw=>Z (kQ cx M e o) λo=>Z (kQ cx M e p) λp=>iT (zO o p) (val h2 (sh (asSlice j.u s) w o p))):=
   ku.Z λ_ _=>ku.Z λ_ _=>ku.Z λ_ _=>ku.iT ku.val
  obtain⟨X,bs⟩:=this c g b;refine⟨X,?_⟩;show(Z (cx.ty d) λj=>Z (iG cx M e a) λa=>iT (jy cx h2 j.u a)<|Z (kQ cx M e w) λw=>Z (kQ cx M e o) λo=>Z (kQ cx M e p) λp=>
   iT (zO o p) (val h2 (sh (asSlice j.u a) w o p)))=be c h2
  rw[O,t];simp_all
 |binOp m d a S F=>
  left;have:ku h1 h2 (ka (.binOp m d a S F) cx M e h1) (ka (.binOp m d a S F) cx M e h2):=by
   cases m<;>simp only[ka,hEq,SN]<;>first
    |exact ku.Z λ_ _=>ku.Z λ_ _=>ku.Z λ_ _=>ku.iT (ku.Z λ_ _=>ku.val)
    |exact ku.Z λ_ _=>ku.Z λ_ _=>ku.val
  exact this c g b
 |move a=>left;exact(show ku h1 h2 (ka (.move a) cx M e h1) (ka (.move a) cx M e h2)from ku.val) c g b
 |assign a=>left;exact(show ku h1 h2 (ka (.assign a) cx M e h1) (ka (.assign a) cx M e h2)from ku.val) c g b
 |pick y i f=>
  left;have:ku h1 h2 (ka (.pick y i f) cx M e h1) (ka (.pick y i f) cx M e h2):=by
   simp only[ka,Jb];refine ku.Z λc _=>?_;cases c<;>first|exact ku.none|simp[ku.val,ku.bool]
  exact this c g b
 |build d Q=>
  left;have:ku h1 h2 (ka (.build d Q) cx M e h1) (ka (.build d Q) cx M e h2):=by
   simp only[ka,Ec];refine ku.Z λj _=>ku.Z λ_ _=>?_;cases j.u<;>first|exact ku.none|exact ku.Z λ_ _=>ku.val|simp[ku.val,ku.Z]
  exact this c g b
 |nilCheck a=>
  left;have:ku h1 h2 (ka (.nilCheck a) cx M e h1) (ka (.nilCheck a) cx M e h2):=by
   simp only[ka,uR];refine ku.Z λc _=>?_;cases c<;>first|exact ku.none|exact ku.some
  exact this c g b
 |unOp m d a=>left;exact(show ku h1 h2 (ka (.unOp m d a) cx M e h1) (ka (.unOp m d a) cx M e h2)from ku.Z λ_ _=>ku.val) c g b
 |convert E A a=>
  left;have b:(Z (cx.ty E) λ_=>Z (iG cx M e a) λi=>Z (cx.ty A) λK=>match K.u with
   | .slice _=>val h1 (HR cx A i)
   | .str=>(match i with
    | .str _=>val h1 (conv cx A i)
    |_=>val h1 (Ie cx h1 E i))
   |_=>val h1 (conv cx A i))=be c g:=b
  show g=h1/\(Z (cx.ty E) λ_=>Z (iG cx M e a) λi=>Z (cx.ty A) λK=>match K.u with
   | .slice _=>val h2 (HR cx A i)
   | .str=>(match i with
    | .str _=>val h2 (conv cx A i)
    |_=>val h2 (Ie cx h2 E i))
   |_=>val h2 (conv cx A i))=be c h2
  obtain⟨bT,a8,b⟩:=ed.1 b;obtain⟨s,t,b⟩:=ed.1 b;obtain⟨bA,aX,b⟩:=ed.1 b;rw[a8,t,aX];simp only[fj];have aE:∀{F:T},Ie cx h1 E s=D F->Ie cx h2 E s=D F:=by
   intro F v;unfold Ie at v|-;obtain⟨t2,aN,v⟩:=ed.1 v;rw[aN];simp only[fj];cases bn:t2.u<;>rw[bn]at v<;>simp only[reduceCtorEq]at v|-;obtain⟨R,a7,v⟩:=ed.1 v;rw[a7];simp only[fj];cases bp:R.u<;>rw[bp]at v<;>simp only[reduceCtorEq]at v|-;obtain⟨an,v⟩:=fh.1 v;rw[an,iO];obtain⟨al,N,v⟩:=ed.1 v;rw[OD (λf x z=>hl f (by show Z (iG cx M e a) fa=D f;rw[t];exact x) z) N];exact v
  cases bi:bA.u<;>rw[bi]at b<;>simp only at b|-
  case str=>
   cases s<;>simp only at b|- <;>(obtain⟨C,rfl⟩:=iM.1 b)<;>first
    |exact⟨rfl,iM.2 ⟨aE C,rfl⟩⟩
    |exact⟨rfl,iM.2 ⟨C,rfl⟩⟩
  all_goals
   obtain⟨C,rfl⟩:=iM.1 b;exact⟨rfl,iM.2 ⟨C,rfl⟩⟩
 |lookup d a B ae=>
  left;have:ku h1 h2 (ka (.lookup d a B ae) cx M e h1) (ka (.lookup d a B ae) cx M e h2):=by
   simp only[ka,wA];refine ku.Z λj _=>?_;cases j.u<;>first
    |exact ku.none
    |skip
   refine ku.Z λbS _=>ku.Z λR _=>ku.Z λs t=>ku.Z λk _=>ku.iT ?_;intro c g b;obtain⟨al,N,b⟩:=ed.1 b;rw[Kv (h2:=h2) (λf x z=>hl f (by show Z (iG cx M e a) fa=D f;rw[t];exact x) z) N];exact(ku.Z λ_ _=>ku.bool ku.val ku.none:ku h1 h2 _ _) c g b
  exact this c g b
 |makeMap d r=>exact I Ot rfl
 |mapUpdate=>grind [jt]
 |makeInterface d a=>
  left;have:ku h1 h2 (ka (.makeInterface d a) cx M e h1) (ka (.makeInterface d a) cx M e h2):=by
   simp only[ka,D9];refine ku.Z λj _=>?_;cases j.u<;>first|exact ku.none|exact ku.Z λ_ _=>ku.iT ku.val
  exact this c g b
 |makeFunc L i f=>
  left;have:ku h1 h2 (ka (.makeFunc L i f) cx M e h1) (ka (.makeFunc L i f) cx M e h2):=by
   simp only[ka,Hl];cases L<;>first
    |exact ku.none
    |(cases i.toList<;>first|exact ku.none|simp[ku.val,ku.Z])
  exact this c g b
 |fieldAddr d a q=>
  left;have:ku h1 h2 (ka (.fieldAddr d a q) cx M e h1) (ka (.fieldAddr d a q) cx M e h2):=by
   simp only[ka,sI];refine ku.Z λ_ _=>ku.Z λc _=>?_;cases c<;>first|exact ku.none|exact ku.Z λ_ _=>ku.some
  exact this c g b
 |field d a q=>
  left;have:ku h1 h2 (ka (.field d a q) cx M e h1) (ka (.field d a q) cx M e h2):=by
   simp only[ka,Eb];refine ku.Z λ_ _=>ku.Z λ_ _=>ku.Z λc _=>?_;cases c<;>first|exact ku.none|simp[ku.val,ku.Z]
  exact this c g b
 |index d a B=>
  left;have:ku h1 h2 (ka (.index d a B) cx M e h1) (ka (.index d a B) cx M e h2):=by
   simp only[ka,D8];refine ku.Z λj _=>ku.Z λc _=>ku.Z λ_ _=>ku.Z λ_ _=>?_;cases j.u<;>first
    |exact ku.none
    |(cases c<;>first|exact ku.none|exact ku.Z λ_ _=>ku.val|grind [ku.val,ku.Z,ku.iT])
  exact this c g b
 |extract a P=>
  left;have:ku h1 h2 (ka (.extract a P) cx M e h1) (ka (.extract a P) cx M e h2):=by
   simp only[ka,xJ];refine ku.Z λc _=>?_;cases c<;>first|exact ku.none|exact ku.val
  exact this c g b
 |_=>first|exact(W ⟨_,rfl⟩).elim|exact absurd b (by simp[ka])
end
end
section
def M8{c:List Nat}{b:List Edge}{d:Nat}(h:(AP c b).testBit d):
 ∃a∈b,Region.binds .any a/\(d=a.on\/(c.getD a.on 0).testBit d=true):=by
 induction b with
 |nil=>grind [AP]
 |cons a b f=>
  have h:(@Bool.rec (λ_=>Nat) (AP c b) ((AP c b)|||((1<<<a.on)|||(c.getD a.on 0))) (Region.binds .any a)).testBit d:=h;cases e:Region.binds .any a;rw[e]at h
  grind
  rw[e]at h;simp only[Nat.testBit_or,cj]at h;rcases h with h|h|h
  grind
  refine⟨a,V,e,.inl ?_⟩;rw[Nat.one_shiftLeft,Nat.testBit_two_pow]at h
  grind
  grind
structure Cl(ops:af Oper)(listed:af Bool):Prop where
 size:listed.size=ops.size
 closed:∀j oj,ops[j]? =D oj->listed.getD j false->∀e∈oj.after,Region.binds .any e->listed.getD e.on false
theorem Zu{ops:af Oper}{g:af Bool}(q:Cl ops g):∀(k:List Oper) (d:List Nat),(∀n:Nat,k[n]? =ops[d.length+n]?)->
 (∀(b c:Nat),d[b]? =D c->∀f,c.testBit f->∀i,ops[b]? =D i->(∀a∈i.after,Region.binds .any a->g.getD a.on false=true)->g.getD f false=true)->
 ∀(b c:Nat),(Po k d)[b]? =D c->∀f,c.testBit f->∀i,ops[b]? =D i->(∀a∈i.after,Region.binds .any a->g.getD a.on false=true)->g.getD f false=true:=by
 intro k;induction k with
 |nil=>intro d _ l b c e;exact l b c e
 |cons i k B=>
  intro d hl l;refine B (d++[AP d i.after.toList]) (λn=>?_) ?_;have:=hl (n+1);simp[dI]at this;rw[this];congr 1;simp;omega;intro b c e f u C m s;by_cases v:b<d.length;rw[cH v]at e;exact l b c e f u C m s;rw[cZ G]at e;have z:b=d.length:=by
   rcases Nat.eq_or_lt_of_le (Nat.le_of_not_lt v)with h|h;exact h.symm;rw[bY dP]at e;simp at e
  subst z;simp at e;subst e;have r:=hl 0;simp at r;rw[<-r]at m;simp at m;subst m;have⟨a,x,w,j⟩:=M8 u;have o:=s a (iD x) w;rcases j with rfl|j
  exact o;have y:a.on<g.size:=by
   rcases aW a.on g.size with h|h;exact h;simp[Array.getElem?_eq_none h]at o
  have A:a.on<ops.size:=q.size▸y;have t:ops[a.on]? =D ops[a.on]:=by simp[A]
  rcases p:d[a.on]? with _|c;rw[dy,p]at j;simp at j;rw[dy,p]at j;exact l a.on c p f j ops[a.on] t (q.closed a.on _ t o)
def GG{ops:af Oper}{a:af Bool}(g:Cl ops a){d e:Nat}{f:Oper}(c:kL ops d e)(i:ops[e]? =D f)
 (h:∀b∈f.after,Region.binds .any b->a.getD b.on false):a.getD d false=true:=by
 unfold kL at c;rw[dy]at c
 grind [Zu,Po]
def rH:Op->Bool
 | .store .. =>true
 |_=>false
def rN(ops:af Oper):Bool:=
 let e:=Po ops.toList []
 let d:=ops.toList.zipIdx
 d.all λa=>(a.1.after.toList.all λc=> !Region.binds .any c||au c.on a.2)&&
  d.all λb=> !au b.2 a.2||(b.1.apart ops a.1&&(!(jt b.1.op&&jt a.1.op)||(rH b.1.op&&rH a.1.op)))||(e.getD a.2 0).testBit b.2
def mem_zipIdx{ops:af Oper}{a:Nat}{b:Oper}(c:ops[a]? =D b):(b,a)∈ops.toList.zipIdx:=by rw[dH];exact⟨a,by simp[c]⟩
def O7{ops:af Oper}(e:rN ops){b:Nat}{c:Oper}(f:ops[b]? =D c):∀a∈c.after,Region.binds .any a->a.on<b:=by intro a i h;unfold rN at e;have d:=List.all_eq_true.1 e (c,b) (mem_zipIdx f);simp only[aC]at d;have g:=List.all_eq_true.1 d.1 a c5;simp_all
def MM{ops:af Oper}(f:rN ops){a b:Nat}{c d:Oper}(h:ops[a]? =D c)(i:ops[b]? =D d)(k:a<b):
 (c.apart ops d/\(jt c.op->jt d.op->rH c.op/\rH d.op=true))\/kL ops a b=true:=by
 unfold rN at f;have e:=List.all_eq_true.1 f (d,b) (mem_zipIdx i);simp only[aC]at e;have h2:=List.all_eq_true.1 e.2 (c,a) (mem_zipIdx h);have g:au a b:=by rw[aP];omega
 simp only[g,Bool.not_true,Bool.false_or,cj,aC,cK,Bool.and_eq_false_iff]at h2;rcases h2 with⟨h2,j⟩|h2
 grind
 right;exact h2
section
variable {cx:Ctx}{cf:jU}{M:Nat}{ops:af Oper}
def rZ(M:Nat)(ops:af Oper)(c:Nat->Env)(b:Nat):Prop:=∃a,ops[b]? =D a/\jt a.op/\md ops M (c b) a.guard=D true
def Bh(cx:Ctx)(M:Nat)(ops:af Oper)(c:Nat->Env)(d:Nat->H)(a e:Nat):Prop:=
 ∃b,ops[a]? =D b/\jt b.op=false/\md ops M (c a) b.guard=D true/\jd cx M (c a) (d a) b.op=D e
def StW(cx:Ctx)(M:Nat)(ops:af Oper)(c:Nat->Env)(a e:Nat):Prop:=
 ∃b f d g,ops[a]? =D b/\b.op= .store f d g/\md ops M (c a) b.guard=D true/\Z (iG cx M (c a) d) fa=D e
structure Trace(cx:Ctx)(cf:jU)(M:Nat)(ops:af Oper)(E:Nat->Env)(Hs:Nat->H):Prop where
 step:∀k o,ops[k]? =D o->nj cx cf M ops (E k) (Hs k) o=D (E (k+1),Hs (k+1))
 ahead:∀k k' b,Bh cx M ops E Hs k b->rZ M ops E k'->k<k'->gJ (Hs k') (Hs (k'+1)) b\/kL ops k k'
 behind:∀k k' b,Bh cx M ops E Hs k b->rZ M ops E k'->k'<k->gJ (Hs k') (Hs (k'+1)) b\/kL ops k' k
 both:∀k k' b,StW cx M ops E k b->rZ M ops E k'->k'<k->gJ (Hs k') (Hs (k'+1)) b\/kL ops k' k
def BT{a b:Bool}(c: @Bool.rec (λ_=>Bool) b true a):a\/b=true:=by cases a<;>simp_all
def Cb{e:Oper}{k:List Oper}{c:Nat}{d:Seen}{g n:Env}{a o:H}(b:lf cx cf M ops (e::k) c d g a=D (n,o)):
 ∃h f j,nj cx cf M ops g a e=D (h,f)/\md ops M g e.guard=D j/\
  ∃m,lf cx cf M ops k (c+1) m h f=D (n,o)/\(∀l∈d.oG,l∈m.oG)/\(∀l∈d.mQ,l∈m.mQ)/\
   (j->jt e.op->Ba ops c a f d.oG/\(c,a,f)∈m.mQ/\uD cx M ops c g d.mQ e.op=true)/\
   (j->jt e.op=false->∀i,jd cx M g a e.op=D i->qF ops c i d.mQ/\(c,i)∈m.oG):=by
 have b:(Z (nj cx cf M ops g a e) λl=>two l λh f=>
  Z (md ops M g e.guard) λj=> @Bool.rec (λ_=>aa (Env×H)) (lf cx cf M ops k (c+1) d h f)
   (@Bool.rec (λ_=>aa (Env×H))
     (@Option.rec Nat (λ_=>aa (Env×H)) (lf cx cf M ops k (c+1) d h f)
       (λi=>iT (qF ops c i d.mQ) (lf cx cf M ops k (c+1) ⟨(c,i)::d.oG,d.mQ⟩ h f)) (jd cx M g a e.op))
     (iT (Ba ops c a f d.oG) (iT (uD cx M ops c g d.mQ e.op) (lf cx cf M ops k (c+1) ⟨d.oG,(c,a,f)::d.mQ⟩ h f))) (jt e.op)) j)=D (n,o):=b
 obtain⟨⟨h,f⟩,r,b⟩:=ed.1 b;simp[m6]at b;obtain⟨j,s,b⟩:=ed.1 b;refine⟨h,f,j,r,s,?_⟩;cases j
 grind
 cases q:jt e.op;rw[q]at b;rcases p:jd cx M g a e.op with _|i
 rw[p]at b;exact⟨d,b,λ_ a=>a,λ_ a=>a,λ_ a=>by grind,λ_ _ i a=>by grind⟩;rw[p]at b
 grind [fh,ay]
 rw[q]at b
 grind [fh]
def Ig:∀(C:List Oper) (c:Nat) (s:Seen) (t E:Env) (o F:H),(∀O,C[O]? =ops[c+O]?)->lf cx cf M ops C c s t o=D (E,F)->
 ∃(h:Nat->Env) (i:Nat->H),h c=t/\i c=o/\h (c+C.length)=E/\i (c+C.length)=F/\
  (∀a f,c<=a->ops[a]? =D f->nj cx cf M ops (h a) (i a) f=D (h (a+1),i (a+1)))/\
  (∀a b,c<=a->Bh cx M ops h i a b->∀g∈s.mQ,gJ g.2.1 g.2.2 b\/kL ops g.1 a=true)/\
  (∀a,c<=a->rZ M ops h a->∀g∈s.oG,gJ (i a) (i (a+1)) g.2\/kL ops g.1 a=true)/\
  (∀a d b,c<=a->Bh cx M ops h i a b->rZ M ops h d->a<d->gJ (i d) (i (d+1)) b\/kL ops a d=true)/\
  (∀a d b,c<=d->Bh cx M ops h i a b->rZ M ops h d->d<a->gJ (i d) (i (d+1)) b\/kL ops d a=true)/\
  (∀a b,c<=a->StW cx M ops h a b->∀g∈s.mQ,gJ g.2.1 g.2.2 b\/kL ops g.1 a=true)/\
  (∀a d b,c<=d->StW cx M ops h a b->rZ M ops h d->d<a->gJ (i d) (i (d+1)) b\/kL ops d a=true):=by
 intro C;induction C with
 |nil=>
  intro c s t E o F hl I;have I:some (t,o)=D (E,F):=I;simp[ay,aI]at I;obtain⟨rfl,rfl⟩:=I;have A:∀a f,c<=a->ops[a]? =D f->False:=λa f e m=>by
   have:=hl (a-c);rw[show c+(a-c)=a by omega,m]at this;simp at this
  refine⟨λ_=>t,λ_=>o,rfl,rfl,rfl,rfl,λa f e m=>(A a f e m).elim,?_,?_,?_,?_,?_,?_⟩;rintro a b e ⟨f,m,_⟩;exact(A a f e m).elim;rintro a e ⟨f,m,_⟩;exact(A a f e m).elim;rintro a d b e ⟨f,m,_⟩;exact(A a f e m).elim;rintro a d b e _ ⟨f,m,_⟩;exact(A d f e m).elim;rintro a b e ⟨f,_,_,_,m,_⟩;exact(A a f e m).elim;rintro a d b e _ ⟨f,m,_⟩;exact(A d f e m).elim
 |cons f C bi=>
  intro c s t E o F hl I;have⟨ae,K,bX,a8,X,Y,a7,aE,aN,U,aX⟩:=Cb I;have Q:ops[c]? =D f:=by have:=hl 0;simpa using this.symm
  obtain⟨h,i,bn,bp,bs,bu,bA,ap,av,bC,bH,bS,bT⟩:=bi (c+1) Y ae E K F (λO=>by
   have:=hl (O+1);simp[dI]at this;rw[this];congr 1;omega) a7
  let n:Nat->Env:=λa=>if a=c then t else h a
  let u:Nat->H:=λa=>if a=c then o else i a
  have hE:∀a,a≠c->n a=h a:=λa e=>by simp[n,e]
  have p:∀a,a≠c->u a=i a:=λa e=>by simp[u,e]
  have y:n c=t:=by simp[n]
  have L:u c=o:=by simp[u]
  have aA:n (c+1)=ae:=by rw[hE _ G,bn]
  have T:u (c+1)=K:=by rw[p _ G,bp]
  have P:∀a,a≠c->rZ M ops n a->rZ M ops h a:=λa e=>by unfold rZ;rw[hE a e];exact id
  have R:∀a b,a≠c->Bh cx M ops n u a b->Bh cx M ops h i a b:=λa b e=>by unfold Bh;rw[hE a e,p a e];exact id
  have bW:∀a b,a≠c->StW cx M ops n a b->StW cx M ops h a b:=λa b e=>by unfold StW;rw[hE a e];exact id
  have bN:∀b,StW cx M ops n c b->qF ops c b s.mQ=true:=by
   rintro b ⟨S,O,x,v,k,q,l,N⟩;rw[Q]at k;cases k;rw[y,X]at l;rw[y]at N;simp[ay]at l;have:=(U l (by rw[q];rfl)).2.2;rw[q]at this;have this: @Option.rec Nat (λ_=>Bool) true (λb=>qF ops c b s.mQ) (Z (iG cx M t x) fa):=this;rw[N]at this;exact this
  have al:rZ M ops n c->Ba ops c o K s.oG/\(c,o,K)∈Y.mQ:=by
   rintro⟨S,k,q,l⟩;rw[Q]at k;cases k;rw[y,X]at l;simp[ay]at l;exact⟨(U l q).1,(U l q).2.1⟩
  have an:∀b,Bh cx M ops n u c b->qF ops c b s.mQ/\(c,b)∈Y.oG:=by
   rintro b ⟨S,k,q,l,N⟩;rw[Q]at k;cases k;rw[y,X]at l;rw[y,L]at N;simp[ay]at l;exact aX l q b N
  refine⟨n,u,y,L,?_,?_,?_,?_,?_,?_,?_,?_,?_⟩;rw[hE _ V,<-bs];congr 1;simp;omega;rw[p _ V,<-bu];congr 1;simp;omega;intro a S e k;by_cases j:a=c;subst j;rw[Q]at k;cases k;rw[y,L,aA,T];exact a8;rw[hE a j,p a j,hE (a+1) G,p (a+1) G];exact bA a S G k;intro a b e r g B;by_cases j:a=c;subst j;have⟨q,_⟩:=an b r;exact BT (uc q g B);exact ap a b G (R a b j r) g (aN g B);intro a e w g B;by_cases j:a=c;subst j;have⟨q,_⟩:=al w;rw[L,T];exact BT (uc q g B);rw[p a j,p (a+1) G];exact av a G (P a j w) g (aE g B);intro a d b e r w W;have z:d≠c:=G;rw[p d z,p (d+1) G];by_cases j:a=c;subst j;have⟨_,l⟩:=an b r;exact av d G (P d z w) (a,b) l;exact bC a d b G (R a b j r) (P d z w) W;intro a d b e r w W;have j:a≠c:=G;by_cases z:d=c;subst z;have⟨_,l⟩:=al w;rw[L,T];exact ap a b G (R a b j r) (d,o,K) l;rw[p d z,p (d+1) G];exact bH a d b G (R a b j r) (P d z w) W;intro a b e r g B;by_cases j:a=c;subst j;exact BT (uc (bN b r) g B)
  grind
  grind
def Iz(cx:Ctx)(cf:jU)(M:Nat)(c:Env)(a:H)(f:Op)(g:T)(e:H):Prop:=
 ka f cx M c a=be g e\/∃d b,ka f cx M c a=D (.call d b)/\cf d b a=D (g,e)
def pi{e b:Env}{g c:H}{f:Oper}(a:nj cx cf M ops e g f=D (b,c)):
 (md ops M e f.guard=D false/\e.dst M f.dst .undef=D b/\c=g)\/
 (md ops M e f.guard=D true/\∃d,Iz cx cf M e g f.op d c/\e.dst M f.dst d=D b):=by
 obtain⟨r,q,a⟩:=ed.1 a;cases r with
 |false=>
  left;have a:(Z (e.dst M f.dst .undef) λb=>some (b,g))=D (b,c):=a;replace a:=ed.1 a;grind
 |true=>
  right;refine⟨q,?_⟩;have a:(Z (ka f.op cx M e g) λj=> @ni.rec (λ_=>aa (Env×TI.H))
   (λd c=>Z (e.dst M f.dst d) λb=>some (b,c))
   (λi h=>Z (cf i h g) λl=>two l λd c=>Z (e.dst M f.dst d) λb=>some (b,c)) j)=D (b,c):=a
  obtain⟨j,n,a⟩:=ed.1 a;rcases j with⟨d,m⟩|⟨i,h⟩
  .skip
   have a:(Z (e.dst M f.dst d) λb=>some (b,m))=D (b,c):=a;obtain⟨o,k,a⟩:=ed.1 a;simp[ay,aI]at a;obtain⟨rfl,rfl⟩:=a;exact⟨d,.inl n,k⟩
  .skip
   have a:(Z (cf i h g) λl=>two l λd c=>Z (e.dst M f.dst d) λb=>some (b,c))=D (b,c):=a;obtain⟨⟨d,m⟩,p,a⟩:=ed.1 a;simp[m6]at a;obtain⟨o,k,a⟩:=ed.1 a;simp[ay,aI]at a;obtain⟨rfl,rfl⟩:=a;exact⟨d,.inr ⟨i,h,n,p⟩,k⟩
def Hz{P:ai}{h:Nat}{a:World}{g:Mu}{j:Env}{b c:H}{i:Act}{k:Oper}{f:T}(j9:jP P cx)(o:p9 P cx cf)
 (e:St cx h a.heap g b) (l:mh a.heap g M j i.tmps) (u:Iz cx cf M j b k.op f c):Dd P (ut cx h a g b f c) ((execOp i.eval k).run P a):=by
 rcases u with d|⟨p,m,d,s⟩;exact((Cy j9 e l d).ran).mono λv w r=>⟨r,Vz e.wf f c d⟩;have⟨_,n,q,t⟩:=LB (P:=P) e l d;rw[t];exact o p m b f c s h a g n e q
def Iz.congr{b e':Env}{c d:H}{a:Op}{f:T}(h:∀g∈a.operands,iG cx M b g=iG cx M e' g)(e:Iz cx cf M b c a f d):Iz cx cf M e' c a f d:=by
 unfold Iz at*
 rw[DR h]at e;exact e
def OG{b:Call}{d:Env}{f:H}{e:aj}{c:List T}(a:ka (.call b) cx M d f=D (.call e c)):jt (.call b)=true:=by have a:Hn b cx M d f=D (.call e c):=a;replace a:=ed.1 a;grind [jt,yM]
def MI{d:Env}{e f:H}{b:Op}{h:T}(l:jt b=false)(k:Iz cx cf M d e b h f):ka b cx M d e=be h f:=by rcases k with c|⟨j,i,c,_⟩;omega;by_cases g:∃a,b= .call a;obtain⟨a,rfl⟩:=g;rw[OG c]at l;grind;exact absurd c (GW (λa m=>g ⟨a,m⟩) j i)
def EF(M:Nat)(a:Env):List Nat->iP
 | []=> .nil
 |s::b=>match a.get M s with
  |some c=> .cons s c (EF M a b)
  |none=>EF M a b
def Oy{b:Env}{c:Nat}:∀(a:List Nat),Y (EF M b a) c=if c∈a then b.get M c else none:=by
 intro a;induction a with
 |nil=>rfl
 |cons e a d=>
  unfold EF;rcases f:b.get M e with _|g
  grind
  simp[pO,d,cz]
  grind
def Gm(M:Nat)(a:Env)(b:List Nat):Env:=⟨EF M a b,EF M a b⟩
def Cp{b:Env}{a:Nat}{c:List Nat}:(Gm M b c).get M a=if a∈c then b.get M a else none:=by show @Bool.rec (λ_=>aa T) (Y (EF M b c) a) (Y (EF M b c) a) (lL M a)=_;rw[Oy];cases lL M a<;>rfl
def DQ{a:Env}{c:Oper}{b:ah}(h:b∈c.op.operands):iG cx M a b=iG cx M (Gm M a (c.looksAt ops)) b:=by
 cases b with
 |tmp d=>
  show a.get M d=(Gm M a (c.looksAt ops)).get M d;rw[Cp,ax];unfold Oper.looksAt;exact dz _ (List.mem_filterMap.2 ⟨.tmp d,by grind,rfl⟩)
 |const e=>rfl
 |global g=>rfl
 |func f=>rfl
def Nu{c:Env}{a:Oper}:md ops M (Gm M c (a.looksAt ops)) a.guard=md ops M c a.guard:=by
 rcases i:a.guard with _|f;rfl;obtain⟨d,k⟩:=f;show(Z (Z (Z (oS ops.toList d) λa=>a.dst) λb=>(Gm M c (a.looksAt ops)).get M b) λh=>_)=(Z (Z (Z (oS ops.toList d) λa=>a.dst) λb=>c.get M b) λh=>_);cases e:(Z (oS ops.toList d) λa=>a.dst)with
 |none=>rfl
 |some b=>
  simp[fj];rw[Cp,ax];unfold Oper.looksAt;refine dM _ ?_;obtain⟨f,g,j⟩:=ed.1 e;rw[mV]at g;have:ops[d]? =D f:=by grind
  grind
end
end
section
def iu.conv{F:af Obj}{B C:Mu}{b:T}{r:am}(a:iu F B b r){n:Nat}(hl:sL n b)(s:∀c e,c<n->B c=D e->C c=D e)
 (E:∀k,pV C k->pV B k):iu F C b r:=by
 induction a with
 |undef=>exact .undef
 |ej c=>exact .ej c
 |int d U=>exact .int d U
 |str X a=>exact .str X a
 |mf=>exact .mf
 |eZ c w k R e h j x O=>cases hl with|eZ _ _ _ _ a=>exact .eZ c w k R e h (s c e a j) x O
 |kA v t off arr q fz A y i p hr g=>
  cases hl with|kA _ a=>exact .kA v t off arr q fz (λd=>A (E _ d)) y i p λd b f=>g d b f (a b (aD f))
 |qf m h=>exact .qf m h
 |em L M m t off u Y arr q fz A y z P Q i p hr g=>
  cases hl with|em _ _ a=>exact .em L M m t off u Y arr q fz (λd=>A (E _ d)) y z P Q i p λd b f=>g d b f (a b (aD f))
 |jb h u=>exact .jb h u
 |arr c w W S m e h K j x z o=>cases hl with|arr _ _ _ _ _ a=>exact .arr c w W S m e h K (s c e a j) x z o
 |func N I l i hr g=>cases hl with|func _ _ a=>exact .func N I l i λd b f=>g d b f (a b (aD f))
 |mw=>exact .mw
 |mH=>exact .mH
 |iface q b r a g=>cases hl with|iface _ _ a=>exact .iface q b r (g a)
 |iter c e h j o=>cases hl with|iter _ a=>exact .iter c e h (s c e a j) o
 |map c e k j o=>cases hl with|map _ a=>exact .map c e k (s c e a j) o
 |pz=>exact .pz
 |eQ v l i p hr g=>cases hl with|eQ _ a=>exact .eQ v l i p λd b f=>g d b f (a b (aD f))
 |tuple Z l i hr g=>cases hl with|tuple _ a=>exact .tuple Z l i λd b f=>g d b f (a b (aD f))
def uA.conv{u:af Obj}{r s:Mu}{e:Loc}{p:jI}(i:uA u r e p){n:Nat}(hl:∀c∈ir p.gU,sL n c)(k:∀m e,m<n->r m=D e->s m=D e)
 (j:∀l,pV s l->pV r l):uA u s e p:=by
 refine⟨i.ep,i.sz,λa=>?_,λa=>?_⟩;have h:=i.plain a;have⟨x,O,b,f,d⟩:=h.row;exact⟨⟨x,O,b,f,d.1,λa c v=>(d.2 a c v).conv (hl c (aD v)) k j⟩,h.room,h.wP,h.size,h.scalar⟩
 .obtain⟨t,b|⟨z,b,f,d⟩|⟨K,I,M,N,y,b,f,d,F⟩⟩:=i.iter a
  grind
  rotate_left;exact⟨t,.inr (.inr ⟨K,I,M,N,y,b,f.conv (hl _ (by rw[b];simp[ir,T.cells])) k j,d,F⟩)⟩;refine⟨t,.inr (.inl ⟨z,b,f,λl q w=>?_⟩)⟩;have⟨a,c,L,o,A,B,C,E⟩:=d l q w;have g:=hl q (List.mem_flatMap.2 ⟨q,aD w,by rw[o];simp[T.cells]⟩);rw[o]at g;cases g with|tuple _ g=>exact⟨a,c,L,o,A,B,C.conv (g a V) k j,E.conv (g c V) k j⟩
def sL.mono{n c:Nat}{d:T}(a:sL n d)(g:n<=c):sL c d:=by
 induction a with
 |eZ b e h i a=>exact .eZ _ _ _ _ G
 |arr b e k j f a=>exact .arr _ _ _ _ _ G
 |iter b a=>exact .iter _ G
 |map b a=>exact .map _ G
 |_=>constructor<;>assumption
def St.congr{cx:Ctx}{f:Nat}{h:af Obj}{e:Mu}{g c:H}(a:St cx f h e g)(j:c.iv.length=c.size)(l:∀b d,e b=D d->c.get b=g.get b):St cx f h e c:=
 ⟨j,a.fit,λb d i=>by have⟨o,k,m⟩:=a.box b d i;grind,a.inj,a.low,a.apart,a.uv,a.CO⟩
def H.get_some{a:H}(e:a.iv.length=a.size){b:Nat}(c:b<a.size):∃d,a.get b=D d:=by rw[H.get_eq,ax c];exact⟨a.iv[a.size-1-b]' G,V⟩
def yp(Hs:Nat->H)(a:Nat):Nat->Nat
 |0=>0
 |k+1=>if a<(Hs k).size then yp Hs a k else k+1
def KD(Hs:Nat->H)(a n:Nat):yp Hs a n<=n:=by
 induction n with
 |zero=>simp[yp]
 |succ n b=>unfold yp;split<;>omega
def ac8{Hs:Nat->H}{a:Nat}{n:Nat}(d:∀b,b<n->(Hs b).size<=(Hs (b+1)).size)(c:a<(Hs n).size):a<(Hs (yp Hs a n)).size:=by
 induction n with
 |zero=>exact c
 |succ n e=>
  grind [yp]
theorem Zd{Hs:Nat->H}{c:Nat}:∀{n p:Nat},p<yp Hs c n->(∀b,b<n->(Hs b).size<=(Hs (b+1)).size)->(Hs p).size<=c:=by
 intro n;induction n with
 |zero=>simp[yp]
 |succ n i=>
  intro p d f;unfold yp at d;split at d
  grind
  rename_i h;have:∀a,p+a=n->(Hs p).size<=(Hs n).size:=by
   intro a;induction a generalizing p with
   |zero=>intro e;rw[show p=n by omega];omega
   |succ a g=>
    intro e;have:=f p G;have:=g (p:=p+1) G G;omega
  have:=this (n-p) G;omega
section
variable {Hs:Nat->H}{n:Nat}
def pK(f:∀c,c<n->(Hs c).size<=(Hs (c+1)).size){b d:Nat}(e:b<=d)(j:d<=n):(Hs b).size<=(Hs d).size:=by
 obtain⟨a,rfl⟩:=Nat.exists_eq_add_of_le e;clear e;induction a with
 |zero=>simp
 |succ a g=>
  have h:=g G;have i:=f (b+a) G;have:b+(a+1)=b+a+1:=G;rw[this];omega
def mX(c:∀a,a<n->(Hs a).size<=(Hs (a+1)).size){b a:Nat}(e:b<(Hs n).size)(f:a<=n):b<(Hs a).size↔yp Hs b n<=a:=by
 constructor
 grind [yp,aW,Zd]
 intro d;have:=ac8 c e;have:=pK c d f;omega
def oa(l:∀a,a<n->(Hs a).size<=(Hs (a+1)).size){c b e:Nat}(g:b<=e)(f:∀a,b<=a->a<e->(Hs (a+1)).get c=(Hs a).get c):(Hs e).get c=(Hs b).get c:=by
 obtain⟨d,rfl⟩:=Nat.exists_eq_add_of_le g;clear g;induction d with
 |zero=>rfl
 |succ d k=>
  have i:=k λa h c=>f a h G;have j:=f (b+d) G G;have:b+(d+1)=b+d+1:=G;rw[this,j,i]
end
def PH(Hs:Nat->H)(n:Nat)(b:Nat->Nat):H:=
 ⟨(Hs n).size,0,(List.range (Hs n).size).reverse.map λa=>((Hs (max (b a) (yp Hs a n))).get a).getD default⟩
def Jx(Hs:Nat->H)(n:Nat)(a:Nat->Nat):(PH Hs n a).iv.length=(PH Hs n a).size:=by simp[PH]
def adC{Hs:Nat->H}{n a:Nat}{c:Nat->Nat}(g:∀b,b<n->(Hs b).size<=(Hs (b+1)).size)(i:∀b,b<=n->(Hs b).iv.length=(Hs b).size)(j:c a<=n)(d:a<(Hs n).size):
 (PH Hs n c).get a=(Hs (max (c a) (yp Hs a n))).get a:=by
 have e:max (c a) (yp Hs a n)<=n:=iH (KD Hs a n);have f:a<(Hs (max (c a) (yp Hs a n))).size:=(mX g d e).2 G;have⟨l,k⟩:=H.get_some (i _ e) f;rw[H.get_eq];have h:(PH Hs n c).size=(Hs n).size:=rfl;rw[h,ax d];show((List.range (Hs n).size).reverse.map λa=>((Hs (max (c a) (yp Hs a n))).get a).getD default)[(Hs n).size-1-a]? =_;rw[br,List.getElem?_reverse c5];have:(List.range (Hs n).size).length-1-((Hs n).size-1-a)=a:=by grind
 rw[this]
 grind
def vP(b:af Oper)(a:af Bool)(c:Nat):Nat->Nat
 |0=>0
 |k+1=>if a.getD k false=true/\(b[k]?).bind (·.dst)=D c then k+1 else vP b a c k
theorem CG{ops:af Oper}{listed:af Bool}{s:Nat}:∀(n:Nat),vP ops listed s n=0\/∃a,vP ops listed s n=a+1/\a<n/\listed.getD a false/\(ops[a]?).bind (·.dst)=D s:=by
 intro n;induction n with
 |zero=>left;rfl
 |succ n b=>
  unfold vP
  grind
def Ov{ops:af Oper}{listed:af Bool}{s:Nat}:∀{n a:Nat},a<n->listed.getD a false->(ops[a]?).bind (·.dst)=D s->a+1<=vP ops listed s n:=by
 intro n;induction n with
 |zero=>omega
 |succ n e=>
  intro a d b c;unfold vP
  grind
def acp{ops:af Oper}{listed:af Bool}{s:Nat}(n:Nat):vP ops listed s n<=n:=by rcases CG (ops:=ops) (listed:=listed) (s:=s) n with a|⟨d,b,c,_⟩<;>omega
def Sx{b:af Oper}{e f:af Bool}{c:Nat}:∀{n:Nat},(∀a,a<n->(b[a]?).bind (·.dst)=D c->f.getD a false=e.getD a false)->vP b f c n=vP b e c n:=by
 intro n;induction n with
 |zero=>intro _;rfl
 |succ n d=>
  intro g;have d:=d λa h=>g a G
  grind [vP]
end
section
structure Dr(P:ai)(cx:Ctx)(cf:jU)(base M m:Nat)(ops:af Oper)(E:Nat->Env)(Hs:Nat->H)(ws:World)(ql:Mu):Prop where
 j9:jP P cx
 ck:p9 P cx cf
 dst:Jy m ops
 tr:Trace cx cf M ops E Hs
 uO:St cx base ws.heap ql (Hs 0)
 IL:∀i j oi oj,ops[i]? =D oi->ops[j]? =D oj->i<j->(oi.apart ops oj/\(jt oi.op->jt oj.op->rH oi.op/\rH oj.op=true))\/kL ops i j
 back:∀j o,ops[j]? =D o->∀e∈o.after,Region.binds .any e->e.on<j
 akb:∀k,k<=ops.size->∀s v,(E k).get M s=D v->sL (Hs k).size v
 agw:∀k,k<=ops.size->∀b x,(ql b≠none\/(Hs 0).size<=b)->(Hs k).get b=D x->∀v∈ir x.gU,sL (Hs k).size v
 grow:∀k,k<ops.size->mY (Hs k) (Hs (k+1))
 wf:∀k,k<=ops.size->(Hs k).iv.length=(Hs k).size
structure Inv(cx:Ctx)(base M m:Nat)(ops:af Oper)(E:Nat->Env)(Hs:Nat->H)(ws:World)(ql:Mu)(listed:af Bool)(a:Act)(w:World)(μ:Mu)(q:Nat->Nat):Prop where
 cl:Cl ops listed
 size:a.tmps.size=m
 ST:a.defers=[]
 Np:∀b,q b<=ops.size
 mQ:∀k b,rZ M ops E k->b<(Hs k).size->gJ (Hs k) (Hs (k+1)) b=false->(listed.getD k false↔k<q b)
 st:St cx base w.heap μ (PH Hs ops.size q)
 TQ:∀s v,(E (vP ops listed s ops.size)).get M s=D v->iu w.heap μ v (a.tmps.getD s Go.undef)
 Y1:∀b,μ b≠none↔(ql b≠none\/((Hs 0).size<=b/\b<(Hs ops.size).size/\listed.getD (yp Hs b ops.size-1) false=true))
 ext:sM ws ql w μ
section
variable {P:ai}{cx:Ctx}{cf:jU}{base M m:Nat}{ops:af Oper}{E:Nat->Env}{Hs:Nat->H}{ws w:World}{ql μ:Mu}{listed:af Bool}{a:Act}{q:Nat->Nat}
def Dr.mono(c:Dr P cx cf base M m ops E Hs ws ql):∀b,b<ops.size->(Hs b).size<=(Hs (b+1)).size:=λb d=>(c.grow b d).size
def Dr.lt0(c:Dr P cx cf base M m ops E Hs ws ql){b:Nat}(e:ql b≠none):b<(Hs 0).size:=by have⟨f,d⟩:=Option.ne_none_iff_exists'.1 e;exact c.uO.fN d
def Dr.still(g:Dr P cx cf base M m ops E Hs ws ql){b d:Nat}(p:b<ops.size)(n:d<(Hs b).size)(h:¬rZ M ops E b):(Hs (b+1)).get d=(Hs b).get d:=by
 have f:ops[b]? =D ops[b]:=V;rcases pi (g.tr.step b _ f)with⟨_,_,c⟩|⟨i,r,k,_⟩
 rw[c];have e:jt ops[b].op=false:=by
  cases c:jt ops[b].op;rfl;exact absurd ⟨_,f,c,i⟩ h
 rcases LA (h2:=Hs b) e (λ_ _ _=>rfl) (MI e k)with⟨c,_⟩|⟨l,s,_,_,_,c,_⟩;rw[c]
 grind [H.pF]
def Dr.ver(d:Dr P cx cf base M m ops E Hs ws ql){b c:Nat}(g:b<ops.size)(f:c<(Hs b).size)(n:gJ (Hs b) (Hs (b+1)) c):(Hs (b+1)).get c=(Hs b).get c:=by have⟨k,e⟩:=H.get_some (d.wf b G) f;have⟨p,i,h⟩:=(d.grow b g).ver c k e;rcases h with rfl|l;rw[e,i];simp_all[gJ]
def Dr.same(d:Dr P cx cf base M m ops E Hs ws ql){b c:Nat}(f:b<ops.size)(e:c<(Hs b).size)(i:rZ M ops E b->gJ (Hs b) (Hs (b+1)) c=false->False):(Hs (b+1)).get c=(Hs b).get c:=by
 by_cases g:rZ M ops E b;cases h:gJ (Hs b) (Hs (b+1)) c
 grind
 exact d.ver f e h;exact d.still f e g
def Dr.AZ(c:Dr P cx cf base M m ops E Hs ws ql){b:Nat}(e:q b<=ops.size)(d:b<(Hs ops.size).size):(PH Hs ops.size q).get b=(Hs (max (q b) (yp Hs b ops.size))).get b:=
 adC c.mono c.wf e d
def Inv.lt(f:Dr P cx cf base M m ops E Hs ws ql)(c:Inv cx base M m ops E Hs ws ql listed a w μ q){b:Nat}{d:Loc}(e:μ b=D d):b<(Hs ops.size).size:=c.st.fN e
variable {j:Nat}{o:Oper}
structure Rc(ops:af Oper)(listed:af Bool)(j:Nat)(o:Oper):Prop where
 op:ops[j]? =D o
 lt:j<ops.size
 not:listed.getD j false=false
 before:∀i,kL ops i j->listed.getD i false
 behind:∀k,kL ops j k->listed.getD k false=false
 ahi:∀e∈o.after,Region.binds .any e->listed.getD e.on false
def MB{listed:af Bool}{b:Nat}(c:listed.getD b true=false):listed.getD b false=false:=by grind
def rdy(c:Cl ops listed)(k:j∈Region.ready .any ops listed):∃o,Rc ops listed j o:=by
 have⟨e,o,d,f⟩:=mem_ready.1 k;have n:j<ops.size:=(Array.getElem?_eq_some_iff.1 d).1;refine⟨o,d,n,MB e,λr i=>GG c i d f,λb l=>?_,f⟩;cases h:listed.getD b false;rfl;have p:b<listed.size:=by
  grind
 have g:ops[b]? =D (ops[b]'(by rw[<-c.size];omega)):=by
  have:b<ops.size:=by rw[<-c.size];omega
  simp
 have:=GG c l g (c.closed b _ g h);rw[MB e]at this;grind
def Cl.set(b:Cl ops listed)(k:Rc ops listed j o):Cl ops (listed.setIfInBounds j true):=by refine⟨by simp[b.size],λh i g hl c e d=>?_⟩;by_cases f:j=h;subst f;have:i=o:=dp (g.symm.trans k.op);subst this;exact getD_set_true (k.ahi c e d);rw[getD_set_ne false f]at hl;exact getD_set_true (b.closed h i g hl c e d)
def ze(b:Cl ops listed)(c:Rc ops listed j o):(listed.setIfInBounds j true).getD j false=true:=by have:j<listed.size:=b.size▸c.lt;simp[this]
theorem Inv.Y(p:Dr P cx cf base M m ops E Hs ws ql)(S:Inv cx base M m ops E Hs ws ql listed a w μ q)(f:Rc ops listed j o){s:Nat}(B:s∈o.looksAt ops):
 (E (vP ops listed s ops.size)).get M s=(E j).get M s:=by
 have I:∀b i,ops[b]? =D i->i.dst=D s->(b<j->listed.getD b false=true)/\(j<b->listed.getD b false=false):=by
  intro b i k t;refine⟨λu=>?_,λu=>?_⟩;rcases p.IL b j i o k f.op u with⟨r,_⟩|v;exact absurd B ((Oper.apart_spec r).1 s t);exact f.before b v;rcases p.IL j b o i f.op k u with⟨r,_⟩|v;exact absurd B ((Oper.apart_spec r).2.2 s t);exact f.behind b v
 have W:vP ops listed s ops.size<=j:=by
  rcases CG (ops:=ops) (listed:=listed) (s:=s) ops.size with h|⟨b,T,U,L,x⟩;omega;have e:ops[b]? =D ops[b]:=V;rw[e]at x;have C:=I b _ e x;rcases Nat.lt_trichotomy b j with h|h|h
  omega;subst h;rw[f.not]at L;grind
  grind
 have R:∀c,vP ops listed s ops.size+c<=j->(E (vP ops listed s ops.size+c)).get M s=(E (vP ops listed s ops.size)).get M s:=by
  intro c;induction c with
  |zero=>simp
  |succ c O=>
   intro t;have k:vP ops listed s ops.size+c<ops.size:=iH f.lt;have e:ops[vP ops listed s ops.size+c]? =D ops[vP ops listed s ops.size+c]:=V;rw[<-O G];have A:ops[vP ops listed s ops.size+c].dst≠some s:=by
    intro y;have C:=(I _ _ e y).1 G;have:=Ov (n:=ops.size) k C (by rw[e];exact y);omega
   have X:∀l g,(E (vP ops listed s ops.size+c)).dst M ops[vP ops listed s ops.size+c].dst l=D g->g.get M s=(E (vP ops listed s ops.size+c)).get M s:=by
    intro l g d;rcases z:ops[vP ops listed s ops.size+c].dst with _|F
    rw[z]at d;have d:some _=D g:=d;simp[ay]at d;rw[d];rw[z]at d A;have N:s≠F:=λK=>A (by rw[K]);rw[Env.Fx (show Env.set M _ F l=D g from d) s,aw N]
   rcases pi (p.tr.step _ _ e)with⟨_,d,_⟩|⟨_,l,_,d⟩
   grind
   grind
 have:=R (j-vP ops listed s ops.size) G;rw[show vP ops listed s ops.size+(j-vP ops listed s ops.size)=j by omega]at this
 grind
def Inv.TZ(d:Dr P cx cf base M m ops E Hs ws ql)(c:Inv cx base M m ops E Hs ws ql listed a w μ q)(f:Rc ops listed j o):mh w.heap μ M (Gm M (E j) (o.looksAt ops)) a.tmps:=by
 intro g h b;rw[Cp]at b;split at b;rename_i e;exact c.TQ g h (c.Y d f e▸b)
 grind
def Inv.F2(p:Dr P cx cf base M m ops E Hs ws ql)(g:Inv cx base M m ops E Hs ws ql listed a w μ q)(c:Rc ops listed j o){k:af Obj}{n:Mu}(L:Ext w.heap μ k n){l:T}{r:am}
 (I:iu k n l r) (y:(E j).dst M o.dst l=D (E (j+1))):∀s f,(E (vP ops (listed.setIfInBounds j true) s ops.size)).get M s=D f->iu k n f ((a.put o.dst r).tmps.getD s Go.undef):=by
 intro s f d;by_cases e:o.dst=D s;have i:vP ops (listed.setIfInBounds j true) s ops.size=j+1:=by
  have R:=Ov (ops:=ops) (s:=s) c.lt (ze g.cl c) (c.op▸e);rcases CG (ops:=ops) (listed:=listed.setIfInBounds j true) (s:=s) ops.size with h|⟨b,N,O,t,u⟩
  omega;rcases Nat.lt_trichotomy b j with h|h|h;omega;omega;have v:ops[b]? =D ops[b]:=V;rw[v]at u;rw[getD_set_ne false G]at t;rcases p.IL j b o _ c.op v h with⟨z,_⟩|F
  exact absurd u ((Oper.apart_spec z).2.1 s e);rw[c.behind b F]at t;grind
 rw[i]at d;rw[e]at y|-;rw[Env.Fx (show Env.set M _ s l=D _ from y) s]at d;simp[ay]at d;subst d;have B:s<a.tmps.size:=g.size▸p.dst j o s c.op e;simpa[Act.put,cC,B]using I;have i:vP ops (listed.setIfInBounds j true) s ops.size=vP ops listed s ops.size:=by
  refine Sx λb U A=>?_;have:j≠b:=by rintro rfl;rw[c.op]at A;grind
  simp_all
 rw[i]at d;have x:=(g.TQ s f d).ext L;rcases S:o.dst with _|K
 exact x;have C:K≠s:=by grind
 simpa[Act.put,cC,Array.getElem?_setIfInBounds_ne C]using x
def Inv.looked(d:Dr P cx cf base M m ops E Hs ws ql)(k:Inv cx base M m ops E Hs ws ql listed a w μ q)(n:Rc ops listed j o)(v:jt o.op=false)(L:md ops M (E j) o.guard=D true)
 {b:Nat} (z:jd cx M (E j) (Hs j) o.op=D b) {e:Nat} (R:j<=e) (x:e<=ops.size) (u:b<(Hs e).size) (S:e=j\/e=j+1):
 (PH Hs ops.size q).get b=(Hs e).get b:=by
 have l:b<(Hs ops.size).size:=bO u (pK d.mono x (az _));rw[d.AZ (k.Np _) l];have N:yp Hs b ops.size<=e:=(mX d.mono l x).1 u;have t:Bh cx M ops E Hs j b:=⟨o,n.op,v,L,z⟩;have O:¬rZ M ops E j:=by
  rintro⟨T,r,A,_⟩;rw[n.op]at r;cases r;rw[v]at A;grind
 rcases Nat.le_total (max (q b) (yp Hs b ops.size)) e with I|B;refine(oa d.mono I λc C F=>?_).symm;have f:b<(Hs c).size:=(mX d.mono l G).2 G;by_cases g:rZ M ops E c;have p:c<j:=by
  grind
 cases i:gJ (Hs c) (Hs (c+1)) b;rcases d.tr.behind j c b t g p with h|h;rw[i]at h;grind;have:=(k.mQ c b g f i).1 (n.before c h);omega;exact d.ver G f i;exact d.still G f g;refine oa d.mono B λc C F=>?_;have K:c<q b:=G;have s:c<ops.size:=iH (k.Np b);have f:b<(Hs c).size:=(mX d.mono l G).2 G;by_cases g:rZ M ops E c;have p:j<c:=by
  grind
 cases i:gJ (Hs c) (Hs (c+1)) b;rcases d.tr.ahead j c b t g p with h|h;rw[i]at h;grind;have y:=(k.mQ c b g f i).2 K;rw[n.behind c h]at y;grind;exact d.ver s f i;exact d.still s f g
def Inv.want(b:Dr P cx cf base M m ops E Hs ws ql)(c:Inv cx base M m ops E Hs ws ql listed a w μ q)(k:Rc ops listed j o){d:Bool}(g:md ops M (E j) o.guard=D d):
 Region.wanted o (yielded ops a.tmps)=d:=
 FS (c.TZ b k) (λh i l e f=>by rw[c.size];exact b.dst h i l e f) (by rw[Nu];exact g)
def Dr.made(c:Dr P cx cf base M m ops E Hs ws ql)(g:j<ops.size){b:Nat}(d:b<(Hs ops.size).size):yp Hs b ops.size=j+1↔((Hs j).size<=b/\b<(Hs (j+1)).size):=by have e:=mX c.mono d (show j<=ops.size by omega);have f:=mX c.mono d (show j+1<=ops.size by omega);omega
def Dr.cr0(c:Dr P cx cf base M m ops E Hs ws ql){b:Nat}(d:b<(Hs ops.size).size)(e:(Hs 0).size<=b):0<yp Hs b ops.size:=by rcases Nat.eq_zero_or_pos (yp Hs b ops.size)with h|h;have:=(mX c.mono d (aB _)).2 G;omega;omega
def Dr.EQ(c:Dr P cx cf base M m ops E Hs ws ql)(f:j<ops.size){b:Nat}(d:b<(Hs ops.size).size)(e:(Hs 0).size<=b)(g:¬((Hs j).size<=b/\b<(Hs (j+1)).size)):
 (listed.setIfInBounds j true).getD (yp Hs b ops.size-1) false=listed.getD (yp Hs b ops.size-1) false:=by
 refine getD_set_ne false λh=>g ?_;have:=c.cr0 d e;exact(c.made f d).1 G 
def Inv.Kw(f:Dr P cx cf base M m ops E Hs ws ql)(k:Inv cx base M m ops E Hs ws ql listed a w μ q)(h:Rc ops listed j o)(g:(Hs (j+1)).size=(Hs j).size){i:Mu}(l:∀b,i b≠none↔μ b≠none):
 ∀b,i b≠none↔(ql b≠none\/((Hs 0).size<=b/\b<(Hs ops.size).size/\(listed.setIfInBounds j true).getD (yp Hs b ops.size-1) false=true)):=by
 intro b;rw[l,k.Y1];refine or_congr Iff.rfl ⟨λ⟨c,d,e⟩=>⟨c,d,?_⟩,λ⟨c,d,e⟩=>⟨c,d,?_⟩⟩;rw[f.EQ h.lt d c (by rw[g];omega)];exact e;rw[f.EQ h.lt d c (by rw[g];omega)]at e;exact e
def GT(c:Rc ops listed j o)(d:jt o.op=false\/md ops M (E j) o.guard=D false):¬rZ M ops E j:=by rintro⟨g,b,e,f⟩;rw[c.op]at b;grind
def Inv.HC(d:Inv cx base M m ops E Hs ws ql listed a w μ q)(h:¬rZ M ops E j):
 ∀b c,rZ M ops E b->c<(Hs b).size->gJ (Hs b) (Hs (b+1)) c=false->((listed.setIfInBounds j true).getD b false↔b<q c):=by
 intro b c f e g;have:j≠b:=by grind
 rw[getD_set_ne false this];exact d.mQ b c f e g
variable {Q:Exit->Act->World->Prop}
def Inv.skip(d:Dr P cx cf base M m ops E Hs ws ql)(b:Inv cx base M m ops E Hs ws ql listed a w μ q)(c:Rc ops listed j o)(g:md ops M (E j) o.guard=D false)
 (f:(E j).dst M o.dst .undef=D (E (j+1))) (e:Hs (j+1)=Hs j):Inv cx base M m ops E Hs ws ql (listed.setIfInBounds j true) (a.put o.dst Go.undef) w μ q:=
 ⟨b.cl.set c,by rw[Act.tJ];exact b.size,by rw[Act.tK];exact b.ST,b.Np,b.HC (GT c (.inr g)),b.st,
   b.F2 d c (Ext.refl _ _) .undef f,b.Kw d c (by rw[e]) λ_=>Iff.rfl,b.ext⟩
def Inv.quiet(p:Dr P cx cf base M m ops E Hs ws ql)(i:Inv cx base M m ops E Hs ws ql listed a w μ q)(k:Rc ops listed j o)(cv:md ops M (E j) o.guard=D true)(ae:jt o.op=false){v:T}
 (bs:Iz cx cf M (E j) (Hs j) o.op v (Hs (j+1))) (cb:(E j).dst M o.dst v=D (E (j+1))):
 Dd P (λc X=>∃t,Inv cx base M m ops E Hs ws ql (listed.setIfInBounds j true) (a.put o.dst c) X t q) ((execOp a.eval o).run P w):=by
 have b9:=GT (M:=M) (E:=E) k (.inl ae);have ca:=MI ae bs;have aX:∀C∈o.op.operands,iG cx M (E j) C=iG cx M (Gm M (E j) (o.looksAt ops)) C:=λC bs=>DQ bs;rw[DR aX]at ca;have dm:∀b,jd cx M (Gm M (E j) (o.looksAt ops)) (Hs j) o.op=D b->b<(Hs j).size->(PH Hs ops.size q).get b=(Hs j).get b:=by
  intro b d b6;rw[<-zR aX]at d;exact i.looked p k ae cv d (az _) (bP k.lt) b6 (.inl rfl)
 rcases LA ae dm ca with⟨ap,bn⟩|⟨f,C,L,d,ee,ap,bn⟩
 
 refine((Cy p.j9 i.st (i.TZ p k) bn).ran).mono λc X aN=>?_;obtain⟨t,B,x,A,W⟩:=aN;refine⟨t,i.cl.set k,by rw[Act.tJ];exact i.size,by rw[Act.tK];exact i.ST,i.Np,i.HC b9,x,i.F2 p k A.ext B cb,?_,i.ext.trans A⟩;refine i.Kw p k (by rw[ap]) λb=>⟨λd=>?_,λd=>?_⟩;rcases W.2.1 b d with h|h;exact h;omega;have⟨e,U⟩:=Option.ne_none_iff_exists'.1 d;have⟨an,av,_⟩:=A.ext.mu b e U;rw[av];simp
 
 subst ee;have aE:(PH Hs ops.size q).size=(Hs ops.size).size:=rfl;have cp:(Hs (j+1)).size=(Hs j).size+1:=by rw[ap];rfl
 have bT:(Hs j).size<(Hs ops.size).size:=by
  have:=pK p.mono (show j+1<=ops.size from k.lt) (az _);omega
 have bN:(Hs 0).size<=(Hs j).size:=pK p.mono (aB _) (bP k.lt);have bW:yp Hs (Hs j).size ops.size=j+1:=(p.made k.lt bT).2 ⟨az _,G⟩;have eB:μ (Hs j).size=none:=by
  rcases dn:μ (Hs j).size with _|e;rfl;exfalso;rcases(i.Y1 (Hs j).size).1 (by rw[dn];simp)with h|⟨_,_,h⟩
  have:=p.lt0 h;omega;rw[bW]at h;simp only[Nat.add_sub_cancel]at h;rw[k.not]at h;grind
 have di:(Hs (j+1)).get (Hs j).size=D C:=ap▸H.wM (p.wf j (bP k.lt)) C;have ea:(PH Hs ops.size q).get (Hs j).size=D C:=by
  rw[<-zR aX]at d;rw[i.looked p k ae cv d (show j<=j+1 by omega) k.lt G (.inr rfl)];omega
 refine((Cy p.j9 i.st (i.TZ p k) bn).ran).mono λc X aN=>?_;obtain⟨t,B,x,A,W⟩:=aN;rw[aE]at B W;have dd:((PH Hs ops.size q).cons C).size=(Hs ops.size).size+1:=rfl;rw[dd]at W;have er:t (Hs ops.size).size≠none:=W.2.2 _ (az _) G;have b7:∀b e,μ b=D e->b<(Hs ops.size).size:=λb e d=>i.st.fN d;have bX:∀b,b≠(Hs ops.size).size->(t b≠none↔μ b≠none):=by
  intro b ey;constructor;intro d;rcases W.2.1 b d with h|h
  exact h;omega;intro d;have⟨e,U⟩:=Option.ne_none_iff_exists'.1 d;have⟨an,av,_⟩:=A.ext.mu b e U;rw[av];simp
 have eo:t (Hs j).size=none:=by
  grind
 have⟨et,eu⟩:=Option.ne_none_iff_exists'.1 er
 let F:Mu:=⟨λb=>if b=(Hs j).size then t (Hs ops.size).size else if b=(Hs ops.size).size then none else t b,t.qy⟩
 have I:F (Hs j).size=t (Hs ops.size).size:=by grind
 have Z:F (Hs ops.size).size=none:=by
  have:(Hs ops.size).size≠(Hs j).size:=G
  grind
 have S:∀b,b≠(Hs j).size->b≠(Hs ops.size).size->F b=t b:=λb r s=>by grind
 have bZ:∀R,pV F R->pV t R:=by
  rintro R (⟨b,e,d,hl⟩|hr);by_cases r:b=(Hs j).size;subst r;rw[I]at d;exact .inl ⟨_,e,d,hl⟩;by_cases s:b=(Hs ops.size).size;subst s;rw[Z]at d;grind;rw[S b r s]at d;exact .inl ⟨b,e,d,hl⟩;exact .inr hr
 have b8:∀b e,b<(Hs ops.size).size->t b=D e->F b=D e:=by
  intro b e d U;have r:b≠(Hs j).size:=by rintro rfl;rw[eo]at U;grind
  rw[S b r G];exact U
 have a8:Ext w.heap μ X.heap F:=by
  refine⟨A.ext.size,λR dk ds=>?_,λb e d=>?_,A.ext.qy,A.ext.kept⟩;have⟨eC,eD⟩:=A.ext.qd R dk ds
  grind
  have⟨an,av,eA⟩:=A.ext.mu b e d
  grind
 have eb:iu X.heap F (f (Hs j).size) c:=by
  rcases L with L|⟨l,L⟩|L|L;rw[L]at B|-;cases B with|eZ _ _ _ _ e Y d a7 c6=>exact .eZ _ _ _ _ e Y (I▸d) a7 c6
  rw[L]at B|-;cases B with|arr _ _ _ _ _ e Y cX d a7 hl h=>exact .arr _ _ _ _ _ e Y cX (I▸d) a7 hl h
  rw[L]at B|-;cases B with|iter _ e Y d h=>exact .iter _ e Y (I▸d) h
  rw[L]at B|-;cases B with|map _ e R d h=>exact .map _ e R (I▸d) h
 have ec:St cx base X.heap F (PH Hs ops.size q):=by
  refine⟨Jx _ _ _,x.fit,λb e d=>?_,λb cL e an d c7 hl=>?_,λb e d=>?_,λb e d=>?_,x.uv,λg c1 de=>?_⟩;by_cases r:b=(Hs j).size;subst r;rw[I]at d;have⟨y,al,bi⟩:=x.box _ e d;have ef:y=C:=by
   have:=H.wM (Jx Hs ops.size q) C;rw[aE,al]at this
   grind
  subst ef;refine⟨y,ea,bi.conv (n:=(Hs ops.size).size) (λu bp=>?_) b8 bZ⟩;exact(p.agw (j+1) k.lt _ y (.inr bN) di u bp).mono G;by_cases s:b=(Hs ops.size).size;subst s;rw[Z]at d;grind;rw[S b r s]at d;have⟨y,al,bi⟩:=x.box b e d;have c9:μ b≠none:=(bX b s).1 (by rw[d];simp);have⟨bA,bS⟩:=Option.ne_none_iff_exists'.1 c9;have b6:=b7 b bA bS;rw[H.pF (by rw[aE];omega)]at al;refine⟨y,al,bi.conv (n:=(Hs ops.size).size) (λu bp=>?_) b8 bZ⟩;have⟨z,bu,eh⟩:=i.st.box b bA bS;rw[al]at bu;cases bu;exact eh.low b7 u bp;have bC:∀b e,F b=D e->(b=(Hs j).size/\t (Hs ops.size).size=D e)\/(b≠(Hs j).size/\b≠(Hs ops.size).size/\t b=D e):=by
   grind
  rcases bC b e d with⟨N,K⟩|⟨N,K,O⟩<;>rcases bC cL an c7 with⟨c4,aA⟩|⟨c4,aA,bH⟩;omega;exact absurd (x.inj _ _ _ _ K bH hl).symm aA;exact absurd (x.inj _ _ _ _ O aA hl) K;exact x.inj _ _ _ _ O bH hl;by_cases r:b=(Hs j).size;subst r;rw[I]at d;exact x.low _ _ d;by_cases s:b=(Hs ops.size).size;subst s;rw[Z]at d;grind;rw[S b r s]at d;exact x.low _ _ d;by_cases r:b=(Hs j).size;subst r;rw[I]at d;exact x.apart _ _ d;by_cases s:b=(Hs ops.size).size;subst s;rw[Z]at d;grind;rw[S b r s]at d;exact x.apart _ _ d;exact(i.st.CO g c1 de).ext a8
 refine⟨F,i.cl.set k,by rw[Act.tJ];exact i.size,by rw[Act.tK];exact i.ST,i.Np,i.HC b9,ec,i.F2 p k a8 eb cb,λb=>?_,
  i.ext.trans ⟨a8,A.os,A.tape,A.output⟩⟩
 by_cases r:b=(Hs j).size;subst r;refine⟨λ_=> .inr ⟨bN,bT,?_⟩,λ_=>by rw[I];omega⟩;rw[bW];exact ze i.cl k;by_cases s:b=(Hs ops.size).size;subst s;refine⟨λh=>absurd Z h,λh=>?_⟩;rcases h with h|⟨_,h,_⟩
 have:=p.lt0 h;omega;omega;rw[S b r s,bX b s,i.Y1];refine or_congr Iff.rfl ⟨λ⟨N,K,O⟩=>⟨N,K,?_⟩,λ⟨N,K,O⟩=>⟨N,K,?_⟩⟩;rw[p.EQ k.lt K N (by rw[cp];omega)];exact O;rw[p.EQ k.lt K N (by rw[cp];omega)]at O;exact O
def Inv.akc(k:Dr P cx cf base M m ops E Hs ws ql)(f:Inv cx base M m ops E Hs ws ql listed a w μ q)(F:Rc ops listed j o)(dn:md ops M (E j) o.guard=D true)(c1:jt o.op)
 (b9:∀i ae,ops[i]? =D ae->jt ae.op->(i<j->kL ops i j=true)/\(j<i->kL ops j i=true)) {v:T}
 (z:Iz cx cf M (E j) (Hs j) o.op v (Hs (j+1))) (de:(E j).dst M o.dst v=D (E (j+1))):
 Dd P (λc ap=>∃I,Inv cx base M m ops E Hs ws ql (listed.setIfInBounds j true) (a.put o.dst c) ap I (λ_=>j+1)) ((execOp a.eval o).run P w):=by
 have ef:rZ M ops E j:=⟨o,F.op,c1,dn⟩;have bX:∀i,rZ M ops E i->i<j->listed.getD i false=true:=by
  rintro i ⟨ae,L,B,_⟩ bA;exact F.before i ((b9 i ae L B).1 bA)
 have bW:∀i,rZ M ops E i->j<i->listed.getD i false=false:=by
  rintro i ⟨ae,L,B,_⟩ bA;exact F.behind i ((b9 i ae L B).2 bA)
 have p:=F.lt;have er:(Hs j).size<=(Hs (j+1)).size:=k.mono j p;have et:(Hs (j+1)).size<=(Hs ops.size).size:=pK k.mono (show j+1<=ops.size from p) (az _);have ec:(Hs 0).size<=(Hs j).size:=pK k.mono (aB _) (bP p);have cL:∀b,b<(Hs j).size->(PH Hs ops.size q).get b=(Hs j).get b:=by
  intro b e;have r:b<(Hs ops.size).size:=G;rw[k.AZ (f.Np _) r];have bZ:yp Hs b ops.size<=j:=(mX k.mono r (bP p)).1 e;rcases Nat.le_total (max (q b) (yp Hs b ops.size)) j with c7|c6
  refine(oa k.mono c7 λi bs bu=>?_).symm;have U:b<(Hs i).size:=(mX k.mono r G).2 G;refine k.same G U λB al=>?_;have:=(f.mQ i b B U al).1 (bX i B bu);omega;refine oa k.mono c6 λi bs bu=>?_;have dd:=f.Np b;have U:b<(Hs i).size:=(mX k.mono r G).2 G;refine k.same G U λB al=>?_;have hl:=(f.mQ i b B U al).2 G;rcases Nat.eq_or_lt_of_le bs with h|h
  subst h;rw[F.not]at hl;grind
  grind
 have c4:∀b d,μ b=D d->b<(Hs j).size\/(Hs (j+1)).size<=b:=by
  intro b d e;rcases aW b (Hs j).size with h|h
  omega;right;rcases aW b (Hs (j+1)).size with h2|h2
  exfalso;have r:b<(Hs ops.size).size:=G;rcases(f.Y1 b).1 (by rw[e];simp)with g|⟨_,_,g⟩
  have:=k.lt0 g;omega;rw[(k.made p r).2 ⟨h,h2⟩]at g;simp only[Nat.add_sub_cancel]at g;rw[F.not]at g;grind;omega
 have cX:∀b,μ b≠none->ql b≠none\/(Hs 0).size<=b:=λb e=>by
  rcases(f.Y1 b).1 e with g|⟨g,_⟩
  grind
  omega
 let Y:Mu:=⟨λb=>if b<(Hs j).size then μ b else none,λl=>μ.qy l\/∃b d,(Hs j).size<=b/\μ b=D d/\d.jR=l⟩
 have bH:∀b,b<(Hs j).size->Y b=μ b:=λb e=>by grind
 have S:∀b d,Y b=D d->b<(Hs j).size/\μ b=D d:=by
  grind
 have av:∀l,pV Y l->pV μ l:=by
  rintro l (⟨b,d,e,hl⟩|hr|⟨b,d,e,K,hl⟩);exact .inl ⟨b,d,(S b d e).2,hl⟩;exact .inr hr;exact .inl ⟨b,d,K,hl⟩
 have aA:∀b d,b<(Hs j).size->μ b=D d->Y b=D d:=λb d e K=>bH b e▸K;have eb:St cx base w.heap Y (Hs j):=by
  refine⟨k.wf j (bP p),f.st.fit,λb d e=>?_,λb N d A e aX hl=>?_,λb d e=>?_,λb d e=>?_,λl hr=>?_,λg a8 bn=>?_⟩;have⟨t,h2⟩:=S b d e;have⟨X,z,L⟩:=f.st.box b d h2;rw[cL b t]at z;exact⟨X,z,L.conv (k.agw j (bP p) b X (cX b (by rw[h2];simp)) z) aA av⟩;exact f.st.inj b N d A (S b d e).2 (S N A aX).2 hl;exact f.st.low b d (S b d e).2;rintro(hr|⟨N,A,aX,aN,hl⟩);exact f.st.apart b d (S b d e).2 hr;have:=f.st.inj N b A d aN (S b d e).2 hl;have:=(S b d e).1;omega;rcases hr with hr|⟨b,d,_,K,hl⟩;exact f.st.uv l hr;rw[<-hl];exact f.st.lt K;have b6:=f.st.CO g a8 bn;refine b6.conv (n:=0) ?_ (λb d e=>by omega) av;have⟨_,_,_,_,_,_,_,_,_,di,_⟩:=b6.nS;exact .kA _ λu Z=>(di u Z).2.low 0
 have ea:mh w.heap Y M (Gm M (E j) (o.looksAt ops)) a.tmps:=by
  intro s u Z;refine(f.TZ k F s u Z).conv (n:=(Hs j).size) ?_ aA av
  rw[Cp]at Z;split at Z;exact k.akb j (bP p) s u Z
  grind
 have ds:=z.congr (e':=Gm M (E j) (o.looksAt ops)) λX z=>DQ z;refine(Hz k.j9 k.ck eb ea ds).mono λc ap cv=>?_;obtain⟨⟨I,ca,W,C,cb⟩,_⟩:=cv
 let R:Mu:=⟨λb=>if b<(Hs (j+1)).size then I b else μ b,μ.qy⟩
 have bi:∀b,b<(Hs (j+1)).size->R b=I b:=λb e=>by grind
 have bN:∀b,(Hs (j+1)).size<=b->R b=μ b:=λb e=>by
  have:¬b<(Hs (j+1)).size:=G
  grind
 have bC:I.qy=Y.qy:=C.ext.qy;have eh:∀b d,(Hs (j+1)).size<=b->μ b=D d->I.qy d.jR:=by
  intro b d e K;rw[bC]
  grind
 have bS:∀l,pV R l->pV I l:=by
  rintro l (⟨b,d,e,hl⟩|hr);by_cases h:b<(Hs (j+1)).size;rw[bi b h]at e;exact .inl ⟨b,d,e,hl⟩;rw[bN b G]at e;right;rw[<-hl];grind;right;rw[bC];grind
 have b8:∀b d,I b=D d->b<(Hs (j+1)).size:=λb d e=>W.fN e;have bT:∀b d,b<(Hs (j+1)).size->I b=D d->R b=D d:=λb d e K=>bi b e▸K;have a7:Ext w.heap μ ap.heap R:=by
  refine⟨C.ext.size,λl bp c9=>?_,λb d e=>?_,rfl,λl bp hr=>C.ext.kept l bp (.inl hr)⟩;have⟨x,y⟩:=C.ext.qd l bp λh=>c9 (av l h)
  grind
  rcases c4 b d e with h|h;have⟨A,aN,eo⟩:=C.ext.mu b d (aA b d h e)
  grind
  grind
 have dk:St cx base ap.heap R (PH Hs ops.size (λ_=>j+1)):=by
  have an:∀b d,R b=D d->(b<(Hs (j+1)).size/\I b=D d)\/((Hs (j+1)).size<=b/\μ b=D d):=by
   grind
  refine⟨Jx _ _ _,W.fit,λb d e=>?_,λb N d A e aX hl=>?_,λb d e=>?_,λb d e hr=>?_,λl hr=>?_,λg a8 bn=>(f.st.CO g a8 bn).ext a7⟩;rcases an b d e with⟨t,h2⟩|⟨t,h2⟩;have⟨X,z,L⟩:=W.box b d h2;have r:b<(Hs ops.size).size:=G;have bZ:yp Hs b ops.size<=j+1:=(mX k.mono r (show j+1<=ops.size from p)).1 t;refine⟨X,?_,L.conv (L.low b8) bT bS⟩;rw[k.AZ (q:=λ_=>j+1) (show j+1<=ops.size from p) r,show max (j+1) (yp Hs b ops.size)=j+1 by omega];exact z;have⟨X,z,L⟩:=f.st.box b d h2;have r:b<(Hs ops.size).size:=f.st.fN h2;have bZ:¬yp Hs b ops.size<=j+1:=λh=>by
   have:=(mX k.mono r (show j+1<=ops.size from p)).2 h;omega
  refine⟨X,?_,L.ext a7 ?_⟩;rw[k.AZ (f.Np _) r]at z;rw[k.AZ (q:=λ_=>j+1) (show j+1<=ops.size from p) r,show max (j+1) (yp Hs b ops.size)=yp Hs b ops.size by omega];rw[<-z];refine(oa k.mono G λi bs bu=>?_).symm;have dd:=f.Np b;have ee:=KD Hs b ops.size;have U:b<(Hs i).size:=(mX k.mono r G).2 G;refine k.same G U λB al=>?_;have hl:=(f.mQ i b B U al).2 G;rw[bW i B G]at hl;grind;exact C.ext.kept d.jR (f.st.lt h2) (.inr ⟨b,d,G,h2,rfl⟩);rcases an b d e with⟨t,h2⟩|⟨t,h2⟩<;>rcases an N A aX with⟨cp,aE⟩|⟨cp,aE⟩;exact W.inj b N d A h2 aE hl;exact absurd (by rw[hl];grind) (W.apart b d h2);exact absurd (by rw[<-hl];grind) (W.apart N A aE);exact f.st.inj b N d A h2 aE hl;rcases an b d e with⟨t,h2⟩|⟨t,h2⟩;exact W.low b d h2;exact f.st.low b d h2;rcases an b d e with⟨t,h2⟩|⟨t,h2⟩;exact W.apart b d h2 (by rw[bC];grind);exact f.st.apart b d h2 hr;exact bO (f.st.uv l hr) C.ext.size
 have dm:iu ap.heap R v c:=ca.conv (ca.low b8) bT bS;refine⟨R,f.cl.set F,by rw[Act.tJ];exact f.size,by rw[Act.tK];exact f.ST,λ_=>p,λi b b7 _ _=>?_,dk,f.F2 k F a7 dm de,λb=>?_,
  f.ext.trans ⟨a7,C.os,C.tape,C.output⟩⟩
 rcases Nat.lt_trichotomy i j with h|h|h;rw[getD_set_ne false G,bX i b7 h];grind;subst h;rw[ze f.cl F];simp;rw[getD_set_ne false G,bW i b7 h];grind;by_cases t:b<(Hs (j+1)).size;rw[bi b t];have r:b<(Hs ops.size).size:=G;by_cases h2:b<(Hs j).size;have:I b≠none↔μ b≠none:=by
  constructor;intro e;rcases cb.2.1 b e with g|g
  rwa[bH b h2]at g;omega;intro e;have⟨d,K⟩:=Option.ne_none_iff_exists'.1 e;have⟨A,aN,_⟩:=C.ext.mu b d (aA b d h2 K);rw[aN];simp
 rw[this,f.Y1];refine or_congr Iff.rfl ⟨λ⟨x,y,O⟩=>⟨x,y,?_⟩,λ⟨x,y,O⟩=>⟨x,y,?_⟩⟩;rw[k.EQ p y x G];exact O;rw[k.EQ p y x G]at O;exact O;refine⟨λ_=> .inr ⟨G,r,?_⟩,λ_=>cb.2.2 b G t⟩;rw[(k.made p r).2 ⟨G,t⟩];exact ze f.cl F;rw[bN b G,f.Y1];refine or_congr Iff.rfl ⟨λ⟨x,y,O⟩=>⟨x,y,?_⟩,λ⟨x,y,O⟩=>⟨x,y,?_⟩⟩;rw[k.EQ p y x G];exact O;rw[k.EQ p y x G]at O;exact O
def TM{e l f:H}{B:Ty}{c z n A:Nat}{p:T}(b:e.store B (.eZ c z n A) p=D l)(W:e.iv.length=e.size)(X:f.iv.length=f.size)(I:f.get c=e.get c):
 l.size=e.size/\(∀g,g≠c->l.get g=e.get g)/\gJ e l c=false/\c<e.size/\∃d,f.store B (.eZ c z n A) p=D d/\d.size=f.size/\d.iv.length=d.size/\d.get c=l.get c/\∀g,g≠c->d.get g=f.get g:=by
 have b:iT (aq (m7 p.cells) B.size) (Z (e.get c) λF=> @jI.rec (λ_=>aa H) (λu h r exact t k=>
  iT (aq h z) (@Bool.rec (λ_=>aa H) (Z (oS k n) λx=>Z (ly x A p.cells) λy=>Z (lQ k n y) λs=>
   Z (iZ (Nat.succ r)) λi=>e.put c ⟨u,h,i,exact,false,s⟩) none t)) F)=D l:=b
 have⟨Y,b⟩:=fh.1 b;obtain⟨⟨u,h,r,L,t,k⟩,v,b⟩:=ed.1 b;have⟨ae,b⟩:=fh.1 b;cases t;obtain⟨x,al,b⟩:=ed.1 b;obtain⟨y,an,b⟩:=ed.1 b;obtain⟨s,ap,b⟩:=ed.1 b;obtain⟨i,K,b⟩:=ed.1 b;have U:i=r+1:=by rw[jv]at K;grind
 have⟨p1,p2,p3,p4⟩:=Fl b W;have S:c<f.size:=H.fN (I.trans v);have C:∃d,f.put c ⟨u,h,i,L,false,s⟩=D d:=⟨_,H.zG.2 ⟨S,G,rfl⟩⟩;obtain⟨d,C⟩:=C;have⟨M,N,O,R⟩:=Fl C X;refine⟨p1,p4,?_,H.fN v,d,?_,M,N,by rw[O,p3],R⟩;unfold gJ;rw[v,p3];show aq r i=false;rw[U]
 grind [aJ,Nat.beq]
 show iT (aq (m7 p.cells) B.size) (Z (f.get c) λF=> @jI.rec (λ_=>aa H) (λu h r exact t k=>
  iT (aq h z) (@Bool.rec (λ_=>aa H) (Z (oS k n) λx=>Z (ly x A p.cells) λy=>Z (lQ k n y) λs=>
   Z (iZ (Nat.succ r)) λi=>f.put c ⟨u,h,i,exact,false,s⟩) none t)) F)=D d
 rw[I,v];simp_all
 grind
def Dr.TN(r:Dr P cx cf base M m ops E Hs ws ql){c:Nat}{k:Oper}(n:ops[c]? =D k)(I:rH k.op)(T:rZ M ops E c):
 ∃e,StW cx M ops E c e/\e<(Hs c).size/\(Hs (c+1)).size=(Hs c).size/\(∀f,f≠e->(Hs (c+1)).get f=(Hs c).get f)/\gJ (Hs c) (Hs (c+1)) e=false/\
  ∀d:H,d.iv.length=d.size->d.get e=(Hs c).get e->∃g,ka k.op cx M (E c) d=be .undef g/\g.size=d.size/\g.iv.length=g.size/\g.get e=(Hs (c+1)).get e/\∀f,f≠e->g.get f=d.get f:=by
 obtain⟨aN,t,_,K⟩:=T;rw[n]at t;cases t;have F:c<ops.size:=(Array.getElem?_eq_some_iff.1 n).1;rcases pi (r.tr.step c _ n)with⟨U,_⟩|⟨_,h,b,_⟩;rw[K]at U;grind;cases u:k.op with
 |store x y z=>
  rw[u]at b;rcases b with b|⟨R,L,b,_⟩
  have b:(Z (cx.ty x) λp=>Z (iG cx M (E c) y) λa=>Z (iG cx M (E c) z) λh=>iT h.iW (Z ((Hs c).store p a h) λl=>some (ni.val .undef l)))=be h (Hs (c+1)):=b;obtain⟨p,N,b⟩:=ed.1 b;obtain⟨W,A,b⟩:=ed.1 b;obtain⟨aX,O,b⟩:=ed.1 b;have⟨an,b⟩:=fh.1 b;obtain⟨l,B,b⟩:=ed.1 b;simp[ay,ni.val.injEq]at b;obtain⟨rfl,rfl⟩:=b;cases W with
  |eZ e ap i aE=>
   have C:∀d:H,d.iv.length=d.size->d.get e=(Hs c).get e->_:=λd v s=>TM B (r.wf c (bP F)) v s;have⟨X,Y,ae,al,_⟩:=C (Hs c) (r.wf c (bP F)) rfl;refine⟨e,⟨k,x,y,z,n,u,K,by rw[A];rfl⟩,al,X,Y,ae,λd v s=>?_⟩;have⟨_,_,_,_,g,av,S⟩:=C d v s;refine⟨g,?_,S⟩;show(Z (cx.ty x) λp=>Z (iG cx M (E c) y) λa=>Z (iG cx M (E c) z) λh=>iT h.iW (Z (d.store p a h) λl=>some (ni.val .undef l)))=_;rw[N,A,O];simp_all
  |_=>simp[H.store]at B
  exact absurd b (GW (λf aA=>by grind) R L)
 |_=>rw[u]at I;simp[rH]at I
def Inv.agx(g:Dr P cx cf base M m ops E Hs ws ql)(i:Inv cx base M m ops E Hs ws ql listed a w μ q)(k:Rc ops listed j o)(ca:md ops M (E j) o.guard=D true)(C:rH o.op)
 {I:T} (t:Iz cx cf M (E j) (Hs j) o.op I (Hs (j+1))) (b6:(E j).dst M o.dst I=D (E (j+1))):
 Dd P (λO ap=>∃K cL,Inv cx base M m ops E Hs ws ql (listed.setIfInBounds j true) (a.put o.dst O) ap K cL) ((execOp a.eval o).run P w):=by
 have U:jt o.op:=by cases bN:o.op<;>rw[bN]at C<;>simp[rH]at C<;>rfl
 have W:rZ M ops E j:=⟨o,k.op,U,ca⟩;have A:=k.lt;have⟨d,a8,R,b7,bT,b9,al⟩:=g.TN k.op C W;have v:d<(Hs ops.size).size:=bO R (pK g.mono (bP A) (az _));have N:∀b,rZ M ops E b->b<j->gJ (Hs b) (Hs (b+1)) d=false->listed.getD b false=true:=by
  intro b l x e;rcases g.tr.both j b d a8 l x with h|h
  rw[e]at h;grind;exact k.before b h
 have av:∀b,rZ M ops E b->j<b->gJ (Hs b) (Hs (b+1)) d=false->listed.getD b false=false:=by
  intro b l x e;have bp:=l;obtain⟨cv,Z,bu,_⟩:=bp;rcases g.IL j b o cv k.op Z x with⟨_,h⟩|h
  have⟨y,bi,_,_,bW,_⟩:=g.TN Z (h U bu).2 l;have:y=d:=by
   rcases Nat.decEq y d with bH|rfl;exfalso;have z:=bW d (bE bH);unfold gJ at e;rw[z]at e;rcases s:(Hs b).get d with _|n
   rw[s]at e;grind;rw[s]at e;have e:aq n.ver n.ver=false:=e;simp at e;rfl
  subst this;rcases g.tr.both b j y bi W x with h|h
  rw[b9]at h;grind;exact k.behind b h;exact k.behind b h
 have c7:yp Hs d ops.size<=j:=(mX g.mono v (bP A)).1 R;have bX:(PH Hs ops.size q).get d=(Hs j).get d:=by
  rw[g.AZ (i.Np _) v];have dd:=i.Np d;rcases Nat.le_total (max (q d) (yp Hs d ops.size)) j with bC|bs
  refine(oa g.mono bC λb X Y=>?_).symm;have r:d<(Hs b).size:=(mX g.mono v G).2 G;refine g.same G r λl e=>?_;have:=(i.mQ b d l r e).1 (N b l Y e);omega;refine oa g.mono bs λb X Y=>?_;have r:d<(Hs b).size:=(mX g.mono v G).2 G;refine g.same G r λl e=>?_;have hl:=(i.mQ b d l r e).2 G;rcases Nat.eq_or_lt_of_le X with h|h
  subst h;rw[k.not]at hl;grind
  grind
 have⟨c6,ae,aA,c4,aE,aN⟩:=al (PH Hs ops.size q) (Jx _ _ _) bX;have b8:I= .undef:=by
  have⟨c9,bS,_⟩:=al (Hs j) (g.wf j (bP A)) rfl;rcases t with t|⟨f,c1,t,_⟩;rw[bS]at t;grind
  grind
 subst b8;have bn:∀n∈o.op.operands,iG cx M (E j) n=iG cx M (Gm M (E j) (o.looksAt ops)) n:=λn t=>DQ t;rw[DR bn]at ae;refine((Cy g.j9 i.st (i.TZ g k) ae).ran).mono λO ap s=>?_;obtain⟨K,cb,an,F,cp⟩:=s;refine⟨K,λc=>if c=d then j+1 else q c,i.cl.set k,by rw[Act.tJ];exact i.size,by rw[Act.tK];exact i.ST,λc=>?_,λb c B r e=>?_,
  an.congr (Jx _ _ _) λc L u=>?_,i.F2 g k F.ext cb b6,i.Kw g k b7 λc=>⟨λu=>?_,λu=>?_⟩,i.ext.trans F⟩
 show(if c=d then j+1 else q c)<=ops.size;have:=i.Np c;split<;>omega;show _↔b<(if c=d then j+1 else q c);by_cases p:c=d;subst p;rw[ax rfl];rcases Nat.lt_trichotomy b j with h|h|h
 rw[getD_set_ne false G,N b B h e];grind;subst h;rw[ze i.cl k];simp;rw[getD_set_ne false G,av b B h e];grind;rw[aw p];have bA:j≠b:=by
  rintro rfl;have z:=bT c p;unfold gJ at e;rw[z]at e;rcases s:(Hs j).get c with _|n;rw[s]at e;grind;rw[s]at e;have e:aq n.ver n.ver=false:=e;simp at e
 rw[getD_set_ne false bA];exact i.mQ b c B r e;have S:c<(Hs ops.size).size:=by
  have:=an.fN u;rw[aA]at this;exact this
 have bZ:(if c=d then j+1 else q c)<=ops.size:=by have:=i.Np c;split<;>omega
 rw[g.AZ (q:=λc=>if c=d then j+1 else q c) bZ S];by_cases p:c=d;subst p;rw[ax rfl,aE,show max (j+1) (yp Hs c ops.size)=j+1 by omega];rw[aw p,aN c p,g.AZ (i.Np _) S];rcases cp.2.1 c u with h|h;exact h;omega;have⟨L,aX⟩:=Option.ne_none_iff_exists'.1 u;have⟨cX,a7,_⟩:=F.ext.mu c L aX;rw[a7];simp
def Inv.step(c:Dr P cx cf base M m ops E Hs ws ql)(d:Inv cx base M m ops E Hs ws ql listed a w μ q)(z:j∈Region.ready .any ops listed):
 wpOp P ops Q j (λx i=>∃B A,Inv cx base M m ops E Hs ws ql (listed.setIfInBounds j true) x i B A) a w:=by
 have⟨o,b⟩:=rdy d.cl z;unfold wpOp;simp[b.op];rcases pi (c.tr.step j o b.op)with⟨e,f,y⟩|⟨e,C,p,f⟩;simp[d.want c b e,df];exact⟨μ,q,d.skip c b e f y⟩;simp[d.want c b e];left;cases g:jt o.op;exact Dd.wp (d.quiet c b e g p f) λr i k=>by grind
 cases n:rH o.op;refine Dd.wp (d.akc c b e g (λu v t s=>⟨λl=>?_,λl=>?_⟩) p f) λr i k=>by grind
 rcases c.IL u j v o t b.op l with⟨_,h⟩|h;have:=(h s g).2;rw[n]at this;grind;omega;rcases c.IL j u o v b.op t l with⟨_,h⟩|h;have:=(h g s).1;rw[n]at this;grind;omega;exact Dd.wp (d.agx c b e n p f) λr i k=>k
def unl(listed:af Bool):Nat:=(listed.toList.filter λb=> !b).length
def OQ:∀(b:List Bool) (j:Nat),b[j]? =D false->((b.set j true).filter λc=> !c).length+1=(b.filter λc=> !c).length:=by
 intro b;induction b with
 |nil=>simp
 |cons f b e=>
  intro j d;rcases j with _|j
  grind
  simp at d;have:=e j d;cases f<;>simp[cS]<;>omega
def PG(b:listed.getD j true=false):unl (listed.setIfInBounds j true)+1=unl listed:=by
 have c:j<listed.size:=by
  grind
 unfold unl;rw[Array.toList_setIfInBounds];simp_all[OQ]
def Ps(d:Dr P cx cf base M m ops E Hs ws ql)(e:Cl ops listed)(hr:Region.ready .any ops listed=[]):∀b,b<ops.size->listed.getD b false=true:=by
 intro b;induction b using Nat.strongRecOn with
 |_ b n=>
  intro i;cases k:listed.getD b false;have c:ops[b]? =D ops[b]:=V;have:b∈Region.ready .any ops listed:=by
   refine mem_ready.2 ⟨?_,ops[b],c,λf h g=>?_⟩;have:b<listed.size:=e.size▸i
   grind
   have l:=d.back b _ c f h g
   grind
  rw[hr]at this
  grind
  rfl
def Inv.ahc(c:Dr P cx cf base M m ops E Hs ws ql)(f:Inv cx base M m ops E Hs ws ql listed a w μ q)(p:∀g,g<ops.size->listed.getD g false):
 St cx base w.heap μ (Hs ops.size)/\mh w.heap μ M (E ops.size) a.tmps/\BX ql μ (Hs 0).size (Hs ops.size).size:=by
 refine⟨f.st.congr (c.wf _ (az _)) λd S r=>?_,λs h N=>f.TQ s h ?_,?_⟩;have u:=f.lt c r;rw[c.AZ (f.Np _) u];have U:=KD Hs d ops.size;have:=f.Np d;refine oa c.mono G λg X y=>?_;have t:d<(Hs g).size:=(mX c.mono u G).2 G;refine c.same y t λI L=>?_;have:=(f.mQ g d I t L).1 (p g y);omega
 
 have R:∀b,vP ops listed s ops.size+b<=ops.size->(E (vP ops listed s ops.size+b)).get M s=(E (vP ops listed s ops.size)).get M s:=by
  intro b;induction b with
  |zero=>simp
  |succ b O=>
   intro W;have x:vP ops listed s ops.size+b<ops.size:=G;have z:ops[vP ops listed s ops.size+b]? =D ops[vP ops listed s ops.size+b]:=V;rw[<-O G];have A:ops[vP ops listed s ops.size+b].dst≠some s:=by
    intro F;have:=Ov (n:=ops.size) x (p _ x) (by rw[z];exact F);omega
   have Z:∀h i,(E (vP ops listed s ops.size+b)).dst M ops[vP ops listed s ops.size+b].dst h=D i->i.get M s=(E (vP ops listed s ops.size+b)).get M s:=by
    intro h i e;rcases v:ops[vP ops listed s ops.size+b].dst with _|B
    rw[v]at e;have e:some _=D i:=e;simp[ay]at e;rw[e];rw[v]at e A;have K:s≠B:=λC=>A (by rw[C]);rw[Env.Fx (show Env.set M _ B h=D i from e) s,aw K]
   rcases pi (c.tr.step _ _ z)with⟨_,e,_⟩|⟨_,h,_,e⟩
   grind
   grind
 have Y:=acp (ops:=ops) (listed:=listed) (s:=s) ops.size;have:=R (ops.size-vP ops listed s ops.size) G;rw[show vP ops listed s ops.size+(ops.size-vP ops listed s ops.size)=ops.size by omega]at this;rw[<-this];exact N;refine⟨pK c.mono (aB _) (az _),λd r=>?_,λd k l=>?_⟩;rcases(f.Y1 d).1 r with T|⟨k,l,_⟩
 grind
 omega;refine(f.Y1 d).2 (.inr ⟨k,l,p _ ?_⟩);have:=c.cr0 l k;have:=KD Hs d ops.size;omega
def Te(f:Dr P cx cf base M m ops E Hs ws ql)
 (p:∀a w μ,St cx base w.heap μ (Hs ops.size)->mh w.heap μ M (E ops.size) a.tmps->BX ql μ (Hs 0).size (Hs ops.size).size->sM ws ql w μ->a.tmps.size=m->a.defers=[]->Q .normal a w):
 ∀(c:Nat) (listed:af Bool) (a:Act) (w:World),unl listed<=c->(∃μ q,Inv cx base M m ops E Hs ws ql listed a w μ q)->wpAny P .any ops Q c listed a w:=by
 have fin:∀(listed:af Bool) (a:Act) (w:World),(∃μ q,Inv cx base M m ops E Hs ws ql listed a w μ q)->Region.ready .any ops listed=[]->Q .normal a w:=by
  rintro listed a w ⟨μ,q,b⟩ hr;have⟨k,l,n⟩:=b.ahc f (Ps f b.cl hr);exact p a w μ k l n b.ext b.size b.ST
 intro c;induction c with
 |zero=>
  intro listed a w r d;have hr:Region.ready .any ops listed=[]:=by
   rcases hr:Region.ready .any ops listed with _|⟨g,u⟩;rfl;have e:g∈Region.ready .any ops listed:=by rw[hr];simp
   have:=PG (mem_ready.1 e).1;omega
  exact⟨hr,fin listed a w d hr⟩
 |succ c s=>
  intro listed a w r d;refine⟨λhr=>fin listed a w d hr,λg e=>?_⟩;obtain⟨μ,q,b⟩:=d;have:=PG (mem_ready.1 e).1;exact wpOp_mono (λh t i=>s _ h t G i) (b.step f e)
theorem chain{n:World}{p:Mu}{h:H}{u:Env}{g c:H}{f:Env}(j9:jP P cx)(t:p9 P cx cf)(v:Jy m ops){l:Nat}(y:ops[l]? =D o)(N:nj cx cf M ops u g o=D (f,c))
 (r:wS cx base M m n p h u g a w):(∃B e,wS cx base M m n p h f c B e)/\mY g c:=by
 have A:=r;obtain⟨μ,b,d,R,C,F,x,T⟩:=A;rcases pi N with⟨O,k,rfl⟩|⟨O,U,z,k⟩
 exact⟨⟨_,w,μ,b,mh.put d .undef (λb i=>by rw[x];exact v l o b y i) k,R,C,F,by rw[Act.tJ];exact x,by rw[Act.tK];omega⟩,mY.refl b.wf⟩;have hr:=Hz (P:=P) j9 t b d z;have⟨s,e,K⟩:=hr.some;have I:Dd P (λs e=>wS cx base M m n p h f c (a.put o.dst s) e) ((execOp a.eval o).run P w):=
  r.after (λb i=>v l o b y i) k λbase μ b d=>Hz j9 t b d z
 have⟨S,W,L⟩:=I.some;exact⟨⟨_,_,L⟩,K.2⟩
def O6(b8:P.follows .mixedOrders)(j9:jP P cx)(Y:p9 P cx cf):Xm P cx cf rN:=by
 intro base M m dk dm de ops e bH h bS a w Q id ae an ca bu bW;have⟨E,Hs,cL,c1,bn,U,c4,_,_,c6,c7,_,cX⟩:=Ig ops.toList 0 ⟨[],[]⟩ e bH h bS (λt=>by simp) ca;simp[dc,cY]at bn U;have bp:Trace cx cf M ops E Hs:=⟨λb o k=>c4 b o (aB _) k,λb B c u v A=>c6 b B c (aB _) u v A,λb B c u v A=>c7 b B c (aB _) u v A,λb B c u v A=>cX b B c (aB _) u v A⟩;obtain⟨ql,p,r,x,bC,g,aA,ap⟩:=bu;subst cL c1;have N:∀b,b<=ops.size->∃O K,wS cx base M m w ql (Hs 0) (E b) (Hs b) O K:=by
  intro b;induction b with
  |zero=>intro _;exact⟨a,w,ql,p,r,sM.refl _ _,BX.refl _ _,mY.refl p.wf,aA,ap⟩
  |succ b T=>
   intro f;have⟨a1,L,X⟩:=T G;have k:ops[b]? =D ops[b]:=V;exact(chain j9 Y an k (bp.step b _ k) X).1
 have Z:∀b,b<ops.size->mY (Hs b) (Hs (b+1)):=by
  intro b f;have⟨a1,L,X⟩:=N b G;have k:ops[b]? =D ops[b]:=V
  grind [chain]
 have F:Dr P cx cf base M m ops E Hs {w with drawn:=w.drawn+1} ql:=by
  refine⟨j9,Y,an,bp,p,λi j di cv bX b7 bZ=>MM ae bX b7 bZ,λj o k=>O7 ae k,λb f sl C n=>?_,λb f c y d aN C n=>?_,Z,λb f=>?_⟩;have⟨a1,L,W,s,r1,_⟩:=N b f;exact(r1 sl C n).low λc l d=>s.fN d;have⟨a1,L,W,s,r1,c9,bA,_⟩:=N b f;have b6:W c≠none:=by
   rcases d with d|d;have⟨l,R⟩:=Option.ne_none_iff_exists'.1 d;have⟨dd,bT,_⟩:=c9.ext.mu c l R;rw[bT];simp;exact bA.2.2 c d (H.fN aN)
  have⟨l,R⟩:=Option.ne_none_iff_exists'.1 b6;have⟨z,S,b9⟩:=s.box c l R;rw[aN]at S;cases S;exact b9.low (λc l d=>s.fN d) C n;have⟨a1,L,W,s,_⟩:=N b f;exact s.wf
 have bN:∀b,b<=ops.size->mY (Hs 0) (Hs b):=by
  intro b;induction b with
  |zero=>intro _;exact mY.refl p.wf
  |succ b T=>intro f;exact(T G).trans (Z b G)
 refine wp_region_any b8 (Te F (λO K bs aX a7 a8 I cb cp=>?_) ops.size _ a _ (by simp[unl]) ⟨ql,λ_=>0,?_⟩);rw[bn]at a7;rw[U]at aX a8;have bi:sM w ql K bs:=⟨I.ext,I.os,I.tape,I.output⟩;exact bW O K ⟨bs,aX,a7,x.trans bi,bC.trans (hp:=w.heap) a8 bi.ext,by have:=bN ops.size (az _);rw[U]at this;exact g.trans this,cb,cp⟩;have aE:∀b,(Array.replicate ops.size false).getD b false=false:=by
  intro b;rcases aW b ops.size with h|h<;>simp[h]
 refine⟨⟨V,λj cv _ hl=>?_⟩,aA,ap,λ_=>aB _,λb c _ _ _=>?_,?_,λsl C n=>?_,λc=>?_,⟨Ext.refl _ _,rfl,rfl,rfl⟩⟩;rw[aE]at hl;grind;rw[aE];simp;refine p.congr (Jx _ _ _) λc l d=>?_;have av:=p.fN d;have al:c<(Hs ops.size).size:=bO av (pK F.mono (aB _) (az _));rw[F.AZ (q:=λ_=>0) (aB _) al];have:yp Hs c ops.size<=0:=(mX F.mono al (aB _)).1 av;rw[show max 0 (yp Hs c ops.size)=0 by omega];have:vP ops (Array.replicate ops.size false) sl ops.size=0:=by
  grind [Array.replicate,CG]
 rw[this]at n;exact r sl C n
 grind
end
end
section
section
variable {P:ai}{cx:Ctx}{cf:jU}{base M m:Nat}{w0 w:World}{μ0 μ:Mu}{h0 h h':H}{e e':Env}{a:Act}
def DS{d:List T}{cs:af am}{g:af Obj}(b:jc g μ d cs.toList):iu g μ (kJ d) (if h:cs.size=1 then cs[0]else .tuple cs):=by
 have c:∀(j:cs.size≠1),iu g μ (.tuple d) (if h:cs.size=1 then cs[0]else .tuple cs):=by
  intro j;rw[dif_neg j];exact .tuple d cs (iD b.1.symm) λn i l=>by simpa[cC,List.getD]using b.2 n i l
 have f:=b.1
 match d,b,f,c with
 | [],b,f,c=>exact c c5
 | [i],b,f,c=>
  have k:cs.size=1:=by grind
  rw[dif_pos k];have:=b.2 0 i V
  grind [List.getD,kJ]
 |o::p::d,b,f,c=>exact c c5
def tF(c:af am):ResultVar->Sem am
 | .tmp b=>pure (c.getD b Go.undef)
 | .cell d b=>do loadVar b (<-asAddr (c.getD d Go.undef))
def Ge(c:Func)(d:af am):results c d=(do let b<-c.results.mapM (tF d);pure (if h:b.size=1 then b[0]else .tuple b)):=by unfold results;congr 1
def JH(j9:jP P cx)(F:St cx base w.heap μ h)(r:mh w.heap μ M e a.tmps):∀(g:List ResultVar) (k:List T),pq cx M e h g=D k->
 ∃d:List am,jc w.heap μ k d/\(g.mapM (tF a.tmps)).run P w= .ok d w:=by
 intro g;induction g with
 |nil=>
  intro k b;have b:some []=D k:=b;simp_all[ay,jc.nil]
 |cons n g E=>
  intro k b;unfold pq at b;rw[kv]at b;obtain⟨j,c,b⟩:=ed.1 b;obtain⟨s,C,b⟩:=ed.1 b;cases b;have⟨d,x,A⟩:=E s C;have q:∀f,(tF a.tmps n).run P w= .ok f w->iu w.heap μ j f->∃d:List am,jc w.heap μ (j::s) d/\((n::g).mapM (tF a.tmps)).run P w= .ok d w:=by
   intro f y hr;refine⟨f::d,jc.cons hr x,?_⟩;rw[List.mapM_cons,Sem.run_bind,y,Result.andThen_ok,Sem.run_bind,A,Result.andThen_ok,Sem.run_pure]
  cases n with
  |tmp i=>
   have c:e.get M i=D j:=c;exact q _ (by rfl) (r i j c)
  |cell p i=>
   have c:(Z (e.get M p) λl=>Z (cx.ty i) λo=>h.load o l)=D j:=c;obtain⟨l,z,c⟩:=ed.1 c;obtain⟨o,B,c⟩:=ed.1 c;have⟨I,f,t,u,v⟩:=G6 (j9.ty i o B) F (r p l z) c;exact q f (by simp[tF,t,asAddr,u]) v
def Ih(j9:jP P cx)(j:St cx base w.heap μ h)(i:mh w.heap μ M e a.tmps){b:Func}{d:List T}(f:pq cx M e h b.results.toList=D d):
 ∃c,(results b a.tmps).run P w= .ok c w/\iu w.heap μ (kJ d) c:=by
 have⟨cs,k,g⟩:=JH (P:=P) j9 j i _ _ f;refine⟨_,?_,DS (cs:=cs.toArray) G⟩;rw[Ge];have:b.results.mapM (tF a.tmps)=List.toArray<$>b.results.toList.mapM (tF a.tmps):=by
  rw[<-List.mapM_toArray]
 rw[this,Sem.run_bind,Sem.run_map,g];rfl
def Ip:∀(f d:Nat) (k:List T) (o:iP),oJ M f d k=D o->∀n j,Y o n=D j->(∃c,n=d+c/\c<f/\(k[c]? =D j\/(k.length<=c/\j= .undef))):=by
 intro f;induction f with
 |zero=>
  intro d k o b n j g;have b:some iP.nil=D o:=b;cases b
  grind [Y]
 |succ f u=>
  intro d k o b n j g;have b:(Z (iZ (Nat.succ d)) λp=> @List.rec T (λ_=>aa iP)
   (@Bool.rec (λ_=>aa iP) (oJ M f p []) (Z (oJ M f p []) λi=>some (.cons d .undef i)) (lL M d))
   (λa l _=>Z (oJ M f p l) λi=>some (.cons d a i)) k)=D o:=b
  simp[jv,fj]at b;have q:∀{l:List T} {i:iP},oJ M f (d+1) l=D i->Y i n=D j->∃c,n=d+(c+1)/\c<f/\(l[c]? =D j\/(l.length<=c/\j= .undef)):=by
   grind
  rcases k with _|⟨v,l⟩
  dsimp at b
  cases hl:lL M d;rw[hl]at b;have⟨c,r,s,t⟩:=q b g;simp_all;rw[hl]at b;obtain⟨i,ht,b⟩:=ed.1 b;cases b;rw[pO]at g;split at g;simp_all;have⟨c,r,s,t⟩:=q ht g;simp_all
  dsimp at b
  obtain⟨i,ht,b⟩:=ed.1 b;cases b;rw[pO]at g;split at g;simp_all;have⟨c,r,s,t⟩:=q ht g;simp_all
def OI{n:Nat}{d:List T}{i:iP}{l:af Obj}{c:af am}(k:jc l μ d c.toList)(o:oJ M n 0 d=D i):
 mh l μ M ⟨i,.nil⟩ (c++Array.replicate (n-c.size) Go.undef):=by
 intro b j f;have f: @Bool.rec (λ_=>aa T) (Y .nil b) (Y i b) (lL M b)=D j:=f;cases hl:lL M b;rw[hl]at f;grind [Y];rw[hl]at f;have⟨q,r,s,g⟩:=Ip n 0 d i o b j f;have p:b=q:=G;subst p;have t:d.length=c.size:=iD k.1;rcases g with g|⟨g,rfl⟩
 have u:b<d.length:=by
  grind
 have hr:=k.2 b j g;have:(c++Array.replicate (n-c.size) Go.undef).getD b Go.undef=c.toList.getD b Go.undef:=by
  rw[cC,Array.getElem?_append_left G];simp
 rw[this];exact hr;have:(c++Array.replicate (n-c.size) Go.undef).getD b Go.undef=Go.undef:=by
  rw[cC,Array.getElem?_append_right G]
  grind
 rw[this];exact .undef
def LV{m g:Nat}{f:af Oper->Bool}(p:m<=g):∀(b:Code),oR m f b->oR g f b=true:=by
 intro b;induction b with
 |region id q o=>
  intro h;simp[oR,aC]at h|-;refine⟨?_,h.2⟩;have d:=h.1;unfold Y0 at d|-;rw[cF]at d|-;intro i j;have:=d i j
  grind [aP]
 |seq a c l n=>simp_all[aC,oR]
 |cond i a c l n=>simp_all[aC,oR]
 |block id c k=>grind [oR]
 |loop c k=>grind [oR]
 |_=>intro _;rfl
def H4(P:ai)(cx:Ctx)(f:aj)(g:Prim):Prop:=
 ∀b h d h',Cu g b h=D (d,h')->∀base w μ (c:af am),St cx base w.heap μ h->jc w.heap μ b c.toList->Dd P (ut cx base w μ h d h') ((callFunc f c).run P w)
def A5(b:Fun):Bool:= !(b.fn.name== "runtime.NumGoroutine")&&match b.fn.body with
 |none=>false
 |some c=>oR b.fn.ntmps rN c
def qx{c:aj}{b:Func}{f:Code}(i:P.funcs[c]? =D b)(k:(b.name== "runtime.NumGoroutine")=false)(g:b.body=D f)(d:af am)(w:World):
 (callFunc c d).run P w= .ok (.enter c d) w:=by
 have j:¬b.name= "runtime.NumGoroutine" :=by grind
 simp[callFunc,i,j,g]
theorem Pm(ae:P.follows .mixedOrders)(j9:jP P cx)(z:p9 P cx cf){r:aj}{b:Fun}(C:P.funcs[r]? =D b.fn)(g:A5 b){B:Nat}{x:List T}{o:T}
 (c:wD cx cf B b.fn b.M b.mp x h=D (o,h')) (I:St cx base w.heap μ h) {f:af am} (X:jc w.heap μ x f.toList):
 Dd P (ut cx base w μ h o h') ((callFunc r f).run P w):=by
 unfold A5 at g;simp only[aC,cK]at g;obtain⟨al,g⟩:=g;unfold wD at c;rcases l:b.fn.body with _|y
 rw[l]at g;grind;rw[l]at g c;simp only at g;obtain⟨d,t,k⟩:=h;simp only at c;obtain⟨bp,aA,c⟩:=ed.1 c;obtain⟨⟨q,A,s⟩,Y,c⟩:=ed.1 c;simp only[nK]at c;have j:(q= .normal\/q= .ret)/\(Z (pq cx b.M A s b.fn.results.toList) λL=>G8 b.mp d t (kJ L) s)=D (o,h'):=by
  cases q with
  |normal=>grind
  |exit i=>grind
  |ret=>grind
 obtain⟨aN,j⟩:=j;obtain⟨L,aE,j⟩:=ed.1 j;rw[qx C al l];show Calls P r f w _;refine calls_of_wp C l ?_;have K:St cx base w.heap μ ⟨d,d,k⟩:=I.PU d;have an:=OI (M:=b.M) (n:=b.fn.ntmps) X aA;have N:wS cx base b.M (f.size+(b.fn.ntmps-f.size)) w μ ⟨d,d,k⟩ ⟨bp,.nil⟩ ⟨d,d,k⟩ {tmps:=f++Array.replicate (b.fn.ntmps-f.size) Go.undef,defers:=[]} w:=
  ⟨μ,K,an,sM.refl _ _,BX.refl _ _,mY.refl K.wf,V,rfl⟩
 refine Pd (m:=f.size+(b.fn.ntmps-f.size)) (w0:=w) (μ0:=μ) (h0:=⟨d,d,k⟩) (base:=base) (M:=b.M) j9 z (O6 ae j9 z) B y (LV G y g) _ _ q A s Y _ _ _ N λv u O=>?_;have F:v.defers=[]/\∃p,(results b.fn v.tmps).run P u= .ok p u/\ut cx base w μ ⟨d,t,k⟩ o h' p u:=by
  obtain⟨bA,E,aX,a7,a8,bi,bu,bn⟩:=O;have⟨p,ap,av⟩:=Ih (P:=P) j9 E aX aE;have⟨⟨bs,Q,R,S,U⟩,W⟩:=Me (low0:=t) I E bi a7 a8 av j;exact⟨bn,p,ap,⟨bs,Q,R,S,U⟩,W⟩
 rcases aN with rfl|rfl;exact F;exact F
end
end
section
section
variable {P:ai}{cx:Ctx}{base:Nat}{w:World}{μ:Mu}{h h':H}
def Jl(a b:ab):Code:=
 (Code.region 0 #[{dst:=D 2,op:=Op.assign (Operand.const (Value.slice none 0 0)),type:=a,pos:= "slices.go:355",after:= #[],guard:=none}] false).seq
   ((
    (Code.region 1 #[{dst:=D 3,op:=Op.move (Operand.tmp 0),type:=a,pos:= "slices.go:357",after:= #[],guard:=none},
       {dst:=D 4,op:=Op.binOp BinOp.eql a (Operand.tmp 3) (Operand.const (Value.slice none 0 0)) a,type:=b,pos:= "slices.go:357",after:= #[{on:=0,ground:=Ground.data}],guard:=none}] false).seq
       (Code.cond (Operand.tmp 4)
         ((Code.region 2 #[{dst:=D 2,op:=Op.assign (Operand.const (Value.slice none 0 0)),type:=a,pos:= "slices.go:358",after:= #[],guard:=none}] false).seq Code.ret)
         Code.skip)).seq
    ((
     Code.region 3 #[{dst:=D 5,op:=Op.buildSlice a 0 #[],type:=a,pos:= "slices.go:362",after:= #[],guard:=none},
       {dst:=D 6,op:=Op.move (Operand.tmp 0),type:=a,pos:= "slices.go:362",after:= #[],guard:=none},
       {dst:=D 7,op:=Op.call {callee:=Callee.builtin Builtin.append,args:= #[Operand.tmp 5,Operand.tmp 6],argTypes:= #[a,a]},type:=a,pos:= "slices.go:362",
        after:= #[{on:=0,ground:=Ground.data},{on:=1,ground:=Ground.data}],guard:=none},
       {dst:=D 2,op:=Op.assign (Operand.tmp 7),type:=a,pos:= "slices.go:362",
        after:= #[{on:=2,ground:=Ground.data},{on:=2,ground:=Ground.chain},{on:=0,ground:=Ground.phase},{on:=1,ground:=Ground.phase},{on:=2,ground:=Ground.phase}],guard:=none}] false).seq
     Code.ret))
def ph{c:af Oper}{d:Exit->Act->World->Prop}{i:Nat}{rest:List Nat}{b:Act}{w w':World}{a:Oper}{v:am}(f:c[i]? =D a)(e:a.guard=none)
 (g:(execOp b.eval a).run P w= .ok (.value v) w') (h:wpOps P c d rest (b.put a.dst v) w'):wpOps P c d (i::rest) b w:=by
 rw[wpOps_cons];unfold wpOp;simp[f];have j:Region.wanted a (yielded c b.tmps):=by simp[Region.wanted,e]
 simp[j];left;simp[Oper.wp,g,Oper.upon];exact h
def tZ(j9:jP P cx){o:aj}{fn:Func}{t tb:ab}{K bytes:Nat}{te:Ty}(x:P.funcs[o]? =D fn)(bA:(fn.name== "runtime.NumGoroutine")=false)(z:fn.body=D (Jl t tb))(bu:fn.ntmps=8)
 (hr:fn.results= #[.tmp 2]) (n:rM cx t=D te) (bS:te.size=K) (av:te.bytes=bytes):H4 P cx o (.clone K bytes):=by
 intro s h e h' a base w μ L j Y;subst bS av;have al:∃k,s=[k]:=by
  match s,a with
  | [k],_=>simp
 obtain⟨k,rfl⟩:=al;have⟨c,M,aE,E,bH⟩:=Y.om;have bC:M=[]:=bw (by have:=bH.1;grind);subst bC;have aA:L= #[c]:=by apply cQ;rw[aE]
 subst aA;have a:(Z (h.jQ k) λb=> @List.rec T (λ_=>aa (T×H)) (some (.em [] false,h)) (λ_ _ _=>h.jK te.size te.bytes [] b) b)=D (e,h'):=a;have⟨b,a8,a⟩:=ed.1 a;have⟨g,A,bT⟩:=yn j9 n;have⟨c9,b7⟩:=qR (P:=P) j E a8;have⟨d,l,c7,bp,c1,cp,c6,cv⟩:=b7.form;rw[qx x bA z];show Calls P o #[c] w _;refine calls_of_wp x z ?_;have ae:({tmps:= #[c]++Array.replicate (fn.ntmps-(#[c]:af am).size) Go.undef,defers:=[]}:Act)={tmps:= #[c,Go.undef,Go.undef,Go.undef,Go.undef,Go.undef,Go.undef,Go.undef],defers:=[]}:=by
  rw[bu];rfl
 rw[ae];unfold Jl;refine wp_seq (wp_region ?_);refine ph (i:=0) (rest:=[]) rfl rfl (v:= .slice none 0 0) (w':=w) (by rfl) ?_;refine wp_seq (wp_seq (wp_region ?_));refine ph (i:=0) (rest:=[1]) rfl rfl (v:=c) (w':=w) (by rfl) ?_;refine ph (i:=1) (rest:=[]) rfl rfl (v:= .bool d.isNone) (w':=w) ?_ ?_;have bs:∀q:am,(eqGuard .eql t (.tmp 3) (.const (.slice none 0 0)) (.slice d b.length l) (.slice none 0 0)).run P w= .ok () w:=λ_=>by rfl
 have a7:∀F,(Op.equalIn (F+1) t (.slice d b.length l) (.slice none 0 0)).run P w= .ok d.isNone w:=by
  intro F;cases d<;>simp[Op.equalIn,run_underlying A]
 have aX:(binOp .eql t (.slice d b.length l) (.slice none 0 0)).run P w= .ok (.bool d.isNone) w:=by
  show(do pure (Value.bool (<-Op.equal t (.slice d b.length l) (.slice none 0 0))):Sem am).run P w=_;have W:(Op.equal t (.slice d b.length l) (.slice none 0 0)).run P w= .ok d.isNone w:=a7 9999;rw[Sem.run_bind,W];rfl
 rw[bp];simp[execOp,Act.eval,Act.put,Sem.run_bind,bs Go.undef,aX];have I:∀(f:Act) (w':World) (v:am),f.defers=[]->f.tmps.getD 2 Go.undef=v->ut cx base w μ h e h' v w'->
  bodyPost P fn (λU ca=>match U with| .returned v=>ut cx base w μ h e h' v ca|_=>False) .ret f w':=by
  intro f w' v aN bZ X;refine⟨aN,v,?_,X⟩;rw[Ge,hr,Sem.run_bind];have:(#[ResultVar.tmp 2].mapM (tF f.tmps)).run P w'= .ok #[f.tmps.getD 2 Go.undef] w':=by
   rw[show #[ResultVar.tmp 2]=[ResultVar.tmp 2].toArray from rfl,List.mapM_toArray,List.mapM_cons];rfl
  rw[this,bZ];rfl
 rcases c4:d with _|y;have bi:b=[]:=by
  grind
 rw[bi]at a;have a:some (T.em [] false,h)=D (e,h'):=a;simp[ay,aI]at a;obtain⟨rfl,rfl⟩:=a;refine wp_cond_true (by rfl) ?_;refine wp_seq (wp_region ?_);refine ph (i:=0) (rest:=[]) rfl rfl (v:= .slice none 0 0) (w':=w) (by rfl) ?_;refine wp_ret ?_;refine I _ w (.slice none 0 0) rfl (by rfl) ⟨⟨μ,.qf _ _,j,sM.refl _ _,BX.refl _ _⟩,mY.refl j.wf⟩;refine wp_cond_false (by rfl) ?_;refine wp_skip ?_;refine wp_seq (wp_region ?_);have ap:(Instr.buildSlice t 0 #[]).run P w= .ok (.slice (some ⟨w.heap.size,0,none⟩) 0 0) (w.alloc (.cells #[] g)):=by
  simp[Instr.buildSlice,run_underlying A,(j9.ty _ _ bT).run_sizeOf,Instr.fill,newRow];congr 2;apply Array.ext<;>simp
 refine ph (i:=0) (rest:=[1,2,3]) rfl rfl (v:= .slice (some ⟨w.heap.size,0,none⟩) 0 0) (w':=(w.alloc (.cells #[] g))) (by simp[execOp,ap]) ?_;have⟨b8,C⟩:=j.grow (hp':=w.heap.push (.cells #[] g)) V (by intro i cX;rw[dE];grind);have b6:=E.ext C;refine ph (i:=1) (rest:=[2,3]) rfl rfl (v:=c) (w':=(w.alloc (.cells #[] g))) (by rfl) ?_;have an:ju cx h t t (.em [] false) k=be e h':=by
  unfold ju;rw[n];have bN:oz cx h t k=D b:=by
   unfold oz;unfold rM at n;have⟨b9,bW,B⟩:=ed.1 n;rw[bW];simp[fj];cases bX:b9.u<;>rw[bX]at B<;>simp[reduceCtorEq]at B;omega
  rw[bN];simp[fj];rcases b with _|⟨m,b⟩
  have a:some (T.em [] false,h)=D (e,h'):=a;simp[ay,aI]at a;obtain⟨rfl,rfl⟩:=a;rfl;have a:h.jK te.size te.bytes [] (m::b)=D (e,h'):=a;have bn:fits te.size (m::b)=true:=by
   have cL:=a
   grind [H.jK,kG,jv,fj,qt,fh]
  rw[bn,iO];show km (h.jK te.size te.bytes [] (m::b))=_;rw[kl];exact a
 have⟨v,r,cb,N,O,Q,R,S⟩:=Bf (P:=P) (w:=(w.alloc (.cells #[] g))) (ty':=t) j9 b8 (p:= .em [] false) (c:= .slice (some ⟨w.heap.size,0,none⟩) 0 0) (.qf _ _) b6 an;refine ph (i:=2) (rest:=[3]) rfl rfl (v:=v) (w':=r) (by simp[execOp,resolve,invoke,builtin,Act.eval,Act.put,N]) ?_;refine ph (i:=3) (rest:=[]) rfl rfl (v:=v) (w':=r) (by simp[execOp,Act.eval,Act.put]) ?_;refine wp_ret ?_;refine I _ r v rfl (by simp[Act.put]) ⟨⟨cb,O,Q,?_,S⟩,?_⟩;exact sM.trans (w1:=w.alloc (.cells #[] g)) ⟨C,rfl,rfl,rfl⟩ R;rcases b with _|⟨m,b⟩;have a:some (T.em [] false,h)=D (e,h'):=a;simp[ay,aI]at a;obtain⟨rfl,rfl⟩:=a;exact mY.refl j.wf;exact rQ j.wf a
def MH(c:Nat):∀(a:List Nat) (d:Nat),Af c a d=D (match(List.range a.length).find? (λb=>a[b]! ==c)with|some b=>((d+b:Nat):Int)|none=>-1):=by
 intro a;induction a with
 |nil=>intro d;rfl
 |cons e a l=>
  intro d;have i:Af c (e::a) d= @Bool.rec (λ_=>aa Int) (Z (iZ (Nat.succ d)) λk=>Af c a k) (some (.ofNat d)) (aq e c):=rfl;rw[i];have hr:List.range (a.length+1)=0::(List.range a.length).map (· +1):=List.range_succ_eq_map;rw[aZ,hr,List.find?_cons];cases f:aq e c;have j:=dj f;have g:((e::a)[0]! ==c)=false:=iD j;rw[g];simp only[jv,fj];rw[l (d+1),List.find?_map];have:((λb=>(e::a)[b]! ==c)∘λb=>b+1)=λb=>a[b]! ==c:=by
   funext b;simp
  rw[this]
  grind
  have:=aJ f;subst this;simp
def CR{d:Type}{b c:d->Bool}:∀{a:List d},(∀x∈a,b x=c x)->a.find? b=a.find? c
 | [],_=>rfl
 |x::a,h=>by
  rw[List.find?_cons,List.find?_cons,h x V,CR λe f=>h e c5]
def firstIdx_eq{a:List Nat}(hl:∀l∈a,l<256){c:Nat}(f:c<256):firstIdx (bytesOf a) (UInt8.ofNat c)=match(List.range a.length).find? (λb=>a[b]! ==c)with|some b=>((b:Nat):Int)|none=>-1:=by
 unfold firstIdx;rw[mE];have:(List.range a.length).find? (λj=>(bytesOf a)[j]! ==UInt8.ofNat c)=(List.range a.length).find? (λb=>a[b]! ==c):=by
  apply CR;intro b d;have d:b<a.length:=List.mem_range.1 d;have e:(bytesOf a)[b]! =UInt8.ofNat a[b]:=by
   have i:b<(bytesOf a).size:=by rw[mE];exact d
   rw[getElem!_pos (bytesOf a) b i];show(bytesOf a).data[b]=_;simp[bytesOf]
  rw[e,getElem!_pos a b d];have g:=hl a[b] (aH d);by_cases h:a[b]=c;simp[h];have:UInt8.ofNat a[b]≠UInt8.ofNat c:=λk=>h (by
   have:=cd UInt8.toNat k;rwa[kO g,kO f]at this)
  rw[beq_eq_false_iff_ne.2 this,beq_eq_false_iff_ne.2 h]
 rw[this];cases (List.range a.length).find? (λb=>a[b]! ==c)<;>rfl
def Kf{f:aj}{c:Func}(r:P.funcs[f]? =D c)(C:(c.name== "runtime.NumGoroutine")=false)(t:c.body.isNone)(B:Extern.findNext c=none)
 (z:Extern.find c=D Extern.BytealgIndexByte.indexByte):H4 P cx f .qp:=by
 intro j h N h' a base w μ m i s;have A:∃d b,j=[.str d,.int .u8 (.ofNat b)]/\b<256/\(Z (Af b d 0) λg=>some (T.int .i64 g,h))=D (N,h'):=by
  unfold Cu at a;simp only at a;split at a;rename_i d b;obtain⟨q,a⟩:=fh.1 a;rw[aP]at q
  grind
  grind
 obtain⟨d,b,rfl,u,a⟩:=A;obtain⟨k,O,y,L,F⟩:=s.om;obtain⟨l,n,rfl,M,I⟩:=F.om;have E:n=[]:=bw (by have:=I.1;grind);subst E;have v:m= #[k,l]:=by apply cQ;rw[y]
 subst v;obtain⟨o,hl⟩:=L.mW;have p:=M.kS;subst o p;obtain⟨g,e,a⟩:=ed.1 a;simp only[ay,aI]at a;obtain⟨rfl,rfl⟩:=a;rw[run_callFunc_extern r C t B z];have K:=run_indexByte_string (P:=P) (bytesOf d) (Int.ofNat b) w;rw[K];have x:(Int.ofNat b).toNat.toUInt8=UInt8.ofNat b:=rfl;rw[x,firstIdx_eq hl u];rw[MH]at e;simp only[ay,dc]at e;rw[e];exact⟨⟨μ,.int _ _,i,sM.refl _ _,BX.refl _ _⟩,mY.refl i.wf⟩
end
end
section
def fin(cf:jU)(d:H)(a:aa ni):aa (T×H):=Z a λa=>ni.casesOn a (λf e=>some (f,e)) (λc b=>cf c b d)
section
variable {cx:Ctx}{cf:jU}{M:Nat}{ops:af Oper}
def B7(cx:Ctx)(cf:jU)(M:Nat)(ops:af Oper)(b:Env)(a:H)(c:Oper):aa (T×H):=
 Z (md ops M b c.guard) λd=>Bool.casesOn d (some (.undef,a)) (fin cf a (ka c.op cx M b a))
def uE{n:Type}(a:Env)(d:H)(b:Oper)(g:Env->H->aa n):
 (Z (nj cx cf M ops a d b) λf=>two f g)=Z (B7 cx cf M ops a d b) λf=>two f λc e=>Z (a.dst M b.dst c) λj=>g j e:=by
 unfold nj B7;cases md ops M a b.guard with
 |none=>rfl
 |some m=>
  simp[fj];cases m with
  |false=>
   simp[m6,fj];cases a.dst M b.dst .undef<;>rfl
  |true=>
   simp only;unfold fin;cases ka b.op cx M a d with
   |none=>rfl
   |some i=>
    simp[fj];rcases i with⟨c,e⟩|⟨k,h⟩
    .skip
     simp[m6,fj];cases a.dst M b.dst c<;>rfl
    .skip
     simp only;rcases cf k h d with _|l
     rfl;obtain⟨c,e⟩:=l;simp[m6,fj];cases a.dst M b.dst c<;>rfl
end
def keys:iP->List Nat
 | .nil=>[]
 | .cons a _ b=>a::keys b
def Mi{g d:iP}{b:Nat}{f:T}(l:b∈keys g)(a:nL g b f=D d):keys d=keys g:=by
 induction g generalizing d with
 |nil=>grind [keys]
 |cons c k e n=>
  have a: @Bool.rec (λ_=>aa iP) (Z (nL e b f) λi=>some (.cons c k i)) (some (.cons c f e)) (aq c b)=D d:=a;cases j:aq c b;rw[j]at a;have a:(Z (nL e b f) λi=>some (iP.cons c k i))=D d:=a;have⟨i,ht,a⟩:=ed.1 a;cases a;have m:=dj j;have:b∈keys e:=by
   rcases List.mem_cons.1 l with h|h;omega;omega
  grind [keys]
  rw[j]at a;have a:some (iP.cons c f e)=D d:=a;cases a;rfl
def EqR(K:List Nat)(c d:Env->H->Out):Prop:=∀a b,keys a.vars=K->c a b=d a b
def Xg(K:List Nat)(c:Env->H->Out):Prop:=∀a d f b e,keys a.vars=K->c a d=D (f,b,e)->keys b.vars=K
section
variable {cx:Ctx}{cf:jU}{M fuel:Nat}{K:List Nat}
def UT(M:Nat)(K:List Nat)(ops:af Oper):Bool:=ops.toList.all λb=>match b.dst with|some a=> !lL M a||K.contains a|none=>true
def wL(M:Nat)(K:List Nat):Code->Bool
 | .region _ ops _=>UT M K ops
 | .seq b a=>wL M K b&&wL M K a
 | .cond _ b a=>wL M K b&&wL M K a
 | .block _ a=>wL M K a
 | .loop a=>wL M K a
 |_=>true
def Ml{g c:Env}{j:Oper}{f:T}(l:(match j.dst with|some b=> !lL M b||K.contains b|none=>true)=true)(h:keys g.vars=K)(a:g.dst M j.dst f=D c):keys c.vars=K:=by
 rcases k:j.dst with _|b;rw[k]at a;have a:some g=D c:=a
 grind
 rw[k]at a l;obtain⟨d,i⟩:=g;have a: @Bool.rec (λ_=>aa Env) (some ⟨d,.cons b f i⟩) (Z (nL d b f) λe=>some ⟨e,i⟩) (lL M b)=D c:=a;cases hl:lL M b;rw[hl]at a;have a:some (⟨d,.cons b f i⟩:Env)=D c:=a
 grind
 rw[hl]at a;have a:(Z (nL d b f) λe=>some (⟨e,i⟩:Env))=D c:=a;have⟨e,m,a⟩:=ed.1 a;cases a;simp[hl,Bool.not_true,Bool.false_or]at l;have n:b∈keys d:=by
  have h:keys d=K:=h;rw[h];grind
 show keys e=K;rw[Mi n m];exact h
def I7{b c:Env}{h i:H}{f:Oper}{ops:af Oper}(e:(match f.dst with|some g=> !lL M g||K.contains g|none=>true)=true)(d:keys b.vars=K)(j:nj cx cf M ops b h f=D (c,i)):keys c.vars=K:=by rcases pi j with⟨_,a,_⟩|⟨_,k,_,a⟩;exact Ml e d a;exact Ml e d a
def Mj{ops:af Oper}:∀(e:List Oper) (d b:Env) (f c:H),(∀g∈e,(match g.dst with|some j=> !lL M j||K.contains j|none=>true)=true)->keys d.vars=K->mo cx cf M ops e d f=D (b,c)->keys b.vars=K:=by
 intro e;induction e with
 |nil=>
  intro d b f c _ h a;have a:some (d,f)=D (b,c):=a;simp[ay,aI]at a;rw[<-a.1];exact h
 |cons g e n=>
  intro d b f c i h a;have a:(Z (nj cx cf M ops d f g) λp=>two p λb c=>mo cx cf M ops e b c)=D (b,c):=a;have⟨⟨k,l⟩,m,a⟩:=ed.1 a;exact n k b l c (λo q=>i o c5) (I7 (i g V) h m) a
def Kd{ops:af Oper}:∀(f:List Oper) (h:Nat) (c:Seen) (d a:Env) (g e:H),(∀j∈f,(match j.dst with|some c=> !lL M c||K.contains c|none=>true)=true)->keys d.vars=K->
 lf cx cf M ops f h c d g=D (a,e)->keys a.vars=K:=by
 intro f;induction f with
 |nil=>
  intro h c d a g e _ i b;have b:some (d,g)=D (a,e):=b;simp[ay,aI]at b;rw[<-b.1];exact i
 |cons j f p=>
  intro h c d a g e k i b;have⟨l,m,u,o,t,r,n,_⟩:=Cb b;exact p (h+1) r l a m e (λq s=>k q c5) (I7 (k j V) i o) n
def Lw{ops:af Oper}{j:Bool}(d:UT M K ops):Xg K (PV cx cf M ops j):=by intro m e l b c k a;unfold UT at d;have d:=List.all_eq_true.1 d;obtain⟨f,n⟩:=m;cases j;have a:(Z (mo cx cf M ops ops.toList ⟨f,.nil⟩ e) λi=>two i λb c=>some (Ex.normal,(⟨b.vars,.nil⟩:Env),c))=D (l,b,c):=a;have⟨⟨g,h⟩,hr,a⟩:=ed.1 a;simp[m6,ay,aI]at a;obtain⟨_,rfl,_⟩:=a;exact Mj ops.toList ⟨f,.nil⟩ g e h d k hr;have a:(Z (lf cx cf M ops ops.toList 0 ⟨[],[]⟩ ⟨f,.nil⟩ e) λi=>two i λb c=>some (Ex.normal,(⟨b.vars,.nil⟩:Env),c))=D (l,b,c):=a;have⟨⟨g,h⟩,hr,a⟩:=ed.1 a;simp[m6,ay,aI]at a;obtain⟨_,rfl,_⟩:=a;exact Kd ops.toList 0 ⟨[],[]⟩ ⟨f,.nil⟩ g e h d k hr
def RN{g:Env->H->Out}(n:Xg K g):∀e,Xg K (qQ g e):=by
 intro e;induction e with
 |zero=>intro i j d b c _ a;simp[qQ]at a
 |succ e q=>
  intro i j d b c o a;have a:(Z (g i j) λr=>three r λd b c=> @Ex.rec (λ_=>Out) (qQ g e b c) (λk=>some (.exit k,b,c)) (some (.ret,b,c)) d)=D (d,b,c):=a;have⟨⟨l,f,h⟩,m,a⟩:=ed.1 a;have p:=n i j l f h o m;cases l with
  |normal=>exact q f h d b c p a
  |exit k=>
   have a:some (Ex.exit k,f,h)=D (d,b,c):=a
   grind
  |ret=>
   have a:some (Ex.ret,f,h)=D (d,b,c):=a
   grind
def RO:∀(n:Code),wL M K n->Xg K (ll cx cf fuel M n):=by
 intro n;have u:∀{d:Ex},Xg K (λe f=>some (d,e,f)):=by
  intro d e f m b c h a;simp[ay,aI]at a;rw[<-a.2.1];exact h
 induction n with
 |skip=>intro _;exact u
 |exit id=>intro _;exact u
 |ret=>intro _;exact u
 |region id ops A=>intro g;exact Lw g
 |seq o k r s=>
  intro g e f d b c h a;simp[wL,aC]at g;have a:(Z (ll cx cf fuel M o e f) λt=>three t λd b c=> @Ex.rec (λ_=>Out) (ll cx cf fuel M k b c) (λi=>some (.exit i,b,c)) (some (.ret,b,c)) d)=D (d,b,c):=a;obtain⟨⟨m,j,l⟩,p,a⟩:=ed.1 a;have x:=r g.1 e f m j l h p;cases m with
  |normal=>exact s g.2 j l d b c x a
  |exit i=>
   have a:some (Ex.exit i,j,l)=D (d,b,c):=a
   grind
  |ret=>
   have a:some (Ex.ret,j,l)=D (d,b,c):=a
   grind
 |cond z o k r s=>
  intro g e f d b c h a;simp[wL,aC]at g;have a:(Z (iG cx M e z) λw=>match w with
   | .ej v=> @Bool.rec (λ_=>Out) (ll cx cf fuel M k e f) (ll cx cf fuel M o e f) v
   |_=>none)=D (d,b,c):=a
  obtain⟨w,B,a⟩:=ed.1 a;cases w<;>simp[reduceCtorEq]at a;rename_i v;cases v;exact s g.2 e f d b c h a;exact r g.1 e f d b c h a
 |block id k q=>
  intro g e f d b c h a;have a:(Z (ll cx cf fuel M k e f) λt=>three t λd b c=> @Ex.rec (λ_=>Out) (some (.normal,b,c)) (λi=> @Bool.rec (λ_=>Out) (some (.exit i,b,c)) (some (.normal,b,c)) (aq i id)) (some (.ret,b,c)) d)=D (d,b,c):=a;obtain⟨⟨m,j,l⟩,p,a⟩:=ed.1 a;have x:=q g e f m j l h p;have:b=j:=by
   cases m with
   |normal=>simp_all
   |exit i=>simp[nK]at a;cases y:aq i id<;>rw[y]at a<;>simp[ay,aI]at a<;>exact a.2.1.symm
   |ret=>simp_all
  rw[this];omega
 |loop k q=>intro g;exact RN (q g) fuel
 |_=>intro _ e f d b c _ a;exact absurd a (by simp[ll])
def EqR.refl(a:Env->H->Out):EqR K a a:=λ_ _ _=>rfl
def EqR.seq{c e:Code}{d f:Env->H->Out}(n:wL M K c)(j:EqR K (ll cx cf fuel M c) d)(l:EqR K (ll cx cf fuel M e) f):EqR K (ll cx cf fuel M (.seq c e)) (F7 d f):=by
 intro a b g;show F7 (ll cx cf fuel M c) (ll cx cf fuel M e) a b=F7 d f a b;unfold F7;rw[j a b g];rcases o:d a b with _|p
 rfl;obtain⟨k,h,i⟩:=p;have m:=RO (cx:=cx) (cf:=cf) (fuel:=fuel) c n a b k h i g (j a b g▸o);simp[fj,nK];cases k with
 |normal=>exact l h i m
 |exit q=>rfl
 |ret=>rfl
end
end
section
section
variable {P:ai}{cx:Ctx}{cf:jU}{M fuel:Nat}{K:List Nat}
def wx:Op->Bool
 | .load .. | .indexAddr .. | .slice .. | .convert .. | .lookup .. | .alloc .. | .box .. | .buildSlice .. | .makeSlice .. | .range .. | .makeMap .. =>true
 |_=>false
def PO(c:af Oper):Bool:=
 let e:=Po c.toList []
 let d:=c.toList.zipIdx
 d.all λa=>d.all λb=> !au b.2 a.2|| !((wx b.1.op&&jt a.1.op)||(jt b.1.op&&(wx a.1.op||jt a.1.op)))||(e.getD a.2 0).testBit b.2
def yY{e:af Oper}(f:PO e){a b:Nat}{d c:Oper}(j:e[a]? =D d)(k:e[b]? =D c)(m:a<b)
 (l:(wx d.op/\jt c.op=true)\/(jt d.op/\(wx c.op\/jt c.op=true))):kL e a b=true:=by
 unfold PO at f;have h:=List.all_eq_true.1 f (c,b) (mem_zipIdx k);have h2:=List.all_eq_true.1 h (d,a) (mem_zipIdx j);have i:au a b:=by rw[aP];omega
 simp[i,Bool.not_true,Bool.false_or,cj]at h2;rcases h2 with h2|h2
 exfalso;rcases l with⟨g,k2⟩|⟨g,k2|k2⟩<;>simp[g,k2]at h2
 exact h2
def Mc{c:Env}{d:H}{a:Op}{b:Nat}(e:jd cx M c d a=D b):wx a=true:=by cases a<;>first|rfl|(simp[jd]at e)
def JG{b:af Oper}(v:PO b):∀(k:List Oper) (c:Nat) (e:Seen) (f:Env) (g:H),(∀m,k[m]? =b[c+m]?)->
 (∀a∈e.oG,a.1<c/\∃d,b[a.1]? =D d/\wx d.op=true)->(∀a∈e.mQ,a.1<c/\∃d,b[a.1]? =D d/\jt d.op=true)->
 lf cx cf M b k c e f g=mo cx cf M b k f g:=by
 intro k;induction k with
 |nil=>intro c e f g _ _ _;rfl
 |cons d k w=>
  intro c e f g hl u q;have s:b[c]? =D d:=by have:=hl 0;simpa using this.symm
  have t:∀m,k[m]? =b[c+1+m]? :=λm=>by
   have:=hl (m+1);simp[dI]at this;rw[this];congr 1;omega
  show(Z (nj cx cf M b f g d) λa=>two a λl i=>
   Z (md b M f d.guard) λR=> @Bool.rec (λ_=>aa (Env×H)) (lf cx cf M b k (c+1) e l i)
    (@Bool.rec (λ_=>aa (Env×H))
      (@Option.rec Nat (λ_=>aa (Env×H)) (lf cx cf M b k (c+1) e l i)
        (λh=>iT (qF b c h e.mQ) (lf cx cf M b k (c+1) ⟨(c,h)::e.oG,e.mQ⟩ l i)) (jd cx M f g d.op))
      (iT (Ba b c g i e.oG) (iT (uD cx M b c f e.mQ d.op) (lf cx cf M b k (c+1) ⟨e.oG,(c,g,i)::e.mQ⟩ l i))) (jt d.op)) R)
   =Z (nj cx cf M b f g d) λa=>two a λC E=>mo cx cf M b k C E
  rcases O:nj cx cf M b f g d with _|a;rfl;obtain⟨l,i⟩:=a;simp[fj,m6];have A:∀a∈e.oG,a.1<c+1/\∃d,b[a.1]? =D d/\wx d.op=true:=λa j=>⟨iH (u a j).1,(u a j).2⟩;have z:∀a∈e.mQ,a.1<c+1/\∃d,b[a.1]? =D d/\jt d.op=true:=λa j=>⟨iH (q a j).1,(q a j).2⟩;have Q:∃x,md b M f d.guard=D x:=by
   rcases pi O with⟨r,_⟩|⟨r,_⟩<;>exact⟨_,r⟩
  obtain⟨x,r⟩:=Q;rw[r];simp[fj];cases x;exact w (c+1) e l i t A z;simp only;cases y:jt d.op;simp only;rcases L:jd cx M f g d.op with _|h
  grind
  have N:=Mc L;have:qF b c h e.mQ:=by
   unfold qF;rw[Da,cF];intro a j;obtain⟨n,B,o,p⟩:=q a j;have:=yY v o s n (.inr ⟨p,.inl N⟩);show @Bool.rec (λ_=>Bool) (kL b a.1 c) true (gJ a.2.1 a.2.2 h)=true;rw[this];cases gJ a.2.1 a.2.2 h<;>rfl
  simp[this,iO];refine w (c+1) _ l i t (λa j=>?_) z
  grind
  have:Ba b c g i e.oG:=by
   unfold Ba;rw[Da,cF];intro a j;obtain⟨n,B,o,p⟩:=u a j;have:=yY v o s n (.inl ⟨p,y⟩);show @Bool.rec (λ_=>Bool) (kL b a.1 c) true (gJ g i a.2)=true;rw[this];cases gJ g i a.2<;>rfl
  have F:∀h,qF b c h e.mQ:=λh=>by
   unfold qF;rw[Da,cF];intro a j;obtain⟨n,B,o,p⟩:=q a j;have:=yY v o s n (.inr ⟨p,.inr y⟩);show @Bool.rec (λ_=>Bool) (kL b a.1 c) true (gJ a.2.1 a.2.2 h)=true;rw[this];cases gJ a.2.1 a.2.2 h<;>rfl
  have I:uD cx M b c f e.mQ d.op:=by
   unfold uD;split;rename_i m S T _;rcases Z (iG cx M f S) fa with _|h
   rfl;exact F h;rfl
  simp[this,I,iO];refine w (c+1) _ l i t A λa j=>?_
  grind
abbrev rS:=jU->Nat->List T->H->aa (T×H)
def nh(P:ai)(cx:Ctx)(i:aj)(j:rS):Prop:=
 ∀cf,p9 P cx cf->∀k d b h g,j cf k d b=D (h,g)->∀e a c (f:af am),St cx e a.heap c b->jc a.heap c d f.toList->Dd P (ut cx e a c b h g) ((callFunc i f).run P a)
def sr(l:P.follows .mixedOrders)(j9:jP P cx){b:aj}{F:Fun}(i:P.funcs[b]? =D F.fn)(m:A5 F):nh P cx b (λcf d a c=>wD cx cf d F.fn F.M F.mp a c):=by
 intro cf g d a c n h k e p q f o j
 grind [Pm]
def vd{c:aj}{d:Prim}(j:H4 P cx c d):nh P cx c (λ_ _ a b=>Cu d a b):=by intro cf o p a b k g i e m n f l h;exact j a b k g i e m n f l h
def MX(ft:aj->aa rS)(a:Nat):jU:=
 @Nat.rec (λ_=>jU) (λ_ _ _=>none) (λa f c b e=>Z (ft c) λd=>d f a b e) a
def EX{ft:aj->aa rS}(m:∀c d,ft c=D d->nh P cx c d):∀a,p9 P cx (MX ft a):=by
 intro a;induction a with
 |zero=>intro c e f h g b;simp[MX]at b
 |succ a n=>
  intro c e f h g b i p q j o k;have b:(Z (ft c) λd=>d (MX ft a) a e f)=D (h,g):=b;have⟨d,l,b⟩:=ed.1 b;exact m c d l (MX ft a) n a e f h g b i p q j o k
end
def faV(off:Nat)(a:H)(i:T):aa ni:=match i with
 | .eZ b e f g=>Z (iZ (Nat.add g off)) λh=>be (.eZ b e f h) a
 | .kA c=>Z (kZ off c) λd=>be (.kA d) a
 |_=>none
def exV(a:H)(c:T)(b:Nat):aa ni:=match c with| .tuple d=>val a (oS d b)|_=>none
def akd(a:H)(e:T):aa ni:=match e with
 | .em b _=>val a (Z (iZ (m7 b)) λd=>some (.int .i64 (.ofNat d)))
 | .jb=>val a (some (.int .i64 0))
 | .arr _ _ _ c _=>val a (some (.int .i64 (.ofNat c)))
 |_=>none
end
inductive Tree (α:Type) where
 |nil
 |fw (l:Tree α) (k:Nat) (v:α) (r:Tree α)
def Tree.find{a:Type}(f:Tree a)(b:Nat):aa a:=
 @Tree.rec a (λ_=>aa a) none (λ_ c g _ d e=> @Bool.rec (λ_=>aa a) (@Bool.rec (λ_=>aa a) e d (au b c)) (some g) (aq b c)) f
def Tree.toList{a:Type}:Tree a->List (Nat×a)
 | .nil=>[]
 | .fw c b e d=>c.toList++(b,e)::d.toList
def Tree.VS{e:Type}{g:Tree e}{b:Nat}{d:e}(a:g.find b=D d):(b,d)∈g.toList:=by
 induction g with
 |nil=>simp[Tree.find]at a
 |fw m c h n k l=>
  have a: @Bool.rec (λ_=>aa e) (@Bool.rec (λ_=>aa e) (n.find b) (m.find b) (au b c)) (some h) (aq b c)=D d:=a;simp only[Tree.toList,List.mem_append,cz];cases f:aq b c;rw[f]at a;cases hl:au b c;rw[hl]at a;exact .inr (.inr (l a));rw[hl]at a;exact .inl (k a);rw[f]at a;have i:=aJ f;have j:h=d:=dp a;rw[i,j];exact .inr (.inl rfl)
inductive Tree.Xu {α:Type} (p:Nat->α->Prop):Tree α->Prop where
 |nil:Xu p .nil
 |fw {l:Tree α} {k:Nat} {v:α} {r:Tree α}:Xu p l->p k v->Xu p r->Xu p (.fw l k v r)
def Tree.Xu.find{b:Type}{e:Nat->b->Prop}{f:Tree b}(h:f.Xu e){d:Nat}{g:b}(c:f.find d=D g):e d g:=by
 have a:=Tree.VS c;clear c;induction h with
 |nil=>simp[Tree.toList]at a
 |fw hl i hr j k=>
  simp[Tree.toList,List.mem_append,cz,aI]at a;rcases a with h|⟨rfl,rfl⟩|h
  exact j h;exact i;exact k h
