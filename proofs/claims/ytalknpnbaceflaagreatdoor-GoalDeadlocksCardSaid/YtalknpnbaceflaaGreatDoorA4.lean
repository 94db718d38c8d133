/- TiEnv -/
import Derived.Test.YtalknpnbaceflaaGreatDoorA3
import Derived.Orders
set_option linter.all false
namespace Go.TI
noncomputable section
def pw(b:Nat)(d:T)(c:iM)(a:Nat):M (.cons b d c) a=if b=a then some d else M c a:=by
 show @Bool.rec (λ_=>aa T) (M c a) (some d) (Nat.beq b a)=_;cases e:Nat.beq b a with
 |true=>have:=aH e;simp[this]
 |false=>have:=db e;simp[this]
def Kr{l e:iM}{c:Nat}{g:T}(a:nG l c g=some e)(f:Nat):M e f=if f=c then some g else M l f:=by
 induction l generalizing e with
 |nil=>
  have a:some (iM.cons c g .nil)=some e:=a;simp only[aw]at a;subst a;rw[pw];by_cases b:c=f
  ·simp[b]
  ·simp[b,bE b]
 |cons d m i o=>
  have a: @Bool.rec (λ_=>aa iM) (J (nG i c g) λj=>some (.cons d m j)) (some (.cons d g i)) (Nat.beq d c)=some e:=a;cases h:Nat.beq d c with
  |true=>
   rw[h]at a;have k:=aH h;have a:some (iM.cons d g i)=some e:=a;simp only[aw]at a;subst a;rw[pw,pw,k];by_cases b:c=f
   ·simp[b]
   ·simp[b,bE b]
  |false=>
   rw[h]at a;have k:=db h;have a:(J (nG i c g) λj=>some (iM.cons d m j))=some e:=a;have⟨j,ht,a⟩:=eg.1 a;simp only[aw]at a;subst a;rw[pw,pw,o ht];by_cases b:d=f
   ·have:f≠c:=λn=>k (b.trans n);simp[b,this]
   ·simp[b]
def Env.Eu{d:Nat}{m g:Env}{c:Nat}{f:T}(a:m.set d c f=some g)(b:Nat):g.get d b=if b=c then some f else m.get d b:=by
 obtain⟨l,k⟩:=m;have a: @Bool.rec (λ_=>aa Env) (some ⟨l,.cons c f k⟩) (J (nG l c f) λj=>some ⟨j,k⟩) (lI d c)=some g:=a;have get:∀(h i:iM),(⟨h,i⟩:Env).get d b=if lI d b=true then M h b else M i b:=by
  intro h i;show @Bool.rec (λ_=>aa T) (M i b) (M h b) (lI d b)=_;cases lI d b<;>rfl
 cases hl:lI d c with
 |false=>
  rw[hl]at a;have a:some (⟨l,.cons c f k⟩:Env)=some g:=a;simp only[aw]at a;subst a;rw[get,get,pw];by_cases e:b=c
  ·subst e;simp[hl]
  ·simp[e,bE e]
 |true=>
  rw[hl]at a;have a:(J (nG l c f) λj=>some (⟨j,k⟩:Env))=some g:=a;have⟨j,n,a⟩:=eg.1 a;simp only[aw]at a;subst a;rw[get,get,Kr n];by_cases e:b=c
  ·subst e;simp[hl]
  ·simp[e]
theorem lO.put{k:ah Obj}{m:Mu}{h:Nat}{f g:Env}{i:Act}{e:aa Tmp}{l:T}{c:aq}(o:lO k m h f i.tmps)(s:iu k m l c)(q:∀b,e=some b->b<i.tmps.size)
 (a:f.dst h e l=some g):lO k m h g (i.put e c).tmps:=by
 cases e with
 |none=>
  have a:some f=some g:=a;simp only[aw]at a;subst a;exact o
 |some b=>
  have a:f.set h b l=some g:=a;intro p t d;rw[Env.Eu a]at d;have r:=q b rfl;by_cases j:p=b
  ·subst j;simp only[bw,aw]at d;subst d;simpa[Act.put,cj,r]using s
  ·simp only[j,br]at d;have:=o p t d;simpa[Act.put,cj,Array.getElem?_setIfInBounds_ne (bE j)]using this
def Act.sU(a:Act)(b:aa Tmp)(c:aq):(a.put b c).tmps.size=a.tmps.size:=by cases b<;>simp[Act.put]
def Act.sY(a:Act)(b:aa Tmp)(c:aq):(a.put b c).defers=a.defers:=by cases b<;>rfl
def EK{x:ah Obj}{A:Mu}{l:Nat}{j:Env}{c:Act}{g:ah Oper}{i:Oper}{d:Bool}(z:lO x A l j c.tmps)(v:∀(f:Nat) (b:Oper) t,g[f]? =some b->b.dst=some t->t<c.tmps.size)
 (a:lQ g l j i.guard=some d):Region.wanted i (yielded g c.tmps)=d:=by
 unfold Region.wanted;cases o:i.guard with
 |none=>
  rw[o]at a;have a:some true=some d:=a;simpa using a
 |some b=>
  obtain⟨f,n⟩:=b;rw[o]at a;have a:(J (J (J (oo g.toList f) λi=>i.dst) λe=>j.get l e) λm=>
   match m with
   | .ez d=>some (@Bool.rec (λ_=>Bool) (@Bool.rec (λ_=>Bool) true false n) n d)
   |_=>some false)=some d:=a
  replace a:=eg.1 a;obtain⟨m,h,a⟩:=a;replace h:=eg.1 h;obtain⟨e,k,h⟩:=h;replace k:=eg.1 k;obtain⟨b,p,r⟩:=k;rw[mg]at p;have q:g[f]? =some b:=by simpa using p
  have w:=v f b e q r;have s:=z e m h;have y:((g[f]?).bind (·.dst)).bind (c.tmps[·]?)=some (c.tmps.getD e Go.undef):=by
   simp[q,r,cj,w]
  simp only[yielded,y];generalize c.tmps.getD e Go.undef=D at s;cases s<;>simp only[aw]at a<;>first
   |(subst a;rfl)
   |skip
  rename_i u;subst a;cases u<;>cases n<;>rfl
section
def tT(cx:Ctx)(base:Nat)(w:World)(f:Mu)(h:H)(c:T)(h':H)(b:aq)(d:World):Prop:=ZK cx base w f h.size c h' b d/\mR h h'
def pL(P:aj)(cx:Ctx)(cf:jQ):Prop:=
 ∀f c h g h',cf f c h=some (g,h')->∀base w b (d:ah aq),St cx base w.heap b h->iW w.heap b c d.toList->Cu P (tT cx base w b h g h') ((callFunc f d).run P w)
def wu(cx:Ctx)(base D m:Nat)(w0:World)(μ0:Mu)(h0:H)(e:Env)(h:H)(a:Act)(w:World):Prop:=
 ∃b,St cx base w.heap b h/\lO w.heap b D e a.tmps/\sd w0 μ0 w b/\Bb μ0 b h0.size h.size/\mR h0 h/\a.tmps.size=m/\a.defers=[]
section
variable {P:aj}{cx:Ctx}{cf:jQ}{base D m:Nat}{w0 w:World}{μ0:Mu}{h0 h h':H}{e e':Env}{a:Act}{ops:ah Oper}{Q:Exit->Act->World->Prop}
def IE(m:Nat)(ops:ah Oper):Prop:=∀(d:Nat) (b:Oper) c,ops[d]? =some b->b.dst=some c->c<m
def wu.after(H:wu cx base D m w0 μ0 h0 e h a w){d:aa Tmp}(z:∀b,d=some b->b<m){l:T}(r:e.dst D d l=some e')
 {g:Result Next} (hr:∀base c,St cx base w.heap c h->lO w.heap c D e a.tmps->Cu P (tT cx base w c h l h') g):Cu P (λi n=>wu cx base D m w0 μ0 h0 e' h' (a.put d i) n) g:=by
 obtain⟨c,b,k,x,o,p,j,A⟩:=H;refine(hr base c b k).mono λi n q=>?_;obtain⟨⟨y,s,t,f,u⟩,v⟩:=q;refine⟨y,t,?_,x.trans f,o.trans (hp:=w.heap) u f.ext,p.trans v,by rw[Act.sU];exact j,by rw[Act.sY];omega⟩;exact lO.put (k.ext f.ext) s (λb E=>by rw[j];grind) r
def MD(j7:jT P cx)(R:pL P cx cf){o:Nat}{d:Oper}(u:ops[o]? =some d)(t:IE m ops)(b:mV cx cf D ops e h d=some (e',h'))
 (H:wu cx base D m w0 μ0 h0 e h a w) {F:Act->World->Prop} (z:∀I q,wu cx base D m w0 μ0 h0 e' h' I q->F I q):wpOp P ops Q o F a w:=by
 have N:=H;obtain⟨v,c,f,x,S,T,A,al⟩:=N;unfold wpOp;simp only[u];replace b:=eg.1 b;obtain⟨ae,ab,b⟩:=b;have M:=EK f (λj p c W i=>by rw[A];exact t j p c W i) ab;cases ae with
 |false=>
  have b:(J (e.dst D d.dst .undef) λe'=>some (e',h))=some (e',h'):=b;replace b:=eg.1 b;obtain⟨L,n,b⟩:=b;simp only[aw,aF]at b;obtain⟨rfl,rfl⟩:=b;simp only[M,cC,br];refine z _ _ ⟨v,c,lO.put f .undef (λc i=>by rw[A];exact t o d c u i) n,x,S,T,by rw[Act.sU];exact A,by rw[Act.sY];omega⟩
 |true=>
  simp only[M,bw];left;have b:(J (ke d.op cx D e h) λy=> @nh.rec (λ_=>aa (Env×TI.H))
   (λg h'=>J (e.dst D d.dst g) λe'=>some (e',h'))
   (λs r=>J (cf s r h) λf=>two f λg h'=>J (e.dst D d.dst g) λe'=>some (e',h')) y)=some (e',h'):=b
  replace b:=eg.1 b;obtain⟨y,E,b⟩:=b;rcases y with⟨g,k⟩|⟨s,r⟩
  ·skip
   have b:(J (e.dst D d.dst g) λe'=>some (e',k))=some (e',h'):=b;replace b:=eg.1 b;obtain⟨L,n,b⟩:=b;simp only[aw,aF]at b;obtain⟨rfl,rfl⟩:=b;refine Cu.wp (H.after (λc i=>t o d c u i) n (h':=k) λbase v c f=>?_) (λK q l=>z _ _ l);exact((BK j7 c f E).ran).mono λK q l=>⟨l,Uj c.wf g k E⟩
  ·skip
   have b:(J (cf s r h) λf=>two f λg h'=>J (e.dst D d.dst g) λe'=>some (e',h'))=some (e',h'):=b;replace b:=eg.1 b;obtain⟨⟨g,k⟩,V,b⟩:=b;simp only[mv]at b;replace b:=eg.1 b;obtain⟨L,n,b⟩:=b;simp only[aw,aF]at b;obtain⟨rfl,rfl⟩:=b;refine Cu.wp (H.after (λc i=>t o d c u i) n (h':=k) λbase v c f=>?_) (λK q l=>z _ _ l);have⟨_,O,U,Z⟩:=KI (P:=P) c f E;rw[Z];exact R s r h g k V base w v O c U
def II(j7:jT P cx)(n:pL P cx cf)(q:IE m ops):∀(c:List Oper) (d:Nat) (e:Env) (h:H) (a:Act) (w:World),(∀g,c[g]? =ops[d+g]?)->
 lZ cx cf D ops c e h=some (e',h')->wu cx base D m w0 μ0 h0 e h a w->(∀f i,wu cx base D m w0 μ0 h0 e' h' f i->Q .normal f i)->wpOps P ops Q (List.range' d c.length) a w:=by
 intro c;induction c with
 |nil=>
  intro d e h a w _ b H j;have b:some (e,h)=some (e',h'):=b;simp only[aw,aF]at b;obtain⟨rfl,rfl⟩:=b;exact j a w H
 |cons k c t=>
  intro d e h a w hl b H j;have b:(J (mV cx cf D ops e h k) λu=>two u λe' h'=>lZ cx cf D ops c e' h')=some (e',h'):=b;replace b:=eg.1 b;obtain⟨⟨o,p⟩,s,b⟩:=b;simp only[mv]at b;simp only[aQ,List.range'_succ];rw[wpOps_cons];have r:ops[d]? =some k:=by have:=hl 0;grind
  refine MD j7 n r q s H λf i l=>t (d+1) o p f i (λg=>?_) b l j;have:=hl (g+1);simp only[dF]at this;rw[this];grind
def Xx(m:Nat)(ops:ah Oper):Bool:=ops.toList.all λb=>match b.dst with|some c=>Nat.blt c m|none=>true
def Xw(b:Xx m ops=true):IE m ops:=by
 intro g d i f c;unfold Xx at b;rw[cg]at b;have:=b d (by grind);rw[c]at this;simp_all
def oK(m:Nat)(qS:ah Oper->Bool):Code->Bool
 | .region _ ops c=>Xx m ops&&(!c||qS ops)
 | .seq a b=>oK m qS a&&oK m qS b
 | .cond _ a b=>oK m qS a&&oK m qS b
 | .block _ b=>oK m qS b
 | .loop b=>oK m qS b
 |_=>true
def afv:Ex->Exit
 | .normal=> .normal
 | .exit b=> .exit b
 | .ret=> .ret
def VM(P:aj)(cx:Ctx)(cf:jQ)(qS:ah Oper->Bool):Prop:=
 ∀(base D m:Nat) (w0:World) (μ0:Mu) (h0:H) (ops:ah Oper) (e e':Env) (h h':H) (a:Act) (w:World) (Q:Exit->Act->World->Prop) (id:Nat),qS ops=true->IE m ops->
  lf cx cf D ops ops.toList 0 ⟨[],[]⟩ e h=some (e',h')->wu cx base D m w0 μ0 h0 e h a w->(∀b c,wu cx base D m w0 μ0 h0 e' h' b c->Q .normal b c)->(Code.region id ops true).wp P Q a w
def wu.drop(H:wu cx base D m w0 μ0 h0 e h a w):wu cx base D m w0 μ0 h0 ⟨e.vars,.nil⟩ h a w:=by
 obtain⟨q,n,l,p,g,i,k,j⟩:=H;refine⟨q,n,λb d c=>l b d ?_,p,g,i,k,j⟩;obtain⟨f,o⟩:=e;have c: @Bool.rec (λ_=>aa T) (M .nil b) (M f b) (lI D b)=some d:=c;show @Bool.rec (λ_=>aa T) (M o b) (M f b) (lI D b)=some d;cases hl:lI D b with
 |true=>rw[hl]at c;exact c
 |false=>rw[hl]at c;grind [M]
def wpL(P:aj)(d:Code)(Q:Exit->Act->World->Prop)(a:Act)(w:World):Prop:=
 ∀(c:Frame) (g:List Item) (f:List Frame),∃e b i,Q e b i/\Arrives P (lone (c.at a (.code d:: .inLoop d::g)) f w) c g f e b i
def Qe{b:Code}(h:b.wp P (Exit.then (wpL P b Q) Q) a w):wpL P b Q a w:=by
 intro i k j;have⟨e,f,g,d,c⟩:=h i (.inLoop b::k) j;cases e with
 |normal=>
  have⟨n,l,q,p,o⟩:=d i k j;exact⟨n,l,q,p,.of_steps (Steps.trans c (.one step_inLoop)) o⟩
 |exit id=>exact⟨_,f,g,d,.pass (x:= .inLoop b) rfl (λ_ _=> .inl G) c⟩
 |goto s=>exact⟨_,f,g,d,.pass (x:= .inLoop b) rfl (λ_ _=> .inl G) c⟩
 |ret=>exact⟨_,f,g,d,.pass (x:= .inLoop b) rfl (λ_ _=> .inl G) c⟩
 |panic r=>exact⟨_,f,g,d,.pass (x:= .inLoop b) rfl (λ_ _=> .inl G) c⟩
 |outgrown=>exact⟨_,f,g,d,.pass (x:= .inLoop b) rfl (λ_ _=> .inl G) c⟩
def Qd{b:Code}(h:wpL P b Q a w):(Code.loop b).wp P Q a w:=by
 intro d j f;have⟨e,c,k,i,g⟩:=h d j f;exact⟨e,c,k,i,.of_steps (.one step_loop) g⟩
def af2(P:aj)(cx:Ctx)(base D m:Nat)(w0:World)(μ0:Mu)(h0:H)(f:Code)(g:Env->H->Out):Prop:=
 ∀e h d e' h',g e h=some (d,e',h')->∀a w Q,wu cx base D m w0 μ0 h0 e h a w->(∀b c,wu cx base D m w0 μ0 h0 e' h' b c->Q (afv d) b c)->f.wp P Q a w
def No{p:Code}{j:Env->H->Out}(s:af2 P cx base D m w0 μ0 h0 p j):∀(f:Nat) (e:Env) (h:H) (c:Ex) (e':Env) (h':H),qt j f e h=some (c,e',h')->
 ∀a w Q,wu cx base D m w0 μ0 h0 e h a w->(∀d g,wu cx base D m w0 μ0 h0 e' h' d g->Q (afv c) d g)->wpL P p Q a w:=by
 intro f;induction f with
 |zero=>simp[qt]
 |succ f t=>
  intro e h c e' h' b a w Q H n;have b:(J (j e h) λu=>three u λc e' h'=> @Ex.rec (λ_=>Out) (qt j f e' h') (λo=>some (.exit o,e',h')) (some (.ret,e',h')) c)=some (c,e',h'):=b;replace b:=eg.1 b;obtain⟨⟨q,i,k⟩,r,b⟩:=b;refine Qe (s e h q i k r a w _ H λd g l=>?_);cases q with
  |normal=>
   have b:qt j f i k=some (c,e',h'):=b;exact t i k c e' h' b d g Q l n
  |exit o=>
   have b:some (Ex.exit o,i,k)=some (c,e',h'):=b;simp only[aw,aF]at b;obtain⟨rfl,rfl,rfl⟩:=b;exact n d g l
  |ret=>
   have b:some (Ex.ret,i,k)=some (c,e',h'):=b;simp only[aw,aF]at b;obtain⟨rfl,rfl,rfl⟩:=b;exact n d g l
def N0(j7:jT P cx)(N:pL P cx cf){qS:ah Oper->Bool}(O:VM P cx cf qS)(p:Nat):∀(s:Code),oK m qS s=true->af2 P cx base D m w0 μ0 h0 s (ll cx cf p D s):=by
 intro s;induction s with
 |skip=>
  intro _ e h c e' h' b a w Q H d;have b:some (Ex.normal,e,h)=some (c,e',h'):=b;simp only[aw,aF]at b;obtain⟨rfl,rfl,rfl⟩:=b;exact wp_skip (d a w H)
 |exit id=>
  intro _ e h c e' h' b a w Q H d;have b:some (Ex.exit id,e,h)=some (c,e',h'):=b;simp only[aw,aF]at b;obtain⟨rfl,rfl,rfl⟩:=b;exact wp_exit (d a w H)
 |ret=>
  intro _ e h c e' h' b a w Q H d;have b:some (Ex.ret,e,h)=some (c,e',h'):=b;simp only[aw,aF]at b;obtain⟨rfl,rfl,rfl⟩:=b;exact wp_ret (d a w H)
 |region id ops R=>
  intro g e h c e' h' b a w Q H d;simp only[oK,az]at g;have L:=Xw g.1;have n:=H.drop;obtain⟨I,V⟩:=e;cases R with
  |false=>
   have b:(J (lZ cx cf D ops ops.toList ⟨I,.nil⟩ h) λo=>two o λe' h'=>some (Ex.normal,(⟨e'.vars,.nil⟩:Env),h'))=some (c,e',h'):=b;replace b:=eg.1 b;obtain⟨⟨k,j⟩,q,b⟩:=b;simp only[mv,aw,aF]at b;obtain⟨rfl,rfl,rfl⟩:=b;refine wp_region ?_;rw[List.range_eq_range'];have:=II (Q:=Q) j7 N L ops.toList 0 ⟨I,.nil⟩ h a w (λU=>by simp) q n λf i x=>d f i x.drop;omega
  |true=>
   have b:(J (lf cx cf D ops ops.toList 0 ⟨[],[]⟩ ⟨I,.nil⟩ h) λo=>two o λe' h'=>some (Ex.normal,(⟨e'.vars,.nil⟩:Env),h'))=some (c,e',h'):=b;replace b:=eg.1 b;obtain⟨⟨k,j⟩,q,b⟩:=b;simp only[mv,aw,aF]at b;obtain⟨rfl,rfl,rfl⟩:=b;exact O base D m w0 μ0 h0 ops _ _ h j a w Q id (by grind) L q n λf i x=>d f i x.drop
 |seq r y A E=>
  intro g e h c e' h' b a w Q H d;simp only[oK,az]at g;have b:(J (ll cx cf p D r e h) λo=>three o λc e' h'=> @Ex.rec (λ_=>Out) (ll cx cf p D y e' h') (λl=>some (.exit l,e',h')) (some (.ret,e',h')) c)=some (c,e',h'):=b;replace b:=eg.1 b;obtain⟨⟨t,k,j⟩,q,b⟩:=b;refine wp_seq (A g.1 e h t k j q a w _ H λf i n=>?_);cases t with
  |normal=>exact E g.2 k j c e' h' b f i Q n d
  |exit l=>
   have b:some (Ex.exit l,k,j)=some (c,e',h'):=b;simp only[aw,aF]at b;obtain⟨rfl,rfl,rfl⟩:=b;exact d f i n
  |ret=>
   have b:some (Ex.ret,k,j)=some (c,e',h'):=b;simp only[aw,aF]at b;obtain⟨rfl,rfl,rfl⟩:=b;exact d f i n
 |cond M r y A E=>
  intro g e h c e' h' b a w Q H d;simp only[oK,az]at g;have b:(J (iG cx D e M) λF=>match F with
   | .ez v=> @Bool.rec (λ_=>Out) (ll cx cf p D y e h) (ll cx cf p D r e h) v
   |_=>none)=some (c,e',h'):=b
  replace b:=eg.1 b;obtain⟨F,S,b⟩:=b;cases F<;>simp only[reduceCtorEq]at b;rename_i v;have K:a.eval M= .bool v:=by
   obtain⟨W,T,o,_⟩:=H;exact(iZ T o S).tu
  cases v with
  |true=>exact wp_cond_true K (A g.1 e h c e' h' b a w Q H d)
  |false=>exact wp_cond_false K (E g.2 e h c e' h' b a w Q H d)
 |block id r z=>
  intro g e h c e' h' b a w Q H d;have b:(J (ll cx cf p D r e h) λo=>three o λc e' h'=> @Ex.rec (λ_=>Out) (some (.normal,e',h')) (λl=> @Bool.rec (λ_=>Out) (some (.exit l,e',h')) (some (.normal,e',h')) (Nat.beq l id)) (some (.ret,e',h')) c)=some (c,e',h'):=b;replace b:=eg.1 b;obtain⟨⟨t,k,j⟩,q,b⟩:=b;refine wp_block (z g e h t k j q a w _ H λf i n=>?_);cases t with
  |normal=>
   have b:some (Ex.normal,k,j)=some (c,e',h'):=b;simp only[aw,aF]at b;obtain⟨rfl,rfl,rfl⟩:=b;exact d f i n
  |exit l=>
   have b: @Bool.rec (λ_=>Out) (some (.exit l,k,j)) (some (.normal,k,j)) (Nat.beq l id)=some (c,e',h'):=b;show(if l=id then Q .normal f i else Q (.exit l) f i);cases u:Nat.beq l id with
   |true=>
    rw[u]at b;simp only[aw,aF]at b;obtain⟨rfl,rfl,rfl⟩:=b;rw[au (aH u)];exact d f i n
   |false=>
    rw[u]at b;simp only[aw,aF]at b;obtain⟨rfl,rfl,rfl⟩:=b;rw[Z (db u)];exact d f i n
  |ret=>
   have b:some (Ex.ret,k,j)=some (c,e',h'):=b;simp only[aw,aF]at b;obtain⟨rfl,rfl,rfl⟩:=b;exact d f i n
 |loop r z=>
  intro g e h c e' h' b a w Q H d;exact Qd (No (z g) p e h c e' h' b a w Q H d)
 |_=>intro _ e h c e' h' b;exact absurd b (by simp[ll])
end
end
section
def pq{d g:Type}{b c:d->aa g}:∀{a:List d},(∀x∈a,b x=c x)->iH b a=iH c a
 | [],_=>rfl
 |x::a,h=>by
  rw[kx,kx,h x G,pq λf i=>h f (by grind)]
section
variable {cx:Ctx}{D:Nat}{e e':Env}{h h1 h2:H}
def DE{a:List ai}(c:∀b∈a,iG cx D e b=iG cx D e' b):s7 cx D e a=s7 cx D e' a:=pq c
def An{b:List (Nat×ai)}(d:∀a∈b,iG cx D e a.2=iG cx D e' a.2):partsOf cx D e b=partsOf cx D e' b:=by
 unfold partsOf;refine pq λa c=>?_;obtain⟨f,g⟩:=a;simp only[mv];rw[d (f,g) c]
def xr{b:aa ai}(f:∀a,b=some a->iG cx D e a=iG cx D e' a):kN cx D e b=kN cx D e' b:=by
 cases b with
 |none=>rfl
 |some a=>
  show(J (iG cx D e a) λd=>J (sL d) λc=>some (some c))=(J (iG cx D e' a) λd=>J (sL d) λc=>some (some c));rw[f a rfl]
def CQ{f:Op}(b:∀a∈f.operands,iG cx D e a=iG cx D e' a):ke f cx D e h=ke f cx D e' h:=by
 by_cases u:∃d,f= .call d
 ·obtain⟨d,rfl⟩:=u;have h1:s7 cx D e d.args.toList=s7 cx D e' d.args.toList:=DE λa v=>b a (by simp only[Op.operands,Call.operands,Array.mem_append];grind);simp only[ke,Gb,h1];cases t:d.callee with
  |builtin i=>rfl
  |invoke a I=>rfl
  |value n=>
   have h2:=b n (by simp only[Op.operands,Call.operands,t];simp)
   grind
 cases f with
 |move a=>have h1:=b a (by simp[Op.operands]);simp_all[F8,ke]
 |assign a=>have h1:=b a (by simp[Op.operands]);simp_all[F8,ke]
 |pick d g i=>
  have h1:=b d (by simp[Op.operands]);have h2:=b g (by simp[Op.operands]);have s:=b i (by simp[Op.operands]);simp_all[Im,ke]
 |alloc c=>rfl
 |box c a=>have h1:=b a (by simp[Op.operands]);simp_all[Rp,ke]
 |build c l=>
  have h1:partsOf cx D e l.toList=partsOf cx D e' l.toList:=An λo w=>b o.2 (by simp only[Op.operands,List.mem_toArray,List.mem_map];grind);simp_all[Da,ke]
 |buildSlice c J l=>
  have h1:partsOf cx D e l.toList=partsOf cx D e' l.toList:=An λo w=>b o.2 (by simp only[Op.operands,List.mem_toArray,List.mem_map];grind);simp_all[qx,ke]
 |load c g=>have h1:=b g (by simp[Op.operands]);simp_all[Lx,ke]
 |store c g a=>have h1:=b g (by simp[Op.operands]);have h2:=b a (by simp[Op.operands]);simp_all[F5,ke]
 |nilCheck a=>have h1:=b a (by simp[Op.operands]);simp_all[uw,ke]
 |binOp f c a z L=>
  have h1:=b a (by simp[Op.operands]);have h2:=b z (by simp[Op.operands]);cases f<;>simp only[ke,hEq,Rq,h1,h2]
 |unOp f c a=>have h1:=b a (by simp[Op.operands]);simp_all[hUn,ke]
 |convert y A a=>have h1:=b a (by simp[Op.operands]);simp_all[Ph,ke]
 |makeInterface c a=>have h1:=b a (by simp[Op.operands]);simp_all[C6,ke]
 |makeFunc E g i=>
  have h1:s7 cx D e i.toList=s7 cx D e' i.toList:=DE λa v=>b a (by simp only[Op.operands,Array.mem_append];grind);simp_all[F9,ke]
 |makeSlice c x d=>have h1:=b x (by simp[Op.operands]);have h2:=b d (by simp[Op.operands]);simp_all[rU,ke]
 |slice c a q p r=>
  have h1:=b a (by simp[Op.operands]);have h2:kN cx D e q=kN cx D e' q:=xr λk j=>b k (by subst j;simp[Op.operands]);have s:kN cx D e p=kN cx D e' p:=xr λk j=>b k (by subst j;simp[Op.operands]);have F:kN cx D e r=kN cx D e' r:=xr λk j=>b k (by subst j;simp[Op.operands]);simp_all[F6,ke]
 |fieldAddr c a n=>have h1:=b a (by simp[Op.operands]);simp_all[rY,ke]
 |field c a n=>have h1:=b a (by simp[Op.operands]);simp_all[C9,ke]
 |indexAddr c a m=>have h1:=b a (by simp[Op.operands]);have h2:=b m (by simp[Op.operands]);simp_all[rV,ke]
 |index c a m=>have h1:=b a (by simp[Op.operands]);have h2:=b m (by simp[Op.operands]);simp_all[C5,ke]
 |extract a m=>have h1:=b a (by simp[Op.operands]);simp_all[wU,ke]
 |makeMap c K=>rfl
 |lookup=>rfl
 |mapUpdate=>rfl
 |range c a=>have h1:=b a (by simp[Op.operands]);simp_all[F7,B3,ke]
 |next it y=>have h1:=b it (by simp[Op.operands]);simp_all[C2,Lv,ke]
 |entry=>rfl
 |_=>first|rfl|grind
def yJ{c:Op}(b:∀a∈c.operands,iG cx D e a=iG cx D e' a):jb cx D e h c=jb cx D e' h c:=by
 cases c with
 |load d a=>have h1:=b a (by simp[Op.operands]);grind [jb]
 |indexAddr d a f=>have h1:=b a (by simp[Op.operands]);grind [jb]
 |slice d a j i k=>have h1:=b a (by simp[Op.operands]);grind [jb]
 |convert m g a=>have h1:=b a (by simp[Op.operands]);grind [jb]
 |lookup d a f l=>have h1:=b a (by simp[Op.operands]);grind [jb]
 |_=>rfl
def ky(h1 h2:H)(c d:aa nh):Prop:=∀b a,c=some (.val b a)->a=h1/\d=some (.val b h2)
theorem ky.none:ky h1 h2 none none:=λ_ _ a=>by grind
theorem ky.val{a:aa T}:ky h1 h2 (val h1 a) (val h2 a):=λd c b=>by
 obtain⟨rfl,rfl⟩:=iI.1 b;exact⟨rfl,iI.2 ⟨rfl,rfl⟩⟩
def ky.some{a:T}:ky h1 h2 (some (.val a h1)) (some (.val a h2)):=λa b c=>by
 grind
theorem ky.J{f:Type}{a:aa f}{c d:f->aa nh}(g:∀b,a=Option.some b->ky h1 h2 (c b) (d b)):ky h1 h2 (J a c) (J a d):=by
 cases a with
 |none=>exact ky.none
 |some b=>simp_all
theorem ky.iS{a:Bool}{b c:aa nh}(d:ky h1 h2 b c):ky h1 h2 (iS a b) (iS a c):=by
 cases a with
 |false=>exact ky.none
 |true=>exact d
def ky.bool{a:Bool}{b d c f:aa nh}(g:ky h1 h2 b c)(i:ky h1 h2 d f):ky h1 h2 (Bool.casesOn a b d) (Bool.casesOn a c f):=by
 cases a<;>assumption
def Qa(b:Nat->T):Prop:=(∀a,b a= .fc a 0 0 0)\/(∃c,∀a,b a= .arr a 0 0 c false)\/(∀a,b a= .iter a)\/(∀a,b a= .map a)
def Mk(h1 h2:H)(f g:aa nh):Prop:=∀c b,f=some (.val c b)->∃a d,Qa a/\c=a h1.size/\b=h1.cons d/\g=some (.val (a h2.size) (h2.cons d))
theorem Mk.none:Mk h1 h2 none none:=λ_ _ a=>by grind
def Mk.new{f:Nat->T}{c:jK}(d:Qa f):Mk h1 h2 (kr (h1.new f c)) (kr (h2.new f c)):=λi g a=>by
 rw[ko,H.mI]at a;simp only[aw,aF]at a;obtain⟨rfl,rfl⟩:=a;exact⟨f,c,d,rfl,rfl,by rw[ko,H.mI]⟩
theorem Mk.J{f:Type}{a:aa f}{c d:f->aa nh}(g:∀b,a=Option.some b->Mk h1 h2 (c b) (d b)):Mk h1 h2 (J a c) (J a d):=by
 cases a with
 |none=>exact Mk.none
 |some b=>simp_all
theorem Mk.iS{a:Bool}{b c:aa nh}(d:Mk h1 h2 b c):Mk h1 h2 (iS a b) (iS a c):=by
 cases a with
 |false=>exact Mk.none
 |true=>exact d
def Uk{a:af}:Mk h1 h2 (ke (.alloc a) cx D e h1) (ke (.alloc a) cx D e h2):=by
 simp only[ke,Gd];refine Mk.J λb _=>?_;cases zH cx b<;>exact Mk.new (.inl λ_=>rfl)
def aaL{a:af}{b:ai}:Mk h1 h2 (ke (.box a b) cx D e h1) (ke (.box a b) cx D e h2):=by
 simp only[ke,Rp];exact Mk.J λc _=>Mk.iS (Mk.new (.inl λ_=>rfl))
def Hj{c:af}{b:Nat}{a:ah (Nat×ai)}:Mk h1 h2 (ke (.buildSlice c b a) cx D e h1) (ke (.buildSlice c b a) cx D e h2):=by
 simp only[ke,qx];refine Mk.J λd _=>?_;cases d.u<;>first
  |exact Mk.none
  |exact Mk.J λg _=>Mk.J λa _=>Mk.iS (Mk.iS (Mk.J λf _=>Mk.new (.inr (.inl ⟨_,λ_=>rfl⟩))))
def I5{c:af}{b a:ai}:Mk h1 h2 (ke (.makeSlice c b a) cx D e h1) (ke (.makeSlice c b a) cx D e h2):=by
 simp only[ke,rU];refine Mk.J λd _=>?_;cases d.u<;>first
  |exact Mk.none
  |exact Mk.J λf _=>Mk.J λ_ _=>Mk.J λ_ _=>Mk.J λ_ _=>Mk.J λ_ _=>Mk.iS (Mk.iS (Mk.iS (Mk.iS (Mk.new (.inr (.inl ⟨_,λ_=>rfl⟩))))))
def Ni{b:af}{a:aa ai}:Mk h1 h2 (ke (.makeMap b a) cx D e h1) (ke (.makeMap b a) cx D e h2):=Mk.none
def Rh{f:Ty}{c g:T}(hl:∀a,fq c=some a->a<h1.size->h2.get a=h1.get a)(b:h1.load f c=some g):h2.load f c=some g:=by
 cases c with
 |fc a j k m=>
  have b:(J (h1.elem a j k) λe=>J (kZ m e.cells) λi=>lK f i)=some g:=b;show(J (h2.elem a j k) λe=>J (kZ m e.cells) λi=>lK f i)=some g;replace b:=eg.1 b;obtain⟨n,l,b⟩:=b;have o:h2.elem a j k=some n:=by
   have d:=l;unfold H.elem at d|-;replace d:=eg.1 d;obtain⟨q,p,_⟩:=d;rw[hl a rfl (H.gh p)];exact l
  rw[o];exact b
 |_=>exact b
def Hq{g:Ty}{j:T}{b:Nat}(hl:∀a,fq j=some a->a<h1.size->h2.get a=h1.get a):ky h1 h2 (mo h1 g j b) (mo h2 g j b):=by
 cases j with
 |V s m=>exact ky.J λ_ _=>ky.iS ky.some
 |arr a d l k m=>
  intro o n f;have q:=f;have f:iS (Nat.blt b k) (J (h1.get a) λc=>iS (Nat.beq c.sz g.size)<|iS (Nat.beq c.ep d) (J (jd (Nat.add l b)) λi=>some (nh.val (.fc a d i 0) h1)))=some (.val o n):=f;have⟨_,f⟩:=fj.1 f;have⟨j,r,_⟩:=eg.1 f;have p:=hl a rfl (H.gh r);have:mo h2 g (.arr a d l k m) b=iS (Nat.blt b k) (J (h1.get a) λc=>iS (Nat.beq c.sz g.size)<|iS (Nat.beq c.ep d) (J (jd (Nat.add l b)) λi=>some (nh.val (.fc a d i 0) h2))):=by
   rw[<-p];rfl
  rw[this];exact(ky.iS (ky.J λ_ _=>ky.iS (ky.iS (ky.J λ_ _=>ky.some))):ky h1 h2 (iS (Nat.blt b k) (J (h1.get a) λc=>iS (Nat.beq c.sz g.size)<|iS (Nat.beq c.ep d) (J (jd (Nat.add l b)) λi=>some (nh.val (.fc a d i 0) h1)))) _) o n q
 |_=>exact ky.none
theorem Hr{f:Nat}{g:Ty}{b:T}{d:Nat}(hl:∀a,fq b=some a->a<h1.size->h2.get a=h1.get a):ky h1 h2 (qR h1 f g b d) (qR h2 f g b d):=by
 unfold qR;refine ky.iS ?_;cases b<;>first
  |exact ky.none
  |exact ky.J λ_ _=>ky.some
  |skip
 rename_i a k m n;simp only;cases c:h1.get a with
 |none=>intro o l i;simp at i
 |some j=>
  rw[hl a rfl (H.gh c),c];simp[fw,ky.some,ky.iS,ky.bool]
def Nt{b:T}{f:List T}(hl:∀a,fq b=some a->a<h1.size->h2.get a=h1.get a)(c:h1.j1 b=some f):h2.j1 b=some f:=by
 cases b with
 |arr a j m l k=>
  have d:=c;unfold H.j1 at d|-;simp only at d|-;have⟨i,g,_⟩:=eg.1 d;rw[hl a rfl (H.gh g)];exact c
 |_=>exact c
def EW{g:U}{f:T}(hl:∀b,fq f=some b->b<h1.size->h2.get b=h1.get b)(a:jW cx h1 g f=true):jW cx h2 g f=true:=by
 cases g with
 |slice e=>
  unfold jW at a|-;simp only at a|-;cases d:cx.ty e with
  |none=>rw[d]at a;exact a
  |some k=>
   rw[d]at a;cases f with
   |arr b j q o l=>
    simp only at a|-;cases c:h1.get b with
    |none=>rw[c]at a;grind
    |some i=>rw[hl b rfl (H.gh c),c];rw[c]at a;exact a
   |_=>exact a
 |array p e=>
  unfold jW at a|-;simp only at a|-;cases d:cx.ty e with
  |none=>rw[d]at a;exact a
  |some k=>
   rw[d]at a;cases f with
   |fc b j m n=>
    simp only at a|-;cases c:h1.get b with
    |none=>rw[c]at a;grind
    |some i=>rw[hl b rfl (H.gh c),c];rw[c]at a;exact a
   |_=>exact a
 |_=>exact a
def KH{k:Op}(al:jr k=false)(hl:∀f,jb cx D e h1 k=some f->f<h1.size->h2.get f=h1.get f){c:T}{g:H}(b:ke k cx D e h1=some (.val c g)):
 (g=h1/\ke k cx D e h2=some (.val c h2))\/
 (∃p a,Qa p/\jb cx D e h1 k=some h1.size/\c=p h1.size/\g=h1.cons a/\ke k cx D e h2=some (.val (p h2.size) (h2.cons a))):=by
 have K:Mk h1 h2 (ke k cx D e h1) (ke k cx D e h2)->jb cx D e h1 k=some h1.size->(g=h1/\ke k cx D e h2=some (.val c h2))\/
  (∃p a,Qa p/\jb cx D e h1 k=some h1.size/\c=p h1.size/\g=h1.cons a/\ke k cx D e h2=some (.val (p h2.size) (h2.cons a))):=λV y=>by
  obtain⟨p,a,U,a8,bs,bu⟩:=V c g b
  grind
 by_cases S:∃w,k= .call w
 ·obtain⟨w,rfl⟩:=S;left;have:ky h1 h2 (ke (.call w) cx D e h1) (ke (.call w) cx D e h2):=by
   simp only[ke,Gb];refine ky.J λR _=>?_;cases ab:w.callee with
   |invoke a V=>exact ky.none
   |value p=>grind [jr]
   |builtin f=>
    cases f<;>simp[jr,ab]at al<;>simp only[mU]
    case len=>
     match R with
     | []=>exact ky.none
     | [a]=>
      simp only[RH];refine ky.J λ_ _=>ky.J λj _=>?_;cases j.u<;>first
       |exact ky.none
       |exact ky.val
       |(cases a<;>first|exact ky.none|exact ky.val)
     |_::_::_=>exact ky.none
    all_goals
     match R with
     | []=>exact ky.none
     | [a]=>exact ky.none
     | [a,Q]=>exact ky.val
     |_::_::_::_=>exact ky.none
  exact this c g b
 cases k with
 |alloc d=>exact K Uk rfl
 |box d a=>exact K aaL rfl
 |buildSlice d n P=>exact K Hj rfl
 |makeSlice d l w=>exact K I5 rfl
 |range=>grind [jr]
 |entry=>grind [jr]
 |store=>grind [jr]
 |next=>grind [jr]
 |load d i=>
  left;have b:(J (cx.ty d) λj=>J (iG cx D e i) λi=>val h1 (h1.load j i))=some (.val c g):=b;replace b:=eg.1 b;obtain⟨j,N,b⟩:=b;replace b:=eg.1 b;obtain⟨s,t,b⟩:=b;obtain⟨A,rfl⟩:=iI.1 b;refine⟨rfl,?_⟩;show(J (cx.ty d) λj=>J (iG cx D e i) λi=>val h2 (h2.load j i))=some (.val c h2);rw[N,t];exact iI.2 ⟨Rh (λf y z=>hl f (by show J (iG cx D e i) fq=some f;rw[t];exact y) z) A,rfl⟩
 |indexAddr d a I=>
  left;have bg:∀s,iG cx D e a=some s->∀f,fq s=some f->f<h1.size->h2.get f=h1.get f:=λs t f y z=>
   hl f (by show J (iG cx D e a) fq=some f;rw[t];exact y) z
  have:ky h1 h2 (ke (.indexAddr d a I) cx D e h1) (ke (.indexAddr d a I) cx D e h2):=by
   simp only[ke,rV];refine ky.J λj _=>ky.J λs t=>ky.J λ_ _=>ky.J λO _=>?_;cases j.u<;>first
    |exact ky.none
    |exact ky.J λW _=>Hq (bg s t)
    |grind [Hr,ky.J]
  exact this c g b
 |slice d a v m o=>
  left;have b:(J (cx.ty d) λj=>J (iG cx D e a) λa=>iS (jW cx h1 j.u a)<|J (kN cx D e v) λv=>J (kN cx D e m) λm=>J (kN cx D e o) λo=>
   iS (BS m o) (val h1 (rG (asSlice j.u a) v m o)))=some (.val c g):=b
  replace b:=eg.1 b;obtain⟨j,N,b⟩:=b;replace b:=eg.1 b;obtain⟨s,t,b⟩:=b;obtain⟨an,b⟩:=fj.1 b;have bp:jW cx h2 j.u s=true:=EW (λf y z=>hl f (by show J (iG cx D e a) fq=some f;rw[t];exact y) z) an;have:ky h1 h2 (J (kN cx D e v) λv=>J (kN cx D e m) λm=>J (kN cx D e o) λo=>iS (BS m o) (val h1 (rG (asSlice j.u s) v m o)))
   (J (kN cx D e v) λv=>J (kN cx D e m) λm=>J (kN cx D e o) λo=>iS (BS m o) (val h2 (rG (asSlice j.u s) v m o))):=
   ky.J λ_ _=>ky.J λ_ _=>ky.J λ_ _=>ky.iS ky.val
  obtain⟨U,a8⟩:=this c g b;refine⟨U,?_⟩;show(J (cx.ty d) λj=>J (iG cx D e a) λa=>iS (jW cx h2 j.u a)<|J (kN cx D e v) λv=>J (kN cx D e m) λm=>J (kN cx D e o) λo=>
   iS (BS m o) (val h2 (rG (asSlice j.u a) v m o)))=some (.val c h2)
  rw[N,t];simp_all
 |binOp k d a Q F=>
  left;have:ky h1 h2 (ke (.binOp k d a Q F) cx D e h1) (ke (.binOp k d a Q F) cx D e h2):=by
   cases k<;>simp only[ke,hEq,Rq]<;>first
    |exact ky.J λ_ _=>ky.J λ_ _=>ky.J λ_ _=>ky.iS (ky.J λ_ _=>ky.val)
    |exact ky.J λ_ _=>ky.J λ_ _=>ky.val
  exact this c g b
 |move a=>left;exact(show ky h1 h2 (ke (.move a) cx D e h1) (ke (.move a) cx D e h2)from ky.val) c g b
 |assign a=>left;exact(show ky h1 h2 (ke (.assign a) cx D e h1) (ke (.assign a) cx D e h2)from ky.val) c g b
 |pick w i f=>
  left;have:ky h1 h2 (ke (.pick w i f) cx D e h1) (ke (.pick w i f) cx D e h2):=by
   simp only[ke,Im];refine ky.J λc _=>?_;cases c<;>first|exact ky.none|simp[ky.val,ky.bool]
  exact this c g b
 |build d P=>
  left;have:ky h1 h2 (ke (.build d P) cx D e h1) (ke (.build d P) cx D e h2):=by
   simp only[ke,Da];refine ky.J λj _=>ky.J λ_ _=>?_;cases j.u<;>first|exact ky.none|exact ky.J λ_ _=>ky.val|simp[ky.val,ky.J]
  exact this c g b
 |nilCheck a=>
  left;have:ky h1 h2 (ke (.nilCheck a) cx D e h1) (ke (.nilCheck a) cx D e h2):=by
   simp only[ke,uw];refine ky.J λc _=>?_;cases c<;>first|exact ky.none|exact ky.some
  exact this c g b
 |unOp k d a=>left;exact(show ky h1 h2 (ke (.unOp k d a) cx D e h1) (ke (.unOp k d a) cx D e h2)from ky.J λ_ _=>ky.val) c g b
 |convert E x a=>
  left;have b:(J (cx.ty E) λ_=>J (iG cx D e a) λi=>J (cx.ty x) λL=>match L.u with
   | .slice _=>val h1 (GI cx x i)
   | .str=>(match i with
    | .str _=>val h1 (conv cx x i)
    |_=>val h1 (Kk cx h1 E i))
   |_=>val h1 (conv cx x i))=some (.val c g):=b
  show g=h1/\(J (cx.ty E) λ_=>J (iG cx D e a) λi=>J (cx.ty x) λL=>match L.u with
   | .slice _=>val h2 (GI cx x i)
   | .str=>(match i with
    | .str _=>val h2 (conv cx x i)
    |_=>val h2 (Kk cx h2 E i))
   |_=>val h2 (conv cx x i))=some (.val c h2)
  obtain⟨bA,aN,b⟩:=eg.1 b;obtain⟨s,t,b⟩:=eg.1 b;obtain⟨bi,aA,b⟩:=eg.1 b;rw[aN,t,aA];simp only[fw];have ap:∀{F:T},Kk cx h1 E s=some F->Kk cx h2 E s=some F:=by
   intro F q;unfold Kk at q|-;obtain⟨t2,av,q⟩:=eg.1 q;rw[av];simp only[fw];cases a6:t2.u<;>rw[a6]at q<;>simp only[reduceCtorEq]at q|-;obtain⟨W,aE,q⟩:=eg.1 q;rw[aE];simp only[fw];cases a7:W.u<;>rw[a7]at q<;>simp only[reduceCtorEq]at q|-;obtain⟨Z,q⟩:=fj.1 q;rw[Z,jf];obtain⟨bn,ae,q⟩:=eg.1 q;rw[Nt (λf y z=>hl f (by show J (iG cx D e a) fq=some f;rw[t];exact y) z) ae];exact q
  cases aX:bi.u<;>rw[aX]at b<;>simp only at b|-
  case str=>
   cases s<;>simp only at b|- <;>(obtain⟨A,rfl⟩:=iI.1 b)<;>first
    |exact⟨rfl,iI.2 ⟨ap A,rfl⟩⟩
    |exact⟨rfl,iI.2 ⟨A,rfl⟩⟩
  all_goals
   obtain⟨A,rfl⟩:=iI.1 b;exact⟨rfl,iI.2 ⟨A,rfl⟩⟩
 |lookup=>exact .inl ((ky.none:ky h1 h2 _ _) c g b)
 |makeMap d r=>exact K Ni rfl
 |mapUpdate=>grind [jr]
 |makeInterface d a=>
  left;have:ky h1 h2 (ke (.makeInterface d a) cx D e h1) (ke (.makeInterface d a) cx D e h2):=by
   simp only[ke,C6];refine ky.J λj _=>?_;cases j.u<;>first|exact ky.none|exact ky.J λ_ _=>ky.iS ky.val
  exact this c g b
 |makeFunc M i f=>
  left;have:ky h1 h2 (ke (.makeFunc M i f) cx D e h1) (ke (.makeFunc M i f) cx D e h2):=by
   simp only[ke,F9];cases M<;>first
    |exact ky.none
    |(cases i.toList<;>first|exact ky.none|simp[ky.val,ky.J])
  exact this c g b
 |fieldAddr d a p=>
  left;have:ky h1 h2 (ke (.fieldAddr d a p) cx D e h1) (ke (.fieldAddr d a p) cx D e h2):=by
   simp only[ke,rY];refine ky.J λ_ _=>ky.J λc _=>?_;cases c<;>first|exact ky.none|exact ky.J λ_ _=>ky.some
  exact this c g b
 |field d a p=>
  left;have:ky h1 h2 (ke (.field d a p) cx D e h1) (ke (.field d a p) cx D e h2):=by
   simp only[ke,C9];refine ky.J λ_ _=>ky.J λ_ _=>ky.J λc _=>?_;cases c<;>first|exact ky.none|simp[ky.val,ky.J]
  exact this c g b
 |index d a I=>
  left;have:ky h1 h2 (ke (.index d a I) cx D e h1) (ke (.index d a I) cx D e h2):=by
   simp only[ke,C5];refine ky.J λj _=>ky.J λc _=>ky.J λ_ _=>ky.J λ_ _=>?_;cases j.u<;>first
    |exact ky.none
    |(cases c<;>first|exact ky.none|exact ky.J λ_ _=>ky.val|grind [ky.val,ky.J,ky.iS])
  exact this c g b
 |extract a O=>
  left;have:ky h1 h2 (ke (.extract a O) cx D e h1) (ke (.extract a O) cx D e h2):=by
   simp only[ke,wU];refine ky.J λc _=>?_;cases c<;>first|exact ky.none|exact ky.val
  exact this c g b
 |_=>first|exact(S ⟨_,rfl⟩).elim|exact absurd b (by simp[ke])
end
end
section
def L8{c:List Nat}{b:List Edge}{d:Nat}(h:(zR c b).testBit d=true):
 ∃a∈b,Region.binds .any a=true/\(d=a.on\/(c.getD a.on 0).testBit d=true):=by
 induction b with
 |nil=>grind [zR]
 |cons a b f=>
  have h:(@Bool.rec (λ_=>Nat) (zR c b) ((zR c b)|||((1<<<a.on)|||(c.getD a.on 0))) (Region.binds .any a)).testBit d=true:=h;cases e:Region.binds .any a with
  |false=>
   rw[e]at h
   grind
  |true=>
   rw[e]at h;simp only[Nat.testBit_or,cu]at h;rcases h with h|h|h
   ·grind
   ·refine⟨a,G,e,.inl ?_⟩;rw[Nat.one_shiftLeft,Nat.testBit_two_pow]at h
    grind
   grind
structure Cl(ops:ah Oper)(listed:ah Bool):Prop where
 size:listed.size=ops.size
 closed:∀j oj,ops[j]? =some oj->listed.getD j false=true->∀e∈oj.after,Region.binds .any e=true->listed.getD e.on false=true
theorem X8{ops:ah Oper}{g:ah Bool}(q:Cl ops g):∀(k:List Oper) (d:List Nat),(∀n:Nat,k[n]? =ops[d.length+n]?)->
 (∀(b c:Nat),d[b]? =some c->∀f,c.testBit f=true->∀i,ops[b]? =some i->(∀a∈i.after,Region.binds .any a=true->g.getD a.on false=true)->g.getD f false=true)->
 ∀(b c:Nat),(Oc k d)[b]? =some c->∀f,c.testBit f=true->∀i,ops[b]? =some i->(∀a∈i.after,Region.binds .any a=true->g.getD a.on false=true)->g.getD f false=true:=by
 intro k;induction k with
 |nil=>intro d _ l b c e;exact l b c e
 |cons i k D=>
  intro d hl l;refine D (d++[zR d i.after.toList]) (λn=>?_) ?_
  ·have:=hl (n+1);simp only[dF]at this;rw[this];congr 1;simp;omega
  ·intro b c e f u E m s;by_cases v:b<d.length
   ·rw[cK v]at e;exact l b c e f u E m s
   ·rw[du B]at e;have z:b=d.length:=by
     rcases Nat.eq_or_lt_of_le (Nat.le_of_not_lt v)with h|h
     ·exact h.symm
     ·rw[bV dR]at e;simp at e
    subst z;simp at e;subst e;have r:=hl 0;simp at r;rw[<-r]at m;simp at m;subst m;have⟨a,x,w,j⟩:=L8 u;have o:=s a (by simpa using x) w;rcases j with rfl|j
    ·exact o
    ·have y:a.on<g.size:=by
      rcases aT a.on g.size with h|h
      ·exact h
      ·simp[Array.getElem?_eq_none h]at o
     have A:a.on<ops.size:=by rw[<-q.size];exact y
     have t:ops[a.on]? =some ops[a.on]:=by simp[A]
     cases p:d[a.on]? with
     |none=>rw[cN,p]at j;simp at j
     |some c=>
      rw[cN,p]at j;exact l a.on c p f j ops[a.on] t (q.closed a.on _ t o)
def Fx{ops:ah Oper}{a:ah Bool}(g:Cl ops a){d e:Nat}{f:Oper}(c:kL ops d e=true)(i:ops[e]? =some f)
 (h:∀b∈f.after,Region.binds .any b=true->a.getD b.on false=true):a.getD d false=true:=by
 unfold kL at c;rw[cN]at c
 grind [X8,Oc]
def qP:Op->Bool
 | .store .. =>true
 |_=>false
def qS(ops:ah Oper):Bool:=
 let e:=Oc ops.toList []
 let d:=ops.toList.zipIdx
 d.all λa=>(a.1.after.toList.all λc=> !Region.binds .any c||Nat.blt c.on a.2)&&
  d.all λb=> !Nat.blt b.2 a.2||(b.1.apart ops a.1&&(!(jr b.1.op&&jr a.1.op)||(qP b.1.op&&qP a.1.op)))||(e.getD a.2 0).testBit b.2
def mem_zipIdx{ops:ah Oper}{a:Nat}{b:Oper}(c:ops[a]? =some b):(b,a)∈ops.toList.zipIdx:=by
 rw[dE];exact⟨a,by simp[c]⟩
def NS{ops:ah Oper}(e:qS ops=true){b:Nat}{c:Oper}(f:ops[b]? =some c):∀a∈c.after,Region.binds .any a=true->a.on<b:=by
 intro a i h;unfold qS at e;have d:=List.all_eq_true.1 e (c,b) (mem_zipIdx f);simp only[az]at d;have g:=List.all_eq_true.1 d.1 a (by grind);simp_all
def LM{ops:ah Oper}(g:qS ops=true){b c:Nat}{d e:Oper}(i:ops[b]? =some d)(j:ops[c]? =some e)(l:b<c):
 (d.apart ops e=true/\(jr d.op=true->jr e.op=true->qP d.op=true/\qP e.op=true))\/kL ops b c=true:=by
 unfold qS at g;have f:=List.all_eq_true.1 g (e,c) (mem_zipIdx j);simp only[az]at f;have a:=List.all_eq_true.1 f.2 (d,b) (mem_zipIdx i);have h:Nat.blt b c=true:=by rw[aK];omega
 simp only[h,Bool.not_true,Bool.false_or,cu,az,cq,Bool.and_eq_false_iff]at a;rcases a with⟨a,k⟩|a
 ·grind
 ·right;exact a
section
variable {cx:Ctx}{cf:jQ}{D:Nat}{ops:ah Oper}
def rh(D:Nat)(ops:ah Oper)(c:Nat->Env)(b:Nat):Prop:=∃a,ops[b]? =some a/\jr a.op=true/\lQ ops D (c b) a.guard=some true
def AC(cx:Ctx)(D:Nat)(ops:ah Oper)(c:Nat->Env)(d:Nat->H)(a e:Nat):Prop:=
 ∃b,ops[a]? =some b/\jr b.op=false/\lQ ops D (c a) b.guard=some true/\jb cx D (c a) (d a) b.op=some e
def ZF(cx:Ctx)(D:Nat)(ops:ah Oper)(c:Nat->Env)(a e:Nat):Prop:=
 ∃b f d g,ops[a]? =some b/\b.op= .store f d g/\lQ ops D (c a) b.guard=some true/\J (iG cx D (c a) d) fq=some e
structure Trace(cx:Ctx)(cf:jQ)(D:Nat)(ops:ah Oper)(E:Nat->Env)(Hs:Nat->H):Prop where
 step:∀k o,ops[k]? =some o->mV cx cf D ops (E k) (Hs k) o=some (E (k+1),Hs (k+1))
 ahead:∀k k' b,AC cx D ops E Hs k b->rh D ops E k'->k<k'->gU (Hs k') (Hs (k'+1)) b=true\/kL ops k k'=true
 behind:∀k k' b,AC cx D ops E Hs k b->rh D ops E k'->k'<k->gU (Hs k') (Hs (k'+1)) b=true\/kL ops k' k=true
 both:∀k k' b,ZF cx D ops E k b->rh D ops E k'->k'<k->gU (Hs k') (Hs (k'+1)) b=true\/kL ops k' k=true
def A5{a b:Bool}(c: @Bool.rec (λ_=>Bool) b true a=true):a=true\/b=true:=by cases a<;>simp_all
def Bl{e:Oper}{k:List Oper}{c:Nat}{d:Seen}{g n:Env}{a o:H}(b:lf cx cf D ops (e::k) c d g a=some (n,o)):
 ∃h f j,mV cx cf D ops g a e=some (h,f)/\lQ ops D g e.guard=some j/\
  ∃m,lf cx cf D ops k (c+1) m h f=some (n,o)/\(∀l∈d.oq,l∈m.oq)/\(∀l∈d.mL,l∈m.mL)/\
   (j=true->jr e.op=true->Au ops c a f d.oq=true/\(c,a,f)∈m.mL/\ug cx D ops c g d.mL e.op=true)/\
   (j=true->jr e.op=false->∀i,jb cx D g a e.op=some i->qj ops c i d.mL=true/\(c,i)∈m.oq):=by
 have b:(J (mV cx cf D ops g a e) λl=>two l λh f=>
  J (lQ ops D g e.guard) λj=> @Bool.rec (λ_=>aa (Env×H)) (lf cx cf D ops k (c+1) d h f)
   (@Bool.rec (λ_=>aa (Env×H))
     (@Option.rec Nat (λ_=>aa (Env×H)) (lf cx cf D ops k (c+1) d h f)
       (λi=>iS (qj ops c i d.mL) (lf cx cf D ops k (c+1) ⟨(c,i)::d.oq,d.mL⟩ h f)) (jb cx D g a e.op))
     (iS (Au ops c a f d.oq) (iS (ug cx D ops c g d.mL e.op) (lf cx cf D ops k (c+1) ⟨d.oq,(c,a,f)::d.mL⟩ h f))) (jr e.op)) j)=some (n,o):=b
 replace b:=eg.1 b;obtain⟨⟨h,f⟩,r,b⟩:=b;simp only[mv]at b;replace b:=eg.1 b;obtain⟨j,s,b⟩:=b;refine⟨h,f,j,r,s,?_⟩;cases j with
 |false=>grind
 |true=>
  cases q:jr e.op with
  |true=>
   rw[q]at b
   grind [fj]
  |false=>
   rw[q]at b;cases p:jb cx D g a e.op with
   |none=>
    rw[p]at b;exact⟨d,b,λ_ a=>a,λ_ a=>a,λ_ a=>by grind,λ_ _ i a=>by grind⟩
   |some i=>
    rw[p]at b
    grind [fj,aw]
def Hc:∀(F:List Oper) (c:Nat) (s:Seen) (t I:Env) (o K:H),(∀P,F[P]? =ops[c+P]?)->lf cx cf D ops F c s t o=some (I,K)->
 ∃(h:Nat->Env) (i:Nat->H),h c=t/\i c=o/\h (c+F.length)=I/\i (c+F.length)=K/\
  (∀a f,c<=a->ops[a]? =some f->mV cx cf D ops (h a) (i a) f=some (h (a+1),i (a+1)))/\
  (∀a b,c<=a->AC cx D ops h i a b->∀g∈s.mL,gU g.2.1 g.2.2 b=true\/kL ops g.1 a=true)/\
  (∀a,c<=a->rh D ops h a->∀g∈s.oq,gU (i a) (i (a+1)) g.2=true\/kL ops g.1 a=true)/\
  (∀a d b,c<=a->AC cx D ops h i a b->rh D ops h d->a<d->gU (i d) (i (d+1)) b=true\/kL ops a d=true)/\
  (∀a d b,c<=d->AC cx D ops h i a b->rh D ops h d->d<a->gU (i d) (i (d+1)) b=true\/kL ops d a=true)/\
  (∀a b,c<=a->ZF cx D ops h a b->∀g∈s.mL,gU g.2.1 g.2.2 b=true\/kL ops g.1 a=true)/\
  (∀a d b,c<=d->ZF cx D ops h a b->rh D ops h d->d<a->gU (i d) (i (d+1)) b=true\/kL ops d a=true):=by
 intro F;induction F with
 |nil=>
  intro c s t I o K hl L;have L:some (t,o)=some (I,K):=L;simp only[aw,aF]at L;obtain⟨rfl,rfl⟩:=L;have A:∀a f,c<=a->ops[a]? =some f->False:=λa f e m=>by
   have:=hl (a-c);rw[show c+(a-c)=a by omega,m]at this;simp at this
  refine⟨λ_=>t,λ_=>o,rfl,rfl,rfl,rfl,λa f e m=>(A a f e m).elim,?_,?_,?_,?_,?_,?_⟩
  ·rintro a b e ⟨f,m,_⟩;exact(A a f e m).elim
  ·rintro a e ⟨f,m,_⟩;exact(A a f e m).elim
  ·rintro a d b e ⟨f,m,_⟩;exact(A a f e m).elim
  ·rintro a d b e _ ⟨f,m,_⟩;exact(A d f e m).elim
  ·rintro a b e ⟨f,_,_,_,m,_⟩;exact(A a f e m).elim
  ·rintro a d b e _ ⟨f,m,_⟩;exact(A d f e m).elim
 |cons f F a8=>
  intro c s t I o K hl L;have⟨ae,M,bS,a7,Z,ab,a6,aE,aN,V,aX⟩:=Bl L;have R:ops[c]? =some f:=by have:=hl 0;simpa using this.symm
  obtain⟨h,i,bg,bi,bn,bp,bs,ap,av,bu,bA,bC,bH⟩:=a8 (c+1) ab ae I M K (λP=>by
   have:=hl (P+1);simp only[dF]at this;rw[this];congr 1;omega) a6
  let n:Nat->Env:=λa=>if a=c then t else h a
  let u:Nat->H:=λa=>if a=c then o else i a
  have hE:∀a,a≠c->n a=h a:=λa e=>by simp[n,e]
  have p:∀a,a≠c->u a=i a:=λa e=>by simp[u,e]
  have y:n c=t:=by simp[n]
  have N:u c=o:=by simp[u]
  have aA:n (c+1)=ae:=by rw[hE _ B,bg]
  have U:u (c+1)=M:=by rw[p _ B,bi]
  have Q:∀a,a≠c->rh D ops n a->rh D ops h a:=λa e=>by unfold rh;rw[hE a e];exact id
  have S:∀a b,a≠c->AC cx D ops n u a b->AC cx D ops h i a b:=λa b e=>by unfold AC;rw[hE a e,p a e];exact id
  have bN:∀a b,a≠c->ZF cx D ops n a b->ZF cx D ops h a b:=λa b e=>by unfold ZF;rw[hE a e];exact id
  have bB:∀b,ZF cx D ops n c b->qj ops c b s.mL=true:=by
   rintro b ⟨T,P,x,v,k,q,l,O⟩;rw[R]at k;simp only[aw]at k;subst k;rw[y,Z]at l;rw[y]at O;simp only[aw]at l;have:=(V l (by rw[q];rfl)).2.2;rw[q]at this;have this: @Option.rec Nat (λ_=>Bool) true (λb=>qj ops c b s.mL) (J (iG cx D t x) fq)=true:=this;rw[O]at this;exact this
  have al:rh D ops n c->Au ops c o M s.oq=true/\(c,o,M)∈ab.mL:=by
   rintro⟨T,k,q,l⟩;rw[R]at k;simp only[aw]at k;subst k;rw[y,Z]at l;simp only[aw]at l;exact⟨(V l q).1,(V l q).2.1⟩
  have an:∀b,AC cx D ops n u c b->qj ops c b s.mL=true/\(c,b)∈ab.oq:=by
   rintro b ⟨T,k,q,l,O⟩;rw[R]at k;simp only[aw]at k;subst k;rw[y,Z]at l;rw[y,N]at O;simp only[aw]at l;exact aX l q b O
  refine⟨n,u,y,N,?_,?_,?_,?_,?_,?_,?_,?_,?_⟩
  ·rw[hE _ G,<-bn];congr 1;simp;omega
  ·rw[p _ G,<-bp];congr 1;simp;omega
  ·intro a T e k;by_cases j:a=c
   ·subst j;rw[R]at k;simp only[aw]at k;subst k;rw[y,N,aA,U];exact a7
   ·rw[hE a j,p a j,hE (a+1) B,p (a+1) B];exact bs a T B k
  ·intro a b e r g E;by_cases j:a=c
   ·subst j;have⟨q,_⟩:=an b r;exact A5 (tF q g E)
   ·exact ap a b B (S a b j r) g (aN g E)
  ·intro a e w g E;by_cases j:a=c
   ·subst j;have⟨q,_⟩:=al w;rw[N,U];exact A5 (tF q g E)
   ·rw[p a j,p (a+1) B];exact av a B (Q a j w) g (aE g E)
  ·intro a d b e r w W;have z:d≠c:=B;rw[p d z,p (d+1) B];by_cases j:a=c
   ·subst j;have⟨_,l⟩:=an b r;exact av d B (Q d z w) (a,b) l
   ·exact bu a d b B (S a b j r) (Q d z w) W
  ·intro a d b e r w W;have j:a≠c:=B;by_cases z:d=c
   ·subst z;have⟨_,l⟩:=al w;rw[N,U];exact ap a b B (S a b j r) (d,o,M) l
   ·rw[p d z,p (d+1) B];exact bA a d b B (S a b j r) (Q d z w) W
  ·intro a b e r g E;by_cases j:a=c
   ·subst j;exact A5 (tF (bB b r) g E)
   grind
  grind
def HD(cx:Ctx)(cf:jQ)(D:Nat)(c:Env)(a:H)(f:Op)(g:T)(e:H):Prop:=
 ke f cx D c a=some (.val g e)\/∃d b,ke f cx D c a=some (.call d b)/\cf d b a=some (g,e)
def oS{e b:Env}{g c:H}{f:Oper}(a:mV cx cf D ops e g f=some (b,c)):
 (lQ ops D e f.guard=some false/\e.dst D f.dst .undef=some b/\c=g)\/
 (lQ ops D e f.guard=some true/\∃d,HD cx cf D e g f.op d c/\e.dst D f.dst d=some b):=by
 replace a:=eg.1 a;obtain⟨r,q,a⟩:=a;cases r with
 |false=>
  left;have a:(J (e.dst D f.dst .undef) λb=>some (b,g))=some (b,c):=a;replace a:=eg.1 a;grind
 |true=>
  right;refine⟨q,?_⟩;have a:(J (ke f.op cx D e g) λj=> @nh.rec (λ_=>aa (Env×TI.H))
   (λd c=>J (e.dst D f.dst d) λb=>some (b,c))
   (λi h=>J (cf i h g) λl=>two l λd c=>J (e.dst D f.dst d) λb=>some (b,c)) j)=some (b,c):=a
  replace a:=eg.1 a;obtain⟨j,n,a⟩:=a;rcases j with⟨d,m⟩|⟨i,h⟩
  ·skip
   have a:(J (e.dst D f.dst d) λb=>some (b,m))=some (b,c):=a;replace a:=eg.1 a;obtain⟨o,k,a⟩:=a;simp only[aw,aF]at a;obtain⟨rfl,rfl⟩:=a;exact⟨d,.inl n,k⟩
  ·skip
   have a:(J (cf i h g) λl=>two l λd c=>J (e.dst D f.dst d) λb=>some (b,c))=some (b,c):=a;replace a:=eg.1 a;obtain⟨⟨d,m⟩,p,a⟩:=a;simp only[mv]at a;replace a:=eg.1 a;obtain⟨o,k,a⟩:=a;simp only[aw,aF]at a;obtain⟨rfl,rfl⟩:=a;exact⟨d,.inr ⟨i,h,n,p⟩,k⟩
def Gq{P:aj}{h:Nat}{a:World}{g:Mu}{j:Env}{b c:H}{i:Act}{k:Oper}{f:T}(j7:jT P cx)(o:pL P cx cf)
 (e:St cx h a.heap g b) (l:lO a.heap g D j i.tmps) (u:HD cx cf D j b k.op f c):Cu P (tT cx h a g b f c) ((execOp i.eval k).run P a):=by
 rcases u with d|⟨p,m,d,s⟩
 ·exact((BK j7 e l d).ran).mono λv w r=>⟨r,Uj e.wf f c d⟩
 ·have⟨_,n,q,t⟩:=KI (P:=P) e l d;rw[t];exact o p m b f c s h a g n e q
def HD.congr{b e':Env}{c d:H}{a:Op}{f:T}(h:∀g∈a.operands,iG cx D b g=iG cx D e' g)(e:HD cx cf D b c a f d):HD cx cf D e' c a f d:=by
 unfold HD at*
 rw[CQ h]at e;exact e
def Nu{b:Call}{d:Env}{f:H}{e:ak}{c:List T}(a:ke (.call b) cx D d f=some (.call e c)):jr (.call b)=true:=by
 have a:Gb b cx D d f=some (.call e c):=a;replace a:=eg.1 a;grind [jr,x8]
def LH{d:Env}{e f:H}{b:Op}{h:T}(l:jr b=false)(k:HD cx cf D d e b h f):ke b cx D d e=some (.val h f):=by
 rcases k with c|⟨j,i,c,_⟩
 ·omega
 ·by_cases g:∃a,b= .call a
  ·obtain⟨a,rfl⟩:=g;rw[Nu c]at l;grind
  ·exact absurd c (FN (λa m=>g ⟨a,m⟩) j i)
def DA(D:Nat)(a:Env):List Nat->iM
 | []=> .nil
 |s::b=>match a.get D s with
  |some c=> .cons s c (DA D a b)
  |none=>DA D a b
def Np{b:Env}{c:Nat}:∀(a:List Nat),M (DA D b a) c=if c∈a then b.get D c else none:=by
 intro a;induction a with
 |nil=>rfl
 |cons e a d=>
  unfold DA;cases f:b.get D e with
  |none=>
   grind
  |some g=>
   simp only[pw,d,ci]
   grind
def Fb(D:Nat)(a:Env)(b:List Nat):Env:=⟨DA D a b,DA D a b⟩
def BC{b:Env}{a:Nat}{c:List Nat}:(Fb D b c).get D a=if a∈c then b.get D a else none:=by
 show @Bool.rec (λ_=>aa T) (M (DA D b c) a) (M (DA D b c) a) (lI D a)=_;rw[Np];cases lI D a<;>rfl
def CP{a:Env}{c:Oper}{b:ai}(h:b∈c.op.operands):iG cx D a b=iG cx D (Fb D a (c.looksAt ops)) b:=by
 cases b with
 |tmp d=>
  show a.get D d=(Fb D a (c.looksAt ops)).get D d;rw[BC,au];unfold Oper.looksAt;exact dw _ (List.mem_filterMap.2 ⟨.tmp d,by grind,rfl⟩)
 |const e=>rfl
 |global g=>rfl
 |func f=>rfl
def Mr{c:Env}{a:Oper}:lQ ops D (Fb D c (a.looksAt ops)) a.guard=lQ ops D c a.guard:=by
 cases i:a.guard with
 |none=>rfl
 |some f=>
  obtain⟨d,k⟩:=f;show(J (J (J (oo ops.toList d) λa=>a.dst) λb=>(Fb D c (a.looksAt ops)).get D b) λh=>_)=(J (J (J (oo ops.toList d) λa=>a.dst) λb=>c.get D b) λh=>_);cases e:(J (oo ops.toList d) λa=>a.dst)with
  |none=>rfl
  |some b=>
   simp only[fw];rw[BC,au];unfold Oper.looksAt;refine dO _ ?_;replace e:=eg.1 e;obtain⟨f,g,j⟩:=e;rw[mg]at g;have:ops[d]? =some f:=by grind
   grind
end
end
section
def iu.conv{I:ah Obj}{D E:Mu}{b:T}{r:aq}(a:iu I D b r){n:Nat}(hl:sa n b)(s:∀c e,c<n->D c=some e->E c=some e)
 (F:∀k,pG E k->pG D k):iu I E b r:=by
 induction a with
 |undef=>exact .undef
 |ez c=>exact .ez c
 |int d U=>exact .int d U
 |str Z a=>exact .str Z a
 |lU=>exact .lU
 |fc c w k R e h j x O=>cases hl with|fc _ _ _ _ a=>exact .fc c w k R e h (s c e a j) x O
 |ks v t off arr q fz A y i p hr g=>
  cases hl with|ks _ a=>exact .ks v t off arr q fz (λd=>A (F _ d)) y i p λd b f=>g d b f (a b (aC f))
 |pP m h=>exact .pP m h
 |V L M m t off u ab arr q fz A y z P Q i p hr g=>
  cases hl with|V _ _ a=>exact .V L M m t off u ab arr q fz (λd=>A (F _ d)) y z P Q i p λd b f=>g d b f (a b (aC f))
 |iX h u=>exact .iX h u
 |arr c w W S m e h K j x z o=>cases hl with|arr _ _ _ _ _ a=>exact .arr c w W S m e h K (s c e a j) x z o
 |func N J l i hr g=>cases hl with|func _ _ a=>exact .func N J l i λd b f=>g d b f (a b (aC f))
 |my=>exact .my
 |mB=>exact .mB
 |iface q b r a g=>cases hl with|iface _ _ a=>exact .iface q b r (g a)
 |iter c e h j o=>cases hl with|iter _ a=>exact .iter c e h (s c e a j) o
 |map c e k j o=>cases hl with|map _ a=>exact .map c e k (s c e a j) o
 |pS=>exact .pS
 |eZ v l i p hr g=>cases hl with|eZ _ a=>exact .eZ v l i p λd b f=>g d b f (a b (aC f))
 |tuple ae l i hr g=>cases hl with|tuple _ a=>exact .tuple ae l i λd b f=>g d b f (a b (aC f))
def ud.conv{u:ah Obj}{r s:Mu}{e:Loc}{p:jK}(i:ud u r e p){n:Nat}(hl:∀c∈iq p.gW,sa n c)(k:∀m e,m<n->r m=some e->s m=some e)
 (j:∀l,pG s l->pG r l):ud u s e p:=by
 refine⟨i.ep,i.sz,λa=>?_,λa=>?_⟩
 ·have h:=i.plain a;have⟨x,O,b,f,d⟩:=h.row;exact⟨⟨x,O,b,f,d.1,λa c v=>(d.2 a c v).conv (hl c (aC v)) k j⟩,h.room,h.wq,h.size,h.scalar⟩
 ·obtain⟨t,b|⟨z,b,f,d⟩|⟨K,J,M,N,y,b,f,d,I⟩⟩:=i.iter a
  ·grind
  rotate_left
  ·exact⟨t,.inr (.inr ⟨K,J,M,N,y,b,f.conv (hl _ (by rw[b];simp[iq,T.cells])) k j,d,I⟩)⟩
  ·refine⟨t,.inr (.inl ⟨z,b,f,λl q w=>?_⟩)⟩;have⟨a,c,L,o,A,D,E,F⟩:=d l q w;have g:=hl q (List.mem_flatMap.2 ⟨q,aC w,by rw[o];simp[T.cells]⟩);rw[o]at g;cases g with|tuple _ g=>exact⟨a,c,L,o,A,D,E.conv (g a G) k j,F.conv (g c G) k j⟩
def sa.mono{n c:Nat}{d:T}(a:sa n d)(g:n<=c):sa c d:=by
 induction a with
 |fc b e h i a=>exact .fc _ _ _ _ B
 |arr b e k j f a=>exact .arr _ _ _ _ _ B
 |iter b a=>exact .iter _ B
 |map b a=>exact .map _ B
 |_=>constructor<;>assumption
def St.congr{cx:Ctx}{f:Nat}{h:ah Obj}{e:Mu}{g c:H}(a:St cx f h e g)(j:c.ir.length=c.size)(l:∀b d,e b=some d->c.get b=g.get b):St cx f h e c:=
 ⟨j,a.fit,λb d i=>by have⟨o,k,m⟩:=a.box b d i;grind,a.inj,a.low,a.apart,a.tV,a.B7⟩
def H.get_some{a:H}(e:a.ir.length=a.size){b:Nat}(c:b<a.size):∃d,a.get b=some d:=by
 rw[H.get_eq,au c];exact⟨a.ir[a.size-1-b]' B,G⟩
def xI(Hs:Nat->H)(a:Nat):Nat->Nat
 |0=>0
 |k+1=>if a<(Hs k).size then xI Hs a k else k+1
def JG(Hs:Nat->H)(a n:Nat):xI Hs a n<=n:=by
 induction n with
 |zero=>simp[xI]
 |succ n b=>unfold xI;split<;>omega
def abr{Hs:Nat->H}{a:Nat}{n:Nat}(d:∀b,b<n->(Hs b).size<=(Hs (b+1)).size)(c:a<(Hs n).size):a<(Hs (xI Hs a n)).size:=by
 induction n with
 |zero=>exact c
 |succ n e=>
  grind [xI]
theorem XM{Hs:Nat->H}{c:Nat}:∀{n p:Nat},p<xI Hs c n->(∀b,b<n->(Hs b).size<=(Hs (b+1)).size)->(Hs p).size<=c:=by
 intro n;induction n with
 |zero=>simp[xI]
 |succ n i=>
  intro p d f;unfold xI at d;split at d
  ·grind
  ·rename_i h;have:∀a,p+a=n->(Hs p).size<=(Hs n).size:=by
    intro a;induction a generalizing p with
    |zero=>intro e;rw[show p=n by omega];omega
    |succ a g=>
     intro e;have:=f p B;have:=g (p:=p+1) B B;omega
   have:=this (n-p) B;omega
section
variable {Hs:Nat->H}{n:Nat}
def pi(f:∀c,c<n->(Hs c).size<=(Hs (c+1)).size){b d:Nat}(e:b<=d)(j:d<=n):(Hs b).size<=(Hs d).size:=by
 obtain⟨a,rfl⟩:=Nat.exists_eq_add_of_le e;clear e;induction a with
 |zero=>simp
 |succ a g=>
  have h:=g B;have i:=f (b+a) B;have:b+(a+1)=b+a+1:=B;rw[this];omega
def mQ(c:∀a,a<n->(Hs a).size<=(Hs (a+1)).size){b a:Nat}(e:b<(Hs n).size)(f:a<=n):b<(Hs a).size↔xI Hs b n<=a:=by
 constructor
 ·grind [xI,aT,XM]
 ·intro d;have:=abr c e;have:=pi c d f;omega
def nR(l:∀a,a<n->(Hs a).size<=(Hs (a+1)).size){c b e:Nat}(g:b<=e)(f:∀a,b<=a->a<e->(Hs (a+1)).get c=(Hs a).get c):(Hs e).get c=(Hs b).get c:=by
 obtain⟨d,rfl⟩:=Nat.exists_eq_add_of_le g;clear g;induction d with
 |zero=>rfl
 |succ d k=>
  have i:=k λa h c=>f a h B;have j:=f (b+d) B B;have:b+(d+1)=b+d+1:=B;rw[this,j,i]
end
def PH(Hs:Nat->H)(n:Nat)(b:Nat->Nat):H:=
 ⟨(Hs n).size,0,(List.range (Hs n).size).reverse.map λa=>((Hs (max (b a) (xI Hs a n))).get a).getD default⟩
def ID(Hs:Nat->H)(n:Nat)(a:Nat->Nat):(PH Hs n a).ir.length=(PH Hs n a).size:=by simp[PH]
def abY{Hs:Nat->H}{n a:Nat}{c:Nat->Nat}(g:∀b,b<n->(Hs b).size<=(Hs (b+1)).size)(i:∀b,b<=n->(Hs b).ir.length=(Hs b).size)(j:c a<=n)(d:a<(Hs n).size):
 (PH Hs n c).get a=(Hs (max (c a) (xI Hs a n))).get a:=by
 have e:max (c a) (xI Hs a n)<=n:=by have:=JG Hs a n;omega
 have f:a<(Hs (max (c a) (xI Hs a n))).size:=(mQ g d e).2 B;have⟨l,k⟩:=H.get_some (i _ e) f;rw[H.get_eq];have h:(PH Hs n c).size=(Hs n).size:=rfl;rw[h,au d];show((List.range (Hs n).size).reverse.map λa=>((Hs (max (c a) (xI Hs a n))).get a).getD default)[(Hs n).size-1-a]? =_;rw[aR,List.getElem?_reverse (by grind)];have:(List.range (Hs n).size).length-1-((Hs n).size-1-a)=a:=by grind
 rw[this]
 grind
def u6(b:ah Oper)(a:ah Bool)(c:Nat):Nat->Nat
 |0=>0
 |k+1=>if a.getD k false=true/\(b[k]?).bind (·.dst)=some c then k+1 else u6 b a c k
theorem BV{ops:ah Oper}{listed:ah Bool}{s:Nat}:∀(n:Nat),u6 ops listed s n=0\/∃a,u6 ops listed s n=a+1/\a<n/\listed.getD a false=true/\(ops[a]?).bind (·.dst)=some s:=by
 intro n;induction n with
 |zero=>left;rfl
 |succ n b=>
  unfold u6
  grind
def Nk{ops:ah Oper}{listed:ah Bool}{s:Nat}:∀{n a:Nat},a<n->listed.getD a false=true->(ops[a]?).bind (·.dst)=some s->a+1<=u6 ops listed s n:=by
 intro n;induction n with
 |zero=>omega
 |succ n e=>
  intro a d b c;unfold u6
  grind
def aaO{ops:ah Oper}{listed:ah Bool}{s:Nat}(n:Nat):u6 ops listed s n<=n:=by
 rcases BV (ops:=ops) (listed:=listed) (s:=s) n with a|⟨d,b,c,_⟩<;>omega
def Rf{b:ah Oper}{e f:ah Bool}{c:Nat}:∀{n:Nat},(∀a,a<n->(b[a]?).bind (·.dst)=some c->f.getD a false=e.getD a false)->u6 b f c n=u6 b e c n:=by
 intro n;induction n with
 |zero=>intro _;rfl
 |succ n d=>
  intro g;have d:=d λa h=>g a B
  grind [u6]
end
section
structure Dr(P:aj)(cx:Ctx)(cf:jQ)(base D m:Nat)(ops:ah Oper)(E:Nat->Env)(Hs:Nat->H)(ws:World)(pU:Mu):Prop where
 j7:jT P cx
 ck:pL P cx cf
 dst:IE m ops
 tr:Trace cx cf D ops E Hs
 ut:St cx base ws.heap pU (Hs 0)
 HQ:∀i j oi oj,ops[i]? =some oi->ops[j]? =some oj->i<j->(oi.apart ops oj=true/\(jr oi.op=true->jr oj.op=true->qP oi.op=true/\qP oj.op=true))\/kL ops i j=true
 back:∀j o,ops[j]? =some o->∀e∈o.after,Region.binds .any e=true->e.on<j
 ain:∀k,k<=ops.size->∀s v,(E k).get D s=some v->sa (Hs k).size v
 aeR:∀k,k<=ops.size->∀b x,(pU b≠none\/(Hs 0).size<=b)->(Hs k).get b=some x->∀v∈iq x.gW,sa (Hs k).size v
 grow:∀k,k<ops.size->mR (Hs k) (Hs (k+1))
 wf:∀k,k<=ops.size->(Hs k).ir.length=(Hs k).size
structure Inv(cx:Ctx)(base D m:Nat)(ops:ah Oper)(E:Nat->Env)(Hs:Nat->H)(ws:World)(pU:Mu)(listed:ah Bool)(a:Act)(w:World)(μ:Mu)(q:Nat->Nat):Prop where
 cl:Cl ops listed
 size:a.tmps.size=m
 Rw:a.defers=[]
 Mj:∀b,q b<=ops.size
 mL:∀k b,rh D ops E k->b<(Hs k).size->gU (Hs k) (Hs (k+1)) b=false->(listed.getD k false=true↔k<q b)
 st:St cx base w.heap μ (PH Hs ops.size q)
 So:∀s v,(E (u6 ops listed s ops.size)).get D s=some v->iu w.heap μ v (a.tmps.getD s Go.undef)
 Xy:∀b,μ b≠none↔(pU b≠none\/((Hs 0).size<=b/\b<(Hs ops.size).size/\listed.getD (xI Hs b ops.size-1) false=true))
 ext:sd ws pU w μ
section
variable {P:aj}{cx:Ctx}{cf:jQ}{base D m:Nat}{ops:ah Oper}{E:Nat->Env}{Hs:Nat->H}{ws w:World}{pU μ:Mu}{listed:ah Bool}{a:Act}{q:Nat->Nat}
def Dr.mono(c:Dr P cx cf base D m ops E Hs ws pU):∀b,b<ops.size->(Hs b).size<=(Hs (b+1)).size:=λb d=>(c.grow b d).size
def Dr.lt0(c:Dr P cx cf base D m ops E Hs ws pU){b:Nat}(e:pU b≠none):b<(Hs 0).size:=by
 have⟨f,d⟩:=Option.ne_none_iff_exists'.1 e;exact c.ut.gh d
def Dr.still(g:Dr P cx cf base D m ops E Hs ws pU){b d:Nat}(p:b<ops.size)(n:d<(Hs b).size)(h:¬rh D ops E b):(Hs (b+1)).get d=(Hs b).get d:=by
 have f:ops[b]? =some ops[b]:=G;rcases oS (g.tr.step b _ f)with⟨_,_,c⟩|⟨i,r,k,_⟩
 ·rw[c]
 ·have e:jr ops[b].op=false:=by
   cases c:jr ops[b].op with
   |false=>rfl
   |true=>exact absurd ⟨_,f,c,i⟩ h
  rcases KH (h2:=Hs b) e (λ_ _ _=>rfl) (LH e k)with⟨c,_⟩|⟨l,s,_,_,_,c,_⟩
  ·rw[c]
  grind [H.o6]
def Dr.ver(d:Dr P cx cf base D m ops E Hs ws pU){b c:Nat}(g:b<ops.size)(f:c<(Hs b).size)(n:gU (Hs b) (Hs (b+1)) c=true):(Hs (b+1)).get c=(Hs b).get c:=by
 have⟨k,e⟩:=H.get_some (d.wf b B) f;have⟨p,i,h⟩:=(d.grow b g).ver c k e;rcases h with rfl|l
 ·rw[e,i]
 simp_all[gU]
def Dr.same(d:Dr P cx cf base D m ops E Hs ws pU){b c:Nat}(f:b<ops.size)(e:c<(Hs b).size)(i:rh D ops E b->gU (Hs b) (Hs (b+1)) c=false->False):(Hs (b+1)).get c=(Hs b).get c:=by
 by_cases g:rh D ops E b
 ·cases h:gU (Hs b) (Hs (b+1)) c with
  |true=>exact d.ver f e h
  |false=>grind
 ·exact d.still f e g
def Dr.Al(c:Dr P cx cf base D m ops E Hs ws pU){b:Nat}(e:q b<=ops.size)(d:b<(Hs ops.size).size):(PH Hs ops.size q).get b=(Hs (max (q b) (xI Hs b ops.size))).get b:=
 abY c.mono c.wf e d
def Inv.lt(f:Dr P cx cf base D m ops E Hs ws pU)(c:Inv cx base D m ops E Hs ws pU listed a w μ q){b:Nat}{d:Loc}(e:μ b=some d):b<(Hs ops.size).size:=c.st.gh e
variable {j:Nat}{o:Oper}
structure P7(ops:ah Oper)(listed:ah Bool)(j:Nat)(o:Oper):Prop where
 op:ops[j]? =some o
 lt:j<ops.size
 not:listed.getD j false=false
 before:∀i,kL ops i j=true->listed.getD i false=true
 behind:∀k,kL ops j k=true->listed.getD k false=false
 afy:∀e∈o.after,Region.binds .any e=true->listed.getD e.on false=true
def LB{listed:ah Bool}{b:Nat}(c:listed.getD b true=false):listed.getD b false=false:=by
 grind
def rdy(c:Cl ops listed)(k:j∈Region.ready .any ops listed):∃o,P7 ops listed j o:=by
 have⟨e,o,d,f⟩:=mem_ready.1 k;have n:j<ops.size:=(Array.getElem?_eq_some_iff.1 d).1;refine⟨o,d,n,LB e,λr i=>Fx c i d f,λb l=>?_,f⟩;cases h:listed.getD b false with
 |false=>rfl
 |true=>
  have p:b<listed.size:=by
   grind
  have g:ops[b]? =some (ops[b]'(by rw[<-c.size];omega)):=by
   have:b<ops.size:=by rw[<-c.size];omega
   simp
  have:=Fx c l g (c.closed b _ g h);rw[LB e]at this;grind
def Cl.set(b:Cl ops listed)(k:P7 ops listed j o):Cl ops (listed.setIfInBounds j true):=by
 refine⟨by simp[b.size],λh i g hl c e d=>?_⟩;by_cases f:j=h
 ·subst f;have:i=o:=cO (g.symm.trans k.op);subst this;exact getD_set_true (k.afy c e d)
 ·rw[getD_set_ne false f]at hl;exact getD_set_true (b.closed h i g hl c e d)
def yr(b:Cl ops listed)(c:P7 ops listed j o):(listed.setIfInBounds j true).getD j false=true:=by
 have:j<listed.size:=by rw[b.size];exact c.lt
 simp[this]
theorem Inv.M(p:Dr P cx cf base D m ops E Hs ws pU)(T:Inv cx base D m ops E Hs ws pU listed a w μ q)(f:P7 ops listed j o){s:Nat}(F:s∈o.looksAt ops):
 (E (u6 ops listed s ops.size)).get D s=(E j).get D s:=by
 have K:∀b i,ops[b]? =some i->i.dst=some s->(b<j->listed.getD b false=true)/\(j<b->listed.getD b false=false):=by
  intro b i k t;refine⟨λu=>?_,λu=>?_⟩
  ·rcases p.HQ b j i o k f.op u with⟨r,_⟩|v
   ·exact absurd F ((Oper.apart_spec r).1 s t)
   ·exact f.before b v
  ·rcases p.HQ j b o i f.op k u with⟨r,_⟩|v
   ·exact absurd F ((Oper.apart_spec r).2.2 s t)
   ·exact f.behind b v
 have W:u6 ops listed s ops.size<=j:=by
  rcases BV (ops:=ops) (listed:=listed) (s:=s) ops.size with h|⟨b,U,V,N,x⟩
  ·omega
  ·have e:ops[b]? =some ops[b]:=G;rw[e]at x;have I:=K b _ e x;rcases dG b j with h|h|h
   ·omega
   ·subst h;rw[f.not]at N;grind
   grind
 have S:∀c,u6 ops listed s ops.size+c<=j->(E (u6 ops listed s ops.size+c)).get D s=(E (u6 ops listed s ops.size)).get D s:=by
  intro c;induction c with
  |zero=>simp
  |succ c R=>
   intro t;have k:u6 ops listed s ops.size+c<ops.size:=by have:=f.lt;omega
   have e:ops[u6 ops listed s ops.size+c]? =some ops[u6 ops listed s ops.size+c]:=G;rw[<-R B];have A:ops[u6 ops listed s ops.size+c].dst≠some s:=by
    intro y;have I:=(K _ _ e y).1 B;have:=Nk (n:=ops.size) k I (by rw[e];exact y);omega
   have ab:∀l g,(E (u6 ops listed s ops.size+c)).dst D ops[u6 ops listed s ops.size+c].dst l=some g->g.get D s=(E (u6 ops listed s ops.size+c)).get D s:=by
    intro l g d;cases z:ops[u6 ops listed s ops.size+c].dst with
    |none=>rw[z]at d;have d:some _=some g:=d;simp only[aw]at d;rw[d]
    |some J=>
     rw[z]at d A;have O:s≠J:=λL=>A (by rw[L]);rw[Env.Eu (show Env.set D _ J l=some g from d) s,Z O]
   rcases oS (p.tr.step _ _ e)with⟨_,d,_⟩|⟨_,l,_,d⟩
   ·grind
   grind
 have:=S (j-u6 ops listed s ops.size) B;rw[show u6 ops listed s ops.size+(j-u6 ops listed s ops.size)=j by omega]at this
 grind
def Inv.Sz(d:Dr P cx cf base D m ops E Hs ws pU)(c:Inv cx base D m ops E Hs ws pU listed a w μ q)(f:P7 ops listed j o):lO w.heap μ D (Fb D (E j) (o.looksAt ops)) a.tmps:=by
 intro g h b;rw[BC]at b;split at b
 ·rename_i e;exact c.So g h (by rw[c.M d f e];exact b)
 grind
def Inv.EV(p:Dr P cx cf base D m ops E Hs ws pU)(g:Inv cx base D m ops E Hs ws pU listed a w μ q)(c:P7 ops listed j o){k:ah Obj}{n:Mu}(M:Ext w.heap μ k n){l:T}{r:aq}
 (K:iu k n l r) (y:(E j).dst D o.dst l=some (E (j+1))):∀s f,(E (u6 ops (listed.setIfInBounds j true) s ops.size)).get D s=some f->iu k n f ((a.put o.dst r).tmps.getD s Go.undef):=by
 intro s f d;by_cases e:o.dst=some s
 ·have i:u6 ops (listed.setIfInBounds j true) s ops.size=j+1:=by
   have R:=Nk (ops:=ops) (s:=s) c.lt (yr g.cl c) (by rw[c.op];exact e);rcases BV (ops:=ops) (listed:=listed.setIfInBounds j true) (s:=s) ops.size with h|⟨b,N,O,t,u⟩
   ·omega
   ·rcases dG b j with h|h|h
    ·omega
    ·omega
    ·have v:ops[b]? =some ops[b]:=G;rw[v]at u;rw[getD_set_ne false B]at t;rcases p.HQ j b o _ c.op v h with⟨z,_⟩|J
     ·exact absurd u ((Oper.apart_spec z).2.1 s e)
     ·rw[c.behind b J]at t;grind
  rw[i]at d;rw[e]at y|-;rw[Env.Eu (show Env.set D _ s l=some _ from y) s]at d;simp only[bw,aw]at d;subst d;have F:s<a.tmps.size:=by rw[g.size];exact p.dst j o s c.op e
  simpa[Act.put,cj,F]using K
 ·have i:u6 ops (listed.setIfInBounds j true) s ops.size=u6 ops listed s ops.size:=by
   refine Rf λb U A=>?_;have:j≠b:=by rintro rfl;rw[c.op]at A;grind
   simp_all
  rw[i]at d;have x:=(g.So s f d).ext M;cases S:o.dst with
  |none=>exact x
  |some L=>
   have I:L≠s:=by grind
   simpa[Act.put,cj,Array.getElem?_setIfInBounds_ne I]using x
def Inv.looked(d:Dr P cx cf base D m ops E Hs ws pU)(k:Inv cx base D m ops E Hs ws pU listed a w μ q)(n:P7 ops listed j o)(v:jr o.op=false)(M:lQ ops D (E j) o.guard=some true)
 {b:Nat} (z:jb cx D (E j) (Hs j) o.op=some b) {e:Nat} (R:j<=e) (x:e<=ops.size) (u:b<(Hs e).size) (S:e=j\/e=j+1):
 (PH Hs ops.size q).get b=(Hs e).get b:=by
 have l:b<(Hs ops.size).size:=bK u (pi d.mono x (ax _));rw[d.Al (k.Mj _) l];have N:xI Hs b ops.size<=e:=(mQ d.mono l x).1 u;have t:AC cx D ops E Hs j b:=⟨o,n.op,v,M,z⟩;have O:¬rh D ops E j:=by
  rintro⟨T,r,A,_⟩;rw[n.op]at r;simp only[aw]at r;subst r;rw[v]at A;grind
 rcases Nat.le_total (max (q b) (xI Hs b ops.size)) e with K|F
 ·refine(nR d.mono K λc I J=>?_).symm;have f:b<(Hs c).size:=(mQ d.mono l B).2 B;by_cases g:rh D ops E c
  ·have p:c<j:=by
    grind
   cases i:gU (Hs c) (Hs (c+1)) b with
   |true=>exact d.ver B f i
   |false=>
    rcases d.tr.behind j c b t g p with h|h
    ·rw[i]at h;grind
    ·have:=(k.mL c b g f i).1 (n.before c h);omega
  ·exact d.still B f g
 ·refine nR d.mono F λc I J=>?_;have L:c<q b:=B;have s:c<ops.size:=by have:=k.Mj b;omega
  have f:b<(Hs c).size:=(mQ d.mono l B).2 B;by_cases g:rh D ops E c
  ·have p:j<c:=by
    grind
   cases i:gU (Hs c) (Hs (c+1)) b with
   |true=>exact d.ver s f i
   |false=>
    rcases d.tr.ahead j c b t g p with h|h
    ·rw[i]at h;grind
    ·have y:=(k.mL c b g f i).2 L;rw[n.behind c h]at y;grind
  ·exact d.still s f g
def Inv.want(b:Dr P cx cf base D m ops E Hs ws pU)(c:Inv cx base D m ops E Hs ws pU listed a w μ q)(k:P7 ops listed j o){d:Bool}(g:lQ ops D (E j) o.guard=some d):
 Region.wanted o (yielded ops a.tmps)=d:=
 EK (c.Sz b k) (λh i l e f=>by rw[c.size];exact b.dst h i l e f) (by rw[Mr];exact g)
def Dr.made(c:Dr P cx cf base D m ops E Hs ws pU)(g:j<ops.size){b:Nat}(d:b<(Hs ops.size).size):xI Hs b ops.size=j+1↔((Hs j).size<=b/\b<(Hs (j+1)).size):=by
 have e:=mQ c.mono d (show j<=ops.size by omega);have f:=mQ c.mono d (show j+1<=ops.size by omega);omega
def Dr.cr0(c:Dr P cx cf base D m ops E Hs ws pU){b:Nat}(d:b<(Hs ops.size).size)(e:(Hs 0).size<=b):0<xI Hs b ops.size:=by
 rcases Nat.eq_zero_or_pos (xI Hs b ops.size)with h|h
 ·have:=(mQ c.mono d (ay _)).2 B;omega
 omega
def Dr.DJ(c:Dr P cx cf base D m ops E Hs ws pU)(f:j<ops.size){b:Nat}(d:b<(Hs ops.size).size)(e:(Hs 0).size<=b)(g:¬((Hs j).size<=b/\b<(Hs (j+1)).size)):
 (listed.setIfInBounds j true).getD (xI Hs b ops.size-1) false=listed.getD (xI Hs b ops.size-1) false:=by
 refine getD_set_ne false λh=>g ?_;have:=c.cr0 d e;exact(c.made f d).1 B 
def Inv.Jv(f:Dr P cx cf base D m ops E Hs ws pU)(k:Inv cx base D m ops E Hs ws pU listed a w μ q)(h:P7 ops listed j o)(g:(Hs (j+1)).size=(Hs j).size){i:Mu}(l:∀b,i b≠none↔μ b≠none):
 ∀b,i b≠none↔(pU b≠none\/((Hs 0).size<=b/\b<(Hs ops.size).size/\(listed.setIfInBounds j true).getD (xI Hs b ops.size-1) false=true)):=by
 intro b;rw[l,k.Xy];refine or_congr Iff.rfl ⟨λ⟨c,d,e⟩=>⟨c,d,?_⟩,λ⟨c,d,e⟩=>⟨c,d,?_⟩⟩
 ·rw[f.DJ h.lt d c (by rw[g];omega)];exact e
 ·rw[f.DJ h.lt d c (by rw[g];omega)]at e;exact e
def FL(c:P7 ops listed j o)(d:jr o.op=false\/lQ ops D (E j) o.guard=some false):¬rh D ops E j:=by
 rintro⟨g,b,e,f⟩;rw[c.op]at b;grind
def Inv.Gu(d:Inv cx base D m ops E Hs ws pU listed a w μ q)(h:¬rh D ops E j):
 ∀b c,rh D ops E b->c<(Hs b).size->gU (Hs b) (Hs (b+1)) c=false->((listed.setIfInBounds j true).getD b false=true↔b<q c):=by
 intro b c f e g;have:j≠b:=by grind
 rw[getD_set_ne false this];exact d.mL b c f e g
variable {Q:Exit->Act->World->Prop}
def Inv.skip(d:Dr P cx cf base D m ops E Hs ws pU)(b:Inv cx base D m ops E Hs ws pU listed a w μ q)(c:P7 ops listed j o)(g:lQ ops D (E j) o.guard=some false)
 (f:(E j).dst D o.dst .undef=some (E (j+1))) (e:Hs (j+1)=Hs j):Inv cx base D m ops E Hs ws pU (listed.setIfInBounds j true) (a.put o.dst Go.undef) w μ q:=
 ⟨b.cl.set c,by rw[Act.sU];exact b.size,by rw[Act.sY];exact b.Rw,b.Mj,b.Gu (FL c (.inr g)),b.st,
   b.EV d c (Ext.refl _ _) .undef f,b.Jv d c (by rw[e]) λ_=>Iff.rfl,b.ext⟩
def Inv.quiet(p:Dr P cx cf base D m ops E Hs ws pU)(i:Inv cx base D m ops E Hs ws pU listed a w μ q)(k:P7 ops listed j o)(cb:lQ ops D (E j) o.guard=some true)(ae:jr o.op=false){v:T}
 (bn:HD cx cf D (E j) (Hs j) o.op v (Hs (j+1))) (b9:(E j).dst D o.dst v=some (E (j+1))):
 Cu P (λc W=>∃t,Inv cx base D m ops E Hs ws pU (listed.setIfInBounds j true) (a.put o.dst c) W t q) ((execOp a.eval o).run P w):=by
 have b7:=FL (D:=D) (E:=E) k (.inl ae);have b8:=LH ae bn;have aX:∀I∈o.op.operands,iG cx D (E j) I=iG cx D (Fb D (E j) (o.looksAt ops)) I:=λI bn=>CP bn;rw[CQ aX]at b8;have de:∀b,jb cx D (Fb D (E j) (o.looksAt ops)) (Hs j) o.op=some b->b<(Hs j).size->(PH Hs ops.size q).get b=(Hs j).get b:=by
  intro b d bW;rw[<-yJ aX]at d;exact i.looked p k ae cb d (ax _) (bI k.lt) bW (.inl rfl)
 rcases KH ae de b8 with⟨ap,bg⟩|⟨f,I,M,d,dv,ap,bg⟩
 ·
  refine((BK p.j7 i.st (i.Sz p k) bg).ran).mono λc W aN=>?_;obtain⟨t,F,x,A,V⟩:=aN;refine⟨t,i.cl.set k,by rw[Act.sU];exact i.size,by rw[Act.sY];exact i.Rw,i.Mj,i.Gu b7,x,i.EV p k A.ext F b9,?_,i.ext.trans A⟩;refine i.Jv p k (by rw[ap]) λb=>⟨λd=>?_,λd=>?_⟩
  ·rcases V.2.1 b d with h|h
   ·exact h
   ·omega
  ·have⟨e,U⟩:=Option.ne_none_iff_exists'.1 d;have⟨an,av,_⟩:=A.ext.mu b e U;rw[av];simp
 ·
  subst dv;have aE:(PH Hs ops.size q).size=(Hs ops.size).size:=rfl;have ca:(Hs (j+1)).size=(Hs j).size+1:=by rw[ap];rfl
  have bH:(Hs j).size<(Hs ops.size).size:=by
   have:=pi p.mono (show j+1<=ops.size from k.lt) (ax _);omega
  have bB:(Hs 0).size<=(Hs j).size:=pi p.mono (ay _) (bI k.lt);have bN:xI Hs (Hs j).size ops.size=j+1:=(p.made k.lt bH).2 ⟨ax _,B⟩;have et:μ (Hs j).size=none:=by
   cases di:μ (Hs j).size with
   |none=>rfl
   |some e=>
    exfalso;rcases(i.Xy (Hs j).size).1 (by rw[di];simp)with h|⟨_,_,h⟩
    ·have:=p.lt0 h;omega
    ·rw[bN]at h;simp only[Nat.add_sub_cancel]at h;rw[k.not]at h;grind
  have c9:(Hs (j+1)).get (Hs j).size=some I:=by rw[ap];exact H.wi (p.wf j (bI k.lt)) I
  have dm:(PH Hs ops.size q).get (Hs j).size=some I:=by
   rw[<-yJ aX]at d;rw[i.looked p k ae cb d (show j<=j+1 by omega) k.lt B (.inr rfl)];omega
  refine((BK p.j7 i.st (i.Sz p k) bg).ran).mono λc W aN=>?_;obtain⟨t,F,x,A,V⟩:=aN;rw[aE]at F V;have c6:((PH Hs ops.size q).cons I).size=(Hs ops.size).size+1:=rfl;rw[c6]at V;have ed:t (Hs ops.size).size≠none:=V.2.2 _ (ax _) B;have bX:∀b e,μ b=some e->b<(Hs ops.size).size:=λb e d=>i.st.gh d;have bS:∀b,b≠(Hs ops.size).size->(t b≠none↔μ b≠none):=by
   intro b eo;constructor
   ·intro d;rcases V.2.1 b d with h|h
    ·exact h
    ·omega
   ·intro d;have⟨e,U⟩:=Option.ne_none_iff_exists'.1 d;have⟨an,av,_⟩:=A.ext.mu b e U;rw[av];simp
  have ec:t (Hs j).size=none:=by
   grind
  have⟨ef,eh⟩:=Option.ne_none_iff_exists'.1 ed
  let J:Mu:=⟨λb=>if b=(Hs j).size then t (Hs ops.size).size else if b=(Hs ops.size).size then none else t b,t.rf⟩
  have K:J (Hs j).size=t (Hs ops.size).size:=by grind
  have ab:J (Hs ops.size).size=none:=by
   have:(Hs ops.size).size≠(Hs j).size:=B
   grind
  have S:∀b,b≠(Hs j).size->b≠(Hs ops.size).size->J b=t b:=λb r s=>by grind
  have bT:∀R,pG J R->pG t R:=by
   rintro R (⟨b,e,d,hl⟩|hr)
   ·by_cases r:b=(Hs j).size
    ·subst r;rw[K]at d;exact .inl ⟨_,e,d,hl⟩
    ·by_cases s:b=(Hs ops.size).size
     ·subst s;rw[ab]at d;grind
     ·rw[S b r s]at d;exact .inl ⟨b,e,d,hl⟩
   ·exact .inr hr
  have b6:∀b e,b<(Hs ops.size).size->t b=some e->J b=some e:=by
   intro b e d U;have r:b≠(Hs j).size:=by rintro rfl;rw[ec]at U;grind
   rw[S b r B];exact U
  have a7:Ext w.heap μ W.heap J:=by
   refine⟨A.ext.size,λR dd dk=>?_,λb e d=>?_,A.ext.rf,A.ext.kept⟩
   ·have⟨eu,ey⟩:=A.ext.pN R dd dk
    grind
   ·have⟨an,av,er⟩:=A.ext.mu b e d
    grind
  have dn:iu W.heap J (f (Hs j).size) c:=by
   rcases M with M|⟨l,M⟩|M|M
   ·rw[M]at F|-;cases F with|fc _ _ _ _ e Z d a6 cX=>exact .fc _ _ _ _ e Z (by rw[K];exact d) a6 cX
   ·rw[M]at F|-;cases F with|arr _ _ _ _ _ e Z cp d a6 hl h=>exact .arr _ _ _ _ _ e Z cp (by rw[K];exact d) a6 hl h
   ·rw[M]at F|-;cases F with|iter _ e Z d h=>exact .iter _ e Z (by rw[K];exact d) h
   ·rw[M]at F|-;cases F with|map _ e R d h=>exact .map _ e R (by rw[K];exact d) h
  have ds:St cx base W.heap J (PH Hs ops.size q):=by
   refine⟨ID _ _ _,x.fit,λb e d=>?_,λb cd e an d c1 hl=>?_,λb e d=>?_,λb e d=>?_,x.tV,λg cF c7=>?_⟩
   ·by_cases r:b=(Hs j).size
    ·subst r;rw[K]at d;have⟨y,al,a8⟩:=x.box _ e d;have ea:y=I:=by
      have:=H.wi (ID Hs ops.size q) I;rw[aE,al]at this
      grind
     subst ea;refine⟨y,dm,a8.conv (n:=(Hs ops.size).size) (λu bi=>?_) b6 bT⟩;exact(p.aeR (j+1) k.lt _ y (.inr bB) c9 u bi).mono B
    ·by_cases s:b=(Hs ops.size).size
     ·subst s;rw[ab]at d;grind
     ·rw[S b r s]at d;have⟨y,al,a8⟩:=x.box b e d;have c4:μ b≠none:=(bS b s).1 (by rw[d];simp);have⟨bs,bC⟩:=Option.ne_none_iff_exists'.1 c4;have bW:=bX b bs bC;rw[H.o6 (by rw[aE];omega)]at al;refine⟨y,al,a8.conv (n:=(Hs ops.size).size) (λu bi=>?_) b6 bT⟩;have⟨z,bp,eb⟩:=i.st.box b bs bC;rw[al]at bp;simp only[aw]at bp;subst bp;exact eb.low bX u bi
   ·have bu:∀b e,J b=some e->(b=(Hs j).size/\t (Hs ops.size).size=some e)\/(b≠(Hs j).size/\b≠(Hs ops.size).size/\t b=some e):=by
     grind
    rcases bu b e d with⟨N,L⟩|⟨N,L,O⟩<;>rcases bu cd an c1 with⟨cL,aA⟩|⟨cL,aA,bA⟩
    ·omega
    ·exact absurd (x.inj _ _ _ _ L bA hl).symm aA
    ·exact absurd (x.inj _ _ _ _ O aA hl) L
    ·exact x.inj _ _ _ _ O bA hl
   ·by_cases r:b=(Hs j).size
    ·subst r;rw[K]at d;exact x.low _ _ d
    ·by_cases s:b=(Hs ops.size).size
     ·subst s;rw[ab]at d;grind
     ·rw[S b r s]at d;exact x.low _ _ d
   ·by_cases r:b=(Hs j).size
    ·subst r;rw[K]at d;exact x.apart _ _ d
    ·by_cases s:b=(Hs ops.size).size
     ·subst s;rw[ab]at d;grind
     ·rw[S b r s]at d;exact x.apart _ _ d
   ·exact(i.st.B7 g cF c7).ext a7
  refine⟨J,i.cl.set k,by rw[Act.sU];exact i.size,by rw[Act.sY];exact i.Rw,i.Mj,i.Gu b7,ds,i.EV p k a7 dn b9,λb=>?_,
   i.ext.trans ⟨a7,A.os,A.tape,A.output⟩⟩
  by_cases r:b=(Hs j).size
  ·subst r;refine⟨λ_=> .inr ⟨bB,bH,?_⟩,λ_=>by rw[K];omega⟩;rw[bN];exact yr i.cl k
  ·by_cases s:b=(Hs ops.size).size
   ·subst s;refine⟨λh=>absurd ab h,λh=>?_⟩;rcases h with h|⟨_,h,_⟩
    ·have:=p.lt0 h;omega
    ·omega
   ·rw[S b r s,bS b s,i.Xy];refine or_congr Iff.rfl ⟨λ⟨N,L,O⟩=>⟨N,L,?_⟩,λ⟨N,L,O⟩=>⟨N,L,?_⟩⟩
    ·rw[p.DJ k.lt L N (by rw[ca];omega)];exact O
    ·rw[p.DJ k.lt L N (by rw[ca];omega)]at O;exact O
def Inv.aio(k:Dr P cx cf base D m ops E Hs ws pU)(f:Inv cx base D m ops E Hs ws pU listed a w μ q)(K:P7 ops listed j o)(dk:lQ ops D (E j) o.guard=some true)(cL:jr o.op=true)
 (b8:∀i al,ops[i]? =some al->jr al.op=true->(i<j->kL ops i j=true)/\(j<i->kL ops j i=true)) {v:T}
 (A:HD cx cf D (E j) (Hs j) o.op v (Hs (j+1))) (c9:(E j).dst D o.dst v=some (E (j+1))):
 Cu P (λc av=>∃L,Inv cx base D m ops E Hs ws pU (listed.setIfInBounds j true) (a.put o.dst c) av L (λ_=>j+1)) ((execOp a.eval o).run P w):=by
 have eb:rh D ops E j:=⟨o,K.op,cL,dk⟩;have bT:∀i,rh D ops E i->i<j->listed.getD i false=true:=by
  rintro i ⟨al,N,I,_⟩ bu;exact K.before i ((b8 i al N I).1 bu)
 have bS:∀i,rh D ops E i->j<i->listed.getD i false=false:=by
  rintro i ⟨al,N,I,_⟩ bu;exact K.behind i ((b8 i al N I).2 bu)
 have r:=K.lt;have ef:(Hs j).size<=(Hs (j+1)).size:=k.mono j r;have eh:(Hs (j+1)).size<=(Hs ops.size).size:=pi k.mono (show j+1<=ops.size from r) (ax _);have dv:(Hs 0).size<=(Hs j).size:=pi k.mono (ay _) (bI r);have cp:∀b,b<(Hs j).size->(PH Hs ops.size q).get b=(Hs j).get b:=by
  intro b e;have t:b<(Hs ops.size).size:=B;rw[k.Al (f.Mj _) t];have bW:xI Hs b ops.size<=j:=(mQ k.mono t (bI r)).1 e;rcases Nat.le_total (max (q b) (xI Hs b ops.size)) j with c4|c1
  ·refine(nR k.mono c4 λi bp bs=>?_).symm;have V:b<(Hs i).size:=(mQ k.mono t B).2 B;refine k.same B V λI an=>?_;have:=(f.mL i b I V an).1 (bT i I bs);omega
  ·refine nR k.mono c1 λi bp bs=>?_;have c7:=f.Mj b;have V:b<(Hs i).size:=(mQ k.mono t B).2 B;refine k.same B V λI an=>?_;have hl:=(f.mL i b I V an).2 B;rcases Nat.eq_or_lt_of_le bp with h|h
   ·subst h;rw[K.not]at hl;grind
   grind
 have cX:∀b d,μ b=some d->b<(Hs j).size\/(Hs (j+1)).size<=b:=by
  intro b d e;rcases aT b (Hs j).size with h|h
  ·omega
  ·right;rcases aT b (Hs (j+1)).size with l|l
   ·exfalso;have t:b<(Hs ops.size).size:=B;rcases(f.Xy b).1 (by rw[e];simp)with g|⟨_,_,g⟩
    ·have:=k.lt0 g;omega
    ·rw[(k.made r t).2 ⟨h,l⟩]at g;simp only[Nat.add_sub_cancel]at g;rw[K.not]at g;grind
   omega
 have cF:∀b,μ b≠none->pU b≠none\/(Hs 0).size<=b:=λb e=>by
  rcases(f.Xy b).1 e with g|⟨g,_⟩
  ·grind
  omega
 let ab:Mu:=⟨λb=>if b<(Hs j).size then μ b else none,λp=>μ.rf p\/∃b d,(Hs j).size<=b/\μ b=some d/\d.jO=p⟩
 have bB:∀b,b<(Hs j).size->ab b=μ b:=λb e=>by grind
 have U:∀b d,ab b=some d->b<(Hs j).size/\μ b=some d:=by
  grind
 have aA:∀p,pG ab p->pG μ p:=by
  rintro p (⟨b,d,e,hl⟩|hr|⟨b,d,e,M,hl⟩)
  ·exact .inl ⟨b,d,(U b d e).2,hl⟩
  ·exact .inr hr
  ·exact .inl ⟨b,d,M,hl⟩
 have aE:∀b d,b<(Hs j).size->μ b=some d->ab b=some d:=λb d e M=>by rw[bB b e];exact M
 have ds:St cx base w.heap ab (Hs j):=by
  refine⟨k.wf j (bI r),f.st.fit,λb d e=>?_,λb O d F e a6 hl=>?_,λb d e=>?_,λb d e=>?_,λp hr=>?_,λg a8 bi=>?_⟩
  ·have⟨x,l⟩:=U b d e;have⟨Z,A,N⟩:=f.st.box b d l;rw[cp b x]at A;exact⟨Z,A,N.conv (k.aeR j (bI r) b Z (cF b (by rw[l];simp)) A) aE aA⟩
  ·exact f.st.inj b O d F (U b d e).2 (U O F a6).2 hl
  ·exact f.st.low b d (U b d e).2
  ·rintro(hr|⟨O,F,a6,aX,hl⟩)
   ·exact f.st.apart b d (U b d e).2 hr
   ·have:=f.st.inj O b F d aX (U b d e).2 hl;have:=(U b d e).1;omega
  ·rcases hr with hr|⟨b,d,_,M,hl⟩
   ·exact f.st.tV p hr
   ·rw[<-hl];exact f.st.lt M
  ·have bX:=f.st.B7 g a8 bi;refine bX.conv (n:=0) ?_ (λb d e=>by omega) aA;have⟨_,_,_,_,_,_,_,_,_,dd,_⟩:=bX.nM;exact .ks _ λu ae=>(dd u ae).2.low 0
 have dn:lO w.heap ab D (Fb D (E j) (o.looksAt ops)) a.tmps:=by
  intro s u ae;refine(f.Sz k K s u ae).conv (n:=(Hs j).size) ?_ aE aA
  rw[BC]at ae;split at ae
  ·exact k.ain j (bI r) s u ae
  grind
 have dm:=A.congr (e':=Fb D (E j) (o.looksAt ops)) λZ A=>CP A;refine(Gq k.j7 k.ck ds dn dm).mono λc av cd=>?_;obtain⟨⟨L,b9,W,J,ca⟩,_⟩:=cd
 let S:Mu:=⟨λb=>if b<(Hs (j+1)).size then L b else μ b,μ.rf⟩
 have bg:∀b,b<(Hs (j+1)).size->S b=L b:=λb e=>by grind
 have bC:∀b,(Hs (j+1)).size<=b->S b=μ b:=λb e=>by
  have:¬b<(Hs (j+1)).size:=B
  grind
 have bA:L.rf=ab.rf:=J.ext.rf;have ec:∀b d,(Hs (j+1)).size<=b->μ b=some d->L.rf d.jO:=by
  intro b d e M;rw[bA]
  grind
 have bH:∀p,pG S p->pG L p:=by
  rintro p (⟨b,d,e,hl⟩|hr)
  ·by_cases h:b<(Hs (j+1)).size
   ·rw[bg b h]at e;exact .inl ⟨b,d,e,hl⟩
   ·rw[bC b B]at e;right;rw[<-hl];grind
  ·right;rw[bA];grind
 have b7:∀b d,L b=some d->b<(Hs (j+1)).size:=λb d e=>W.gh e;have bN:∀b d,b<(Hs (j+1)).size->L b=some d->S b=some d:=λb d e M=>by rw[bg b e];exact M
 have a7:Ext w.heap μ av.heap S:=by
  refine⟨J.ext.size,λp bn c6=>?_,λb d e=>?_,rfl,λp bn hr=>J.ext.kept p bn (.inl hr)⟩
  ·have⟨y,z⟩:=J.ext.pN p bn λh=>c6 (aA p h)
   grind
  ·rcases cX b d e with h|h
   ·have⟨F,aX,ed⟩:=J.ext.mu b d (aE b d h e)
    grind
   grind
 have de:St cx base av.heap S (PH Hs ops.size (λ_=>j+1)):=by
  have ap:∀b d,S b=some d->(b<(Hs (j+1)).size/\L b=some d)\/((Hs (j+1)).size<=b/\μ b=some d):=by
   grind
  refine⟨ID _ _ _,W.fit,λb d e=>?_,λb O d F e a6 hl=>?_,λb d e=>?_,λb d e hr=>?_,λp hr=>?_,λg a8 bi=>(f.st.B7 g a8 bi).ext a7⟩
  ·rcases ap b d e with⟨x,l⟩|⟨x,l⟩
   ·have⟨Z,A,N⟩:=W.box b d l;have t:b<(Hs ops.size).size:=B;have bW:xI Hs b ops.size<=j+1:=(mQ k.mono t (show j+1<=ops.size from r)).1 x;refine⟨Z,?_,N.conv (N.low b7) bN bH⟩;rw[k.Al (q:=λ_=>j+1) (show j+1<=ops.size from r) t,show max (j+1) (xI Hs b ops.size)=j+1 by omega];exact A
   ·have⟨Z,A,N⟩:=f.st.box b d l;have t:b<(Hs ops.size).size:=f.st.gh l;have bW:¬xI Hs b ops.size<=j+1:=λh=>by
     have:=(mQ k.mono t (show j+1<=ops.size from r)).2 h;omega
    refine⟨Z,?_,N.ext a7 ?_⟩
    ·rw[k.Al (f.Mj _) t]at A;rw[k.Al (q:=λ_=>j+1) (show j+1<=ops.size from r) t,show max (j+1) (xI Hs b ops.size)=xI Hs b ops.size by omega];rw[<-A];refine(nR k.mono B λi bp bs=>?_).symm;have c7:=f.Mj b;have ea:=JG Hs b ops.size;have V:b<(Hs i).size:=(mQ k.mono t B).2 B;refine k.same B V λI an=>?_;have hl:=(f.mL i b I V an).2 B;rw[bS i I B]at hl;grind
    ·exact J.ext.kept d.jO (f.st.lt l) (.inr ⟨b,d,B,l,rfl⟩)
  ·rcases ap b d e with⟨x,l⟩|⟨x,l⟩<;>rcases ap O F a6 with⟨cb,aN⟩|⟨cb,aN⟩
   ·exact W.inj b O d F l aN hl
   ·exact absurd (by rw[hl];grind) (W.apart b d l)
   ·exact absurd (by rw[<-hl];grind) (W.apart O F aN)
   ·exact f.st.inj b O d F l aN hl
  ·rcases ap b d e with⟨x,l⟩|⟨x,l⟩
   ·exact W.low b d l
   ·exact f.st.low b d l
  ·rcases ap b d e with⟨x,l⟩|⟨x,l⟩
   ·exact W.apart b d l (by rw[bA];grind)
   ·exact f.st.apart b d l hr
  ·exact bK (f.st.tV p hr) J.ext.size
 have di:iu av.heap S v c:=b9.conv (b9.low b7) bN bH;refine⟨S,f.cl.set K,by rw[Act.sU];exact f.size,by rw[Act.sY];exact f.Rw,λ_=>r,λi b b6 _ _=>?_,de,f.EV k K a7 di c9,λb=>?_,
  f.ext.trans ⟨a7,J.os,J.tape,J.output⟩⟩
 ·rcases dG i j with h|h|h
  ·rw[getD_set_ne false B,bT i b6 h];grind
  ·subst h;rw[yr f.cl K];simp
  ·rw[getD_set_ne false B,bS i b6 h];grind
 ·by_cases x:b<(Hs (j+1)).size
  ·rw[bg b x];have t:b<(Hs ops.size).size:=B;by_cases l:b<(Hs j).size
   ·have:L b≠none↔μ b≠none:=by
     constructor
     ·intro e;rcases ca.2.1 b e with g|g
      ·rwa[bB b l]at g
      ·omega
     ·intro e;have⟨d,M⟩:=Option.ne_none_iff_exists'.1 e;have⟨F,aX,_⟩:=J.ext.mu b d (aE b d l M);rw[aX];simp
    rw[this,f.Xy];refine or_congr Iff.rfl ⟨λ⟨y,z,R⟩=>⟨y,z,?_⟩,λ⟨y,z,R⟩=>⟨y,z,?_⟩⟩
    ·rw[k.DJ r z y B];exact R
    ·rw[k.DJ r z y B]at R;exact R
   ·refine⟨λ_=> .inr ⟨B,t,?_⟩,λ_=>ca.2.2 b B x⟩;rw[(k.made r t).2 ⟨B,x⟩];exact yr f.cl K
  ·rw[bC b B,f.Xy];refine or_congr Iff.rfl ⟨λ⟨y,z,R⟩=>⟨y,z,?_⟩,λ⟨y,z,R⟩=>⟨y,z,?_⟩⟩
   ·rw[k.DJ r z y B];exact R
   ·rw[k.DJ r z y B]at R;exact R
def Sh{e l f:H}{D:Ty}{c z n A:Nat}{p:T}(b:e.store D (.fc c z n A) p=some l)(W:e.ir.length=e.size)(Z:f.ir.length=f.size)(K:f.get c=e.get c):
 l.size=e.size/\(∀g,g≠c->l.get g=e.get g)/\gU e l c=false/\c<e.size/\∃d,f.store D (.fc c z n A) p=some d/\d.size=f.size/\d.ir.length=d.size/\d.get c=l.get c/\∀g,g≠c->d.get g=f.get g:=by
 have b:iS (Nat.beq (mJ p.cells) D.size) (J (e.get c) λI=> @jK.rec (λ_=>aa H) (λu h r exact t k=>
  iS (Nat.beq h z) (@Bool.rec (λ_=>aa H) (J (oo k n) λx=>J (mS x A p.cells) λy=>J (mw k n y) λs=>
   J (jd (Nat.succ r)) λi=>e.put c ⟨u,h,i,exact,false,s⟩) none t)) I)=some l:=b
 have⟨ab,b⟩:=fj.1 b;replace b:=eg.1 b;obtain⟨⟨u,h,r,M,t,k⟩,v,b⟩:=b;have⟨ae,b⟩:=fj.1 b;cases t with
 |true=>grind
 |false=>
  replace b:=eg.1 b;obtain⟨x,al,b⟩:=b;replace b:=eg.1 b;obtain⟨y,an,b⟩:=b;replace b:=eg.1 b;obtain⟨s,ap,b⟩:=b;replace b:=eg.1 b;obtain⟨i,L,b⟩:=b;have V:i=r+1:=by rw[jt]at L;grind
  have⟨p1,p2,p3,p4⟩:=Eo b W;have U:c<f.size:=H.gh (K.trans v);have F:∃d,f.put c ⟨u,h,i,M,false,s⟩=some d:=⟨_,H.yF.2 ⟨U,B,rfl⟩⟩;obtain⟨d,F⟩:=F;have⟨N,O,R,S⟩:=Eo F Z;refine⟨p1,p4,?_,H.gh v,d,?_,N,O,by rw[R,p3],S⟩
  ·unfold gU;rw[v,p3];show Nat.beq r i=false;rw[V]
   grind [aH,Nat.beq]
  ·show iS (Nat.beq (mJ p.cells) D.size) (J (f.get c) λI=> @jK.rec (λ_=>aa H) (λu h r exact t k=>
    iS (Nat.beq h z) (@Bool.rec (λ_=>aa H) (J (oo k n) λx=>J (mS x A p.cells) λy=>J (mw k n y) λs=>
     J (jd (Nat.succ r)) λi=>f.put c ⟨u,h,i,exact,false,s⟩) none t)) I)=some d
   rw[K,v];simp_all
def Dr.Sj(r:Dr P cx cf base D m ops E Hs ws pU){c:Nat}{k:Oper}(n:ops[c]? =some k)(L:qP k.op=true)(U:rh D ops E c):
 ∃e,ZF cx D ops E c e/\e<(Hs c).size/\(Hs (c+1)).size=(Hs c).size/\(∀f,f≠e->(Hs (c+1)).get f=(Hs c).get f)/\gU (Hs c) (Hs (c+1)) e=false/\
  ∀d:H,d.ir.length=d.size->d.get e=(Hs c).get e->∃g,ke k.op cx D (E c) d=some (.val .undef g)/\g.size=d.size/\g.ir.length=g.size/\g.get e=(Hs (c+1)).get e/\∀f,f≠e->g.get f=d.get f:=by
 obtain⟨aN,t,_,M⟩:=U;rw[n]at t;simp only[aw]at t;subst t;have K:c<ops.size:=(Array.getElem?_eq_some_iff.1 n).1;rcases oS (r.tr.step c _ n)with⟨V,_⟩|⟨_,h,b,_⟩
 ·rw[M]at V;grind
 ·cases u:k.op with
  |store x y z=>
   rw[u]at b;rcases b with b|⟨S,N,b,_⟩
   ·have b:(J (cx.ty x) λp=>J (iG cx D (E c) y) λa=>J (iG cx D (E c) z) λh=>iS h.jc (J ((Hs c).store p a h) λl=>some (nh.val .undef l)))=some (.val h (Hs (c+1))):=b;replace b:=eg.1 b;obtain⟨p,O,b⟩:=b;replace b:=eg.1 b;obtain⟨W,A,b⟩:=b;replace b:=eg.1 b;obtain⟨aX,R,b⟩:=b;have⟨an,b⟩:=fj.1 b;replace b:=eg.1 b;obtain⟨l,F,b⟩:=b;simp only[aw,nh.val.injEq]at b;obtain⟨rfl,rfl⟩:=b;cases W with
    |fc e ap i aE=>
     have I:∀d:H,d.ir.length=d.size->d.get e=(Hs c).get e->_:=λd v s=>Sh F (r.wf c (bI K)) v s;have⟨Z,ab,ae,al,_⟩:=I (Hs c) (r.wf c (bI K)) rfl;refine⟨e,⟨k,x,y,z,n,u,M,by rw[A];rfl⟩,al,Z,ab,ae,λd v s=>?_⟩;have⟨_,_,_,_,g,av,T⟩:=I d v s;refine⟨g,?_,T⟩;show(J (cx.ty x) λp=>J (iG cx D (E c) y) λa=>J (iG cx D (E c) z) λh=>iS h.jc (J (d.store p a h) λl=>some (nh.val .undef l)))=_;rw[O,A,R];simp_all
    |_=>simp[H.store]at F
   ·exact absurd b (FN (λf aA=>by grind) S N)
  |_=>rw[u]at L;simp[qP]at L
def Inv.aeS(g:Dr P cx cf base D m ops E Hs ws pU)(i:Inv cx base D m ops E Hs ws pU listed a w μ q)(k:P7 ops listed j o)(b9:lQ ops D (E j) o.guard=some true)(I:qP o.op=true)
 {K:T} (t:HD cx cf D (E j) (Hs j) o.op K (Hs (j+1))) (bX:(E j).dst D o.dst K=some (E (j+1))):
 Cu P (λO av=>∃L cp,Inv cx base D m ops E Hs ws pU (listed.setIfInBounds j true) (a.put o.dst O) av L cp) ((execOp a.eval o).run P w):=by
 have U:jr o.op=true:=by cases bC:o.op<;>rw[bC]at I<;>simp[qP]at I<;>rfl
 have V:rh D ops E j:=⟨o,k.op,U,b9⟩;have A:=k.lt;have⟨d,a8,R,b6,bN,b8,an⟩:=g.Sj k.op I V;have v:d<(Hs ops.size).size:=bK R (pi g.mono (bI A) (ax _));have N:∀b,rh D ops E b->b<j->gU (Hs b) (Hs (b+1)) d=false->listed.getD b false=true:=by
  intro b l x e;rcases g.tr.both j b d a8 l x with h|h
  ·rw[e]at h;grind
  ·exact k.before b h
 have aA:∀b,rh D ops E b->j<b->gU (Hs b) (Hs (b+1)) d=false->listed.getD b false=false:=by
  intro b l x e;have bn:=l;obtain⟨cd,ae,bs,_⟩:=bn;rcases g.HQ j b o cd k.op ae x with⟨_,h⟩|h
  ·have⟨y,bg,_,_,bS,_⟩:=g.Sj ae (h U bs).2 l;have:y=d:=by
    rcases Nat.decEq y d with bB|rfl
    ·exfalso;have z:=bS d (bE bB);unfold gU at e;rw[z]at e;cases s:(Hs b).get d with
     |none=>rw[s]at e;grind
     |some n=>
      rw[s]at e;have e:Nat.beq n.ver n.ver=false:=e;simp at e
    ·rfl
   subst this;rcases g.tr.both b j y bg V x with h|h
   ·rw[b8]at h;grind
   ·exact k.behind b h
  ·exact k.behind b h
 have c4:xI Hs d ops.size<=j:=(mQ g.mono v (bI A)).1 R;have bT:(PH Hs ops.size q).get d=(Hs j).get d:=by
  rw[g.Al (i.Mj _) v];have c7:=i.Mj d;rcases Nat.le_total (max (q d) (xI Hs d ops.size)) j with bA|bp
  ·refine(nR g.mono bA λb W ab=>?_).symm;have r:d<(Hs b).size:=(mQ g.mono v B).2 B;refine g.same B r λl e=>?_;have:=(i.mL b d l r e).1 (N b l ab e);omega
  ·refine nR g.mono bp λb W ab=>?_;have r:d<(Hs b).size:=(mQ g.mono v B).2 B;refine g.same B r λl e=>?_;have hl:=(i.mL b d l r e).2 B;rcases Nat.eq_or_lt_of_le W with h|h
   ·subst h;rw[k.not]at hl;grind
   grind
 have⟨c1,al,aE,cX,aN,aX⟩:=an (PH Hs ops.size q) (ID _ _ _) bT;have b7:K= .undef:=by
  have⟨c6,bH,_⟩:=an (Hs j) (g.wf j (bI A)) rfl;rcases t with t|⟨f,cL,t,_⟩
  ·rw[bH]at t;grind
  grind
 subst b7;have bi:∀n∈o.op.operands,iG cx D (E j) n=iG cx D (Fb D (E j) (o.looksAt ops)) n:=λn t=>CP t;rw[CQ bi]at al;refine((BK g.j7 i.st (i.Sz g k) al).ran).mono λO av s=>?_;obtain⟨L,ca,ap,J,cb⟩:=s;refine⟨L,λc=>if c=d then j+1 else q c,i.cl.set k,by rw[Act.sU];exact i.size,by rw[Act.sY];exact i.Rw,λc=>?_,λb c F r e=>?_,
  ap.congr (ID _ _ _) λc M u=>?_,i.EV g k J.ext ca bX,i.Jv g k b6 λc=>⟨λu=>?_,λu=>?_⟩,i.ext.trans J⟩
 ·show(if c=d then j+1 else q c)<=ops.size;have:=i.Mj c;split<;>omega
 ·show _↔b<(if c=d then j+1 else q c);by_cases p:c=d
  ·subst p;rw[au rfl];rcases dG b j with h|h|h
   ·rw[getD_set_ne false B,N b F h e];grind
   ·subst h;rw[yr i.cl k];simp
   ·rw[getD_set_ne false B,aA b F h e];grind
  ·rw[Z p];have bu:j≠b:=by
    rintro rfl;have z:=bN c p;unfold gU at e;rw[z]at e;cases s:(Hs j).get c with
    |none=>rw[s]at e;grind
    |some n=>
     rw[s]at e;have e:Nat.beq n.ver n.ver=false:=e;simp at e
   rw[getD_set_ne false bu];exact i.mL b c F r e
 ·have S:c<(Hs ops.size).size:=by
   have:=ap.gh u;rw[aE]at this;exact this
  have bW:(if c=d then j+1 else q c)<=ops.size:=by have:=i.Mj c;split<;>omega
  rw[g.Al (q:=λc=>if c=d then j+1 else q c) bW S];by_cases p:c=d
  ·subst p;rw[au rfl,aN,show max (j+1) (xI Hs c ops.size)=j+1 by omega]
  ·rw[Z p,aX c p,g.Al (i.Mj _) S]
 ·rcases cb.2.1 c u with h|h
  ·exact h
  omega
 ·have⟨M,a6⟩:=Option.ne_none_iff_exists'.1 u;have⟨cF,a7,_⟩:=J.ext.mu c M a6;rw[a7];simp
def Inv.step(c:Dr P cx cf base D m ops E Hs ws pU)(d:Inv cx base D m ops E Hs ws pU listed a w μ q)(z:j∈Region.ready .any ops listed):
 wpOp P ops Q j (λx i=>∃F A,Inv cx base D m ops E Hs ws pU (listed.setIfInBounds j true) x i F A) a w:=by
 have⟨o,b⟩:=rdy d.cl z;unfold wpOp;simp only[b.op];rcases oS (c.tr.step j o b.op)with⟨e,f,y⟩|⟨e,I,p,f⟩
 ·simp only[d.want c b e,cC,br];exact⟨μ,q,d.skip c b e f y⟩
 ·simp only[d.want c b e,bw];left;cases g:jr o.op with
  |false=>exact Cu.wp (d.quiet c b e g p f) λr i k=>by grind
  |true=>
   cases n:qP o.op with
   |true=>exact Cu.wp (d.aeS c b e n p f) λr i k=>k
   |false=>
    refine Cu.wp (d.aio c b e g (λu v t s=>⟨λl=>?_,λl=>?_⟩) p f) λr i k=>by grind
    ·rcases c.HQ u j v o t b.op l with⟨_,h⟩|h
     ·have:=(h s g).2;rw[n]at this;grind
     omega
    ·rcases c.HQ j u o v b.op t l with⟨_,h⟩|h
     ·have:=(h g s).1;rw[n]at this;grind
     omega
def unl(listed:ah Bool):Nat:=(listed.toList.filter λb=> !b).length
def NH:∀(b:List Bool) (j:Nat),b[j]? =some false->((b.set j true).filter λc=> !c).length+1=(b.filter λc=> !c).length:=by
 intro b;induction b with
 |nil=>simp
 |cons f b e=>
  intro j d;cases j with
  |zero=>grind
  |succ j=>
   simp at d;have:=e j d;cases f<;>simp[cP]<;>omega
def Ox(b:listed.getD j true=false):unl (listed.setIfInBounds j true)+1=unl listed:=by
 have c:j<listed.size:=by
  grind
 unfold unl;rw[Array.toList_setIfInBounds];simp_all[NH]
def Oh(d:Dr P cx cf base D m ops E Hs ws pU)(e:Cl ops listed)(hr:Region.ready .any ops listed=[]):∀b,b<ops.size->listed.getD b false=true:=by
 intro b;induction b using Nat.strongRecOn with
 |_ b n=>
  intro i;cases k:listed.getD b false with
  |true=>rfl
  |false=>
   have c:ops[b]? =some ops[b]:=G;have:b∈Region.ready .any ops listed:=by
    refine mem_ready.2 ⟨?_,ops[b],c,λf h g=>?_⟩
    ·have:b<listed.size:=by rw[e.size];exact i
     grind
    ·have l:=d.back b _ c f h g
     grind
   rw[hr]at this
   grind
def Inv.afr(c:Dr P cx cf base D m ops E Hs ws pU)(f:Inv cx base D m ops E Hs ws pU listed a w μ q)(p:∀g,g<ops.size->listed.getD g false=true):
 St cx base w.heap μ (Hs ops.size)/\lO w.heap μ D (E ops.size) a.tmps/\Bb pU μ (Hs 0).size (Hs ops.size).size:=by
 refine⟨f.st.congr (c.wf _ (ax _)) λd S r=>?_,λs h N=>f.So s h ?_,?_⟩
 ·have u:=f.lt c r;rw[c.Al (f.Mj _) u];have U:=JG Hs d ops.size;have:=f.Mj d;refine nR c.mono B λg W y=>?_;have t:d<(Hs g).size:=(mQ c.mono u B).2 B;refine c.same y t λK M=>?_;have:=(f.mL g d K t M).1 (p g y);omega
 ·
  have R:∀b,u6 ops listed s ops.size+b<=ops.size->(E (u6 ops listed s ops.size+b)).get D s=(E (u6 ops listed s ops.size)).get D s:=by
   intro b;induction b with
   |zero=>simp
   |succ b O=>
    intro V;have x:u6 ops listed s ops.size+b<ops.size:=B;have z:ops[u6 ops listed s ops.size+b]? =some ops[u6 ops listed s ops.size+b]:=G;rw[<-O B];have A:ops[u6 ops listed s ops.size+b].dst≠some s:=by
     intro J;have:=Nk (n:=ops.size) x (p _ x) (by rw[z];exact J);omega
    have ae:∀h i,(E (u6 ops listed s ops.size+b)).dst D ops[u6 ops listed s ops.size+b].dst h=some i->i.get D s=(E (u6 ops listed s ops.size+b)).get D s:=by
     intro h i e;cases v:ops[u6 ops listed s ops.size+b].dst with
     |none=>rw[v]at e;have e:some _=some i:=e;simp only[aw]at e;rw[e]
     |some F=>
      rw[v]at e A;have L:s≠F:=λI=>A (by rw[I]);rw[Env.Eu (show Env.set D _ F h=some i from e) s,Z L]
    rcases oS (c.tr.step _ _ z)with⟨_,e,_⟩|⟨_,h,_,e⟩
    ·grind
    grind
  have ab:=aaO (ops:=ops) (listed:=listed) (s:=s) ops.size;have:=R (ops.size-u6 ops listed s ops.size) B;rw[show u6 ops listed s ops.size+(ops.size-u6 ops listed s ops.size)=ops.size by omega]at this;rw[<-this];exact N
 ·refine⟨pi c.mono (ay _) (ax _),λd r=>?_,λd k l=>?_⟩
  ·rcases(f.Xy d).1 r with T|⟨k,l,_⟩
   ·grind
   omega
  ·refine(f.Xy d).2 (.inr ⟨k,l,p _ ?_⟩);have:=c.cr0 l k;have:=JG Hs d ops.size;omega
def RJ(f:Dr P cx cf base D m ops E Hs ws pU)
 (p:∀a w μ,St cx base w.heap μ (Hs ops.size)->lO w.heap μ D (E ops.size) a.tmps->Bb pU μ (Hs 0).size (Hs ops.size).size->sd ws pU w μ->a.tmps.size=m->a.defers=[]->Q .normal a w):
 ∀(c:Nat) (listed:ah Bool) (a:Act) (w:World),unl listed<=c->(∃μ q,Inv cx base D m ops E Hs ws pU listed a w μ q)->wpAny P .any ops Q c listed a w:=by
 have fin:∀(listed:ah Bool) (a:Act) (w:World),(∃μ q,Inv cx base D m ops E Hs ws pU listed a w μ q)->Region.ready .any ops listed=[]->Q .normal a w:=by
  rintro listed a w ⟨μ,q,b⟩ hr;have⟨k,l,n⟩:=b.afr f (Oh f b.cl hr);exact p a w μ k l n b.ext b.size b.Rw
 intro c;induction c with
 |zero=>
  intro listed a w r d;have hr:Region.ready .any ops listed=[]:=by
   cases hr:Region.ready .any ops listed with
   |nil=>rfl
   |cons g u=>
    have e:g∈Region.ready .any ops listed:=by rw[hr];simp
    have:=Ox (mem_ready.1 e).1;omega
  exact⟨hr,fin listed a w d hr⟩
 |succ c s=>
  intro listed a w r d;refine⟨λhr=>fin listed a w d hr,λg e=>?_⟩;obtain⟨μ,q,b⟩:=d;have:=Ox (mem_ready.1 e).1;exact wpOp_mono (λh t i=>s _ h t B i) (b.step f e)
theorem chain{n:World}{p:Mu}{h:H}{u:Env}{g c:H}{f:Env}(j7:jT P cx)(t:pL P cx cf)(v:IE m ops){l:Nat}(y:ops[l]? =some o)(N:mV cx cf D ops u g o=some (f,c))
 (r:wu cx base D m n p h u g a w):(∃F e,wu cx base D m n p h f c F e)/\mR g c:=by
 have A:=r;obtain⟨μ,b,d,R,I,J,x,T⟩:=A;rcases oS N with⟨O,k,rfl⟩|⟨O,U,z,k⟩
 ·exact⟨⟨_,w,μ,b,lO.put d .undef (λb i=>by rw[x];exact v l o b y i) k,R,I,J,by rw[Act.sU];exact x,by rw[Act.sY];omega⟩,mR.refl b.wf⟩
 ·have hr:=Gq (P:=P) j7 t b d z;have⟨s,e,L⟩:=hr.some;have K:Cu P (λs e=>wu cx base D m n p h f c (a.put o.dst s) e) ((execOp a.eval o).run P w):=
   r.after (λb i=>v l o b y i) k λbase μ b d=>Gq j7 t b d z
  have⟨S,V,M⟩:=K.some;exact⟨⟨_,_,M⟩,L.2⟩
def NR(b6:P.follows .mixedOrders=true)(j7:jT P cx)(Z:pL P cx cf):VM P cx cf qS:=by
 intro base D m dd de c7 ops e bA h bC a w Q id ae an b8 bp bN;have⟨E,Hs,cd,cF,bg,U,cL,_,_,cX,c1,_,cp⟩:=Hc ops.toList 0 ⟨[],[]⟩ e bA h bC (λt=>by simp) b8;simp only[cU,cY]at bg U;have bi:Trace cx cf D ops E Hs:=⟨λb o k=>cL b o (ay _) k,λb F c u v A=>cX b F c (ay _) u v A,λb F c u v A=>c1 b F c (ay _) u v A,λb F c u v A=>cp b F c (ay _) u v A⟩;obtain⟨pU,p,r,x,bu,g,aA,ap⟩:=bp;subst cd cF;have N:∀b,b<=ops.size->∃O L,wu cx base D m w pU (Hs 0) (E b) (Hs b) O L:=by
  intro b;induction b with
  |zero=>intro _;exact⟨a,w,pU,p,r,sd.refl _ _,Bb.refl _ _,mR.refl p.wf,aA,ap⟩
  |succ b T=>
   intro f;have⟨a1,M,W⟩:=T B;have k:ops[b]? =some ops[b]:=G;exact(chain j7 Z an k (bi.step b _ k) W).1
 have ab:∀b,b<ops.size->mR (Hs b) (Hs (b+1)):=by
  intro b f;have⟨a1,M,W⟩:=N b B;have k:ops[b]? =some ops[b]:=G
  grind [chain]
 have J:Dr P cx cf base D m ops E Hs {w with drawn:=w.drawn+1} pU:=by
  refine⟨j7,Z,an,bi,p,λi j c9 cb bS bX bT=>LM ae bS bX bT,λj o k=>NS ae k,λb f sl I n=>?_,λb f c y d aN I n=>?_,ab,λb f=>?_⟩
  ·have⟨a1,M,V,s,r1,_⟩:=N b f;exact(r1 sl I n).low λc l d=>s.gh d
  ·have⟨a1,M,V,s,r1,c4,bs,_⟩:=N b f;have bW:V c≠none:=by
    rcases d with d|d
    ·have⟨l,R⟩:=Option.ne_none_iff_exists'.1 d;have⟨c6,bH,_⟩:=c4.ext.mu c l R;rw[bH];simp
    ·exact bs.2.2 c d (H.gh aN)
   have⟨l,R⟩:=Option.ne_none_iff_exists'.1 bW;have⟨z,S,b7⟩:=s.box c l R;rw[aN]at S;simp only[aw]at S;subst S;exact b7.low (λc l d=>s.gh d) I n
  ·have⟨a1,M,V,s,_⟩:=N b f;exact s.wf
 have bB:∀b,b<=ops.size->mR (Hs 0) (Hs b):=by
  intro b;induction b with
  |zero=>intro _;exact mR.refl p.wf
  |succ b T=>intro f;exact(T B).trans (ab b B)
 refine wp_region_any b6 (RJ J (λO L bn aX a6 a7 K b9 ca=>?_) ops.size _ a _ (by simp[unl]) ⟨pU,λ_=>0,?_⟩)
 ·rw[bg]at a6;rw[U]at aX a7;have a8:sd w pU L bn:=⟨K.ext,K.os,K.tape,K.output⟩;exact bN O L ⟨bn,aX,a6,x.trans a8,bu.trans (hp:=w.heap) a7 a8.ext,by have:=bB ops.size (ax _);rw[U]at this;exact g.trans this,b9,ca⟩
 ·have aE:∀b,(Array.replicate ops.size false).getD b false=false:=by
   intro b;rcases aT b ops.size with h|h<;>simp[h]
  refine⟨⟨G,λj cb _ hl=>?_⟩,aA,ap,λ_=>ay _,λb c _ _ _=>?_,?_,λsl I n=>?_,λc=>?_,⟨Ext.refl _ _,rfl,rfl,rfl⟩⟩
  ·rw[aE]at hl;grind
  ·rw[aE];simp
  ·refine p.congr (ID _ _ _) λc l d=>?_;have av:=p.gh d;have al:c<(Hs ops.size).size:=bK av (pi J.mono (ay _) (ax _));rw[J.Al (q:=λ_=>0) (ay _) al];have:xI Hs c ops.size<=0:=(mQ J.mono al (ay _)).1 av;rw[show max 0 (xI Hs c ops.size)=0 by omega]
  ·have:u6 ops (Array.replicate ops.size false) sl ops.size=0:=by
    grind [Array.replicate,BV]
   rw[this]at n;exact r sl I n
  grind
end
end
section
section
variable {P:aj}{cx:Ctx}{cf:jQ}{base D m:Nat}{w0 w:World}{μ0 μ:Mu}{h0 h h':H}{e e':Env}{a:Act}
def CR{d:List T}{cs:ah aq}{g:ah Obj}(b:iW g μ d cs.toList):iu g μ (kI d) (if h:cs.size=1 then cs[0]else .tuple cs):=by
 have c:∀(j:cs.size≠1),iu g μ (.tuple d) (if h:cs.size=1 then cs[0]else .tuple cs):=by
  intro j;rw[dif_neg j];exact .tuple d cs (by simpa using b.1.symm) λn i l=>by simpa[cj,List.getD]using b.2 n i l
 have f:=b.1
 match d,b,f,c with
 | [],b,f,c=>exact c (by grind)
 | [i],b,f,c=>
  have k:cs.size=1:=by grind
  rw[dif_pos k];have:=b.2 0 i G
  grind [List.getD,kI]
 |o::p::d,b,f,c=>exact c (by grind)
def sO(c:ah aq):ResultVar->Sem aq
 | .tmp b=>pure (c.getD b Go.undef)
 | .cell d b=>do loadVar b (<-asAddr (c.getD d Go.undef))
def E4(c:Func)(d:ah aq):results c d=(do let b<-c.results.mapM (sO d);pure (if h:b.size=1 then b[0]else .tuple b)):=by
 unfold results;congr 1
def IK(j7:jT P cx)(K:St cx base w.heap μ h)(r:lO w.heap μ D e a.tmps):∀(g:List ResultVar) (k:List T),oX cx D e h g=some k->
 ∃d:List aq,iW w.heap μ k d/\(g.mapM (sO a.tmps)).run P w= .ok d w:=by
 intro g;induction g with
 |nil=>
  intro k b;have b:some []=some k:=b;simp_all[aw,iW.nil]
 |cons n g I=>
  intro k b;unfold oX at b;rw[kx]at b;replace b:=eg.1 b;obtain⟨j,c,b⟩:=b;replace b:=eg.1 b;obtain⟨s,F,b⟩:=b;simp only[aw]at b;subst b;have⟨d,x,A⟩:=I s F;have q:∀f,(sO a.tmps n).run P w= .ok f w->iu w.heap μ j f->∃d:List aq,iW w.heap μ (j::s) d/\((n::g).mapM (sO a.tmps)).run P w= .ok d w:=by
   intro f y hr;refine⟨f::d,iW.cons hr x,?_⟩;rw[List.mapM_cons,Sem.run_bind,y,Result.andThen_ok,Sem.run_bind,A,Result.andThen_ok,Sem.run_pure]
  cases n with
  |tmp i=>
   have c:e.get D i=some j:=c;exact q _ (by rfl) (r i j c)
  |cell p i=>
   have c:(J (e.get D p) λl=>J (cx.ty i) λo=>h.load o l)=some j:=c;replace c:=eg.1 c;obtain⟨l,z,c⟩:=c;replace c:=eg.1 c;obtain⟨o,E,c⟩:=c;have⟨L,f,t,u,v⟩:=FS (j7.ty i o E) K (r p l z) c;exact q f (by simp only[sO,t,asAddr,Sem.run_bind,Sem.run_pure,Result.andThen_ok,u]) v
def He(j7:jT P cx)(j:St cx base w.heap μ h)(i:lO w.heap μ D e a.tmps){b:Func}{d:List T}(f:oX cx D e h b.results.toList=some d):
 ∃c,(results b a.tmps).run P w= .ok c w/\iu w.heap μ (kI d) c:=by
 have⟨cs,k,g⟩:=IK (P:=P) j7 j i _ _ f;refine⟨_,?_,CR (cs:=cs.toArray) B⟩;rw[E4];have:b.results.mapM (sO a.tmps)=List.toArray<$>b.results.toList.mapM (sO a.tmps):=by
  rw[<-List.mapM_toArray]
 rw[this,Sem.run_bind,Sem.run_map,g];rfl
def Ho:∀(f d:Nat) (k:List T) (o:iM),ot D f d k=some o->∀n j,M o n=some j->(∃c,n=d+c/\c<f/\(k[c]? =some j\/(k.length<=c/\j= .undef))):=by
 intro f;induction f with
 |zero=>
  intro d k o b n j g;have b:some iM.nil=some o:=b;simp only[aw]at b;subst b
  grind [M]
 |succ f u=>
  intro d k o b n j g;have b:(J (jd (Nat.succ d)) λp=> @List.rec T (λ_=>aa iM)
   (@Bool.rec (λ_=>aa iM) (ot D f p []) (J (ot D f p []) λi=>some (.cons d .undef i)) (lI D d))
   (λa l _=>J (ot D f p l) λi=>some (.cons d a i)) k)=some o:=b
  simp only[jt,fw]at b;have q:∀{l:List T} {i:iM},ot D f (d+1) l=some i->M i n=some j->∃c,n=d+(c+1)/\c<f/\(l[c]? =some j\/(l.length<=c/\j= .undef)):=by
   grind
  cases k with
  |nil=>
   simp only at b;cases hl:lI D d with
   |false=>
    rw[hl]at b;have⟨c,r,s,t⟩:=q b g;simp_all
   |true=>
    rw[hl]at b;replace b:=eg.1 b;obtain⟨i,ht,b⟩:=b;simp only[aw]at b;subst b;rw[pw]at g;split at g
    ·simp_all
    ·have⟨c,r,s,t⟩:=q ht g;simp_all
  |cons v l=>
   simp only at b;replace b:=eg.1 b;obtain⟨i,ht,b⟩:=b;simp only[aw]at b;subst b;rw[pw]at g;split at g
   ·simp_all
   ·have⟨c,r,s,t⟩:=q ht g;simp_all
def Nx{n:Nat}{d:List T}{i:iM}{l:ah Obj}{c:ah aq}(k:iW l μ d c.toList)(o:ot D n 0 d=some i):
 lO l μ D ⟨i,.nil⟩ (c++Array.replicate (n-c.size) Go.undef):=by
 intro b j f;have f: @Bool.rec (λ_=>aa T) (M .nil b) (M i b) (lI D b)=some j:=f;cases hl:lI D b with
 |false=>rw[hl]at f;grind [M]
 |true=>
  rw[hl]at f;have⟨q,r,s,g⟩:=Ho n 0 d i o b j f;have p:b=q:=B;subst p;have t:d.length=c.size:=by simpa using k.1
  rcases g with g|⟨g,rfl⟩
  ·have u:b<d.length:=by
    grind
   have hr:=k.2 b j g;have:(c++Array.replicate (n-c.size) Go.undef).getD b Go.undef=c.toList.getD b Go.undef:=by
    rw[cj,Array.getElem?_append_left B];simp
   rw[this];exact hr
  ·have:(c++Array.replicate (n-c.size) Go.undef).getD b Go.undef=Go.undef:=by
    rw[cj,Array.getElem?_append_right B]
    grind
   rw[this];exact .undef
def KY{m g:Nat}{f:ah Oper->Bool}(p:m<=g):∀(b:Code),oK m f b=true->oK g f b=true:=by
 intro b;induction b with
 |region id q o=>
  intro h;simp only[oK,az]at h|-;refine⟨?_,h.2⟩;have d:=h.1;unfold Xx at d|-;rw[cg]at d|-;intro i j;have:=d i j
  grind [aK]
 |seq a c l n=>simp_all[az,oK]
 |cond i a c l n=>simp_all[az,oK]
 |block id c k=>grind [oK]
 |loop c k=>grind [oK]
 |_=>intro _;rfl
def GY(P:aj)(cx:Ctx)(f:ak)(g:Prim):Prop:=
 ∀b h d h',Fl g b h=some (d,h')->∀base w μ (c:ah aq),St cx base w.heap μ h->iW w.heap μ b c.toList->Cu P (tT cx base w μ h d h') ((callFunc f c).run P w)
def Aq(b:Fun):Bool:= !(b.fn.name== "runtime.NumGoroutine")&&match b.fn.body with
 |none=>false
 |some c=>oK b.fn.ntmps qS c
def p9{c:ak}{b:Func}{f:Code}(i:P.funcs[c]? =some b)(k:(b.name== "runtime.NumGoroutine")=false)(g:b.body=some f)(d:ah aq)(w:World):
 (callFunc c d).run P w= .ok (.enter c d) w:=by
 have j:¬b.name= "runtime.NumGoroutine" :=by grind
 simp[callFunc,i,j,g]
theorem N9(ae:P.follows .mixedOrders=true)(j7:jT P cx)(z:pL P cx cf){r:ak}{b:Fun}(F:P.funcs[r]? =some b.fn)(g:Aq b=true){E:Nat}{x:List T}{o:T}
 (c:vV cx cf E b.fn b.D b.mE x h=some (o,h')) (L:St cx base w.heap μ h) {f:ah aq} (Z:iW w.heap μ x f.toList):
 Cu P (tT cx base w μ h o h') ((callFunc r f).run P w):=by
 unfold Aq at g;simp only[az,cq]at g;obtain⟨al,g⟩:=g;unfold vV at c;cases l:b.fn.body with
 |none=>rw[l]at g;grind
 |some y=>
  rw[l]at g c;simp only at g;obtain⟨d,t,k⟩:=h;simp only at c;replace c:=eg.1 c;obtain⟨bi,aA,c⟩:=c;replace c:=eg.1 c;obtain⟨⟨q,A,s⟩,ab,c⟩:=c;simp only[nC]at c;have j:(q= .normal\/q= .ret)/\(J (oX cx b.D A s b.fn.results.toList) λN=>FV b.mE d t (kI N) s)=some (o,h'):=by
   cases q with
   |normal=>grind
   |exit i=>grind
   |ret=>grind
  obtain⟨aN,j⟩:=j;replace j:=eg.1 j;obtain⟨N,aE,j⟩:=j;rw[p9 F al l];show Calls P r f w _;refine calls_of_wp F l ?_;have M:St cx base w.heap μ ⟨d,d,k⟩:=L.OJ d;have an:=Nx (D:=b.D) (n:=b.fn.ntmps) Z aA;have O:wu cx base b.D (f.size+(b.fn.ntmps-f.size)) w μ ⟨d,d,k⟩ ⟨bi,.nil⟩ ⟨d,d,k⟩ {tmps:=f++Array.replicate (b.fn.ntmps-f.size) Go.undef,defers:=[]} w:=
   ⟨μ,M,an,sd.refl _ _,Bb.refl _ _,mR.refl M.wf,G,rfl⟩
  refine N0 (m:=f.size+(b.fn.ntmps-f.size)) (w0:=w) (μ0:=μ) (h0:=⟨d,d,k⟩) (base:=base) (D:=b.D) j7 z (NR ae j7 z) E y (KY B y g) _ _ q A s ab _ _ _ O λv u Q=>?_;have K:v.defers=[]/\∃p,(results b.fn v.tmps).run P u= .ok p u/\tT cx base w μ ⟨d,t,k⟩ o h' p u:=by
   obtain⟨bs,I,aX,a6,a7,a8,bp,bg⟩:=Q;have⟨p,ap,av⟩:=He (P:=P) j7 I aX aE;have⟨⟨bn,R,S,U,V⟩,W⟩:=Lg (low0:=t) L I a8 a6 a7 av j;exact⟨bg,p,ap,⟨bn,R,S,U,V⟩,W⟩
  rcases aN with rfl|rfl
  ·exact K
  ·exact K
