/- Texts TiEnv to TiDraw2. -/
import Derived.Test.YtmaeadedikngoaaGreatDoorA3
import Derived.Orders
set_option linter.all false
namespace Go.TI
noncomputable section
def nj(b:Nat)(d:T)(c:fW)(a:Nat):dL (.cons b d c) a=if b=a then some d else dL c a:=by
 show @Bool.rec (λ_=>aa T) (dL c a) (some d) (Nat.beq b a)=_;cases e:Nat.beq b a with
 |true=>have:=aD e;simp[this]
 |false=>have:=cO e;simp[this]
def G5{l e:fW}{c:Nat}{g:T}(a:lV l c g=some e)(f:Nat):dL e f=if f=c then some g else dL l f:=by
 induction l generalizing e with
 |nil=>
  have a:some (fW.cons c g .nil)=some e:=a;simp only[ar]at a;subst a;rw[nj];by_cases b:c=f
  ·simp[b]
  ·simp[b,bo b]
 |cons d m i o=>
  have a: @Bool.rec (λ_=>aa fW) (dU (lV i c g) λj=>some (.cons d m j)) (some (.cons d g i)) (Nat.beq d c)=some e:=a;cases h:Nat.beq d c with
  |true=>
   rw[h]at a;have k:=aD h;have a:some (fW.cons d g i)=some e:=a;simp only[ar]at a;subst a;rw[nj,nj,k];by_cases b:c=f
   ·simp[b]
   ·simp[b,bo b]
  |false=>
   rw[h]at a;have k:=cO h;have a:(dU (lV i c g) λj=>some (fW.cons d m j))=some e:=a;obtain⟨j,ht,a⟩:=dJ.1 a;simp only[ar]at a;subst a;rw[nj,nj,o ht];by_cases b:d=f
   ·have:f≠c:=λn=>k (b.trans n);simp[b,this]
   ·simp[b]
def Env.Bw{d:Nat}{m g:Env}{c:Nat}{f:T}(a:m.set d c f=some g)(b:Nat):g.get d b=if b=c then some f else m.get d b:=by
 obtain⟨l,k⟩:=m;have a: @Bool.rec (λ_=>aa Env) (some ⟨l,.cons c f k⟩) (dU (lV l c f) λj=>some ⟨j,k⟩) (kh d c)=some g:=a;have get:∀(h i:fW),(⟨h,i⟩:Env).get d b=if kh d b=true then dL h b else dL i b:=by
  intro h i;show @Bool.rec (λ_=>aa T) (dL i b) (dL h b) (kh d b)=_;cases kh d b<;>rfl
 cases hl:kh d c with
 |false=>
  rw[hl]at a;have a:some (⟨l,.cons c f k⟩:Env)=some g:=a;simp only[ar]at a;subst a;rw[get,get,nj];by_cases e:b=c
  ·subst e;simp[hl]
  ·simp[e,bo e]
 |true=>
  rw[hl]at a;have a:(dU (lV l c f) λj=>some (⟨j,k⟩:Env))=some g:=a;obtain⟨j,n,a⟩:=dJ.1 a;simp only[ar]at a;subst a;rw[get,get,G5 n];by_cases e:b=c
  ·subst e;simp[hl]
  ·simp[e]
def ku.put{k:af Obj}{m:Mu}{h:Nat}{f g:Env}{i:Act}{e:aa Tmp}{l:T}{c:am}(o:ku k m h f i.tmps)(s:fD k m l c)(q:∀b,e=some b->b<i.tmps.size)
 (a:f.dst h e l=some g):ku k m h g (i.put e c).tmps:=by
 cases e with
 |none=>
  have a:some f=some g:=a;simp only[ar]at a;subst a;exact o
 |some b=>
  have a:f.set h b l=some g:=a;intro p t d;rw[Env.Bw a]at d;have r:=q b rfl;by_cases j:p=b
  ·subst j;simp only[bh,ar]at d;subst d;simpa[Act.put,bg,r]using s
  ·simp only[j,br]at d;have:=o p t d;simpa[Act.put,bg,Array.getElem?_setIfInBounds_ne (bo j)]using this
def Act.pZ(a:Act)(b:aa Tmp)(c:am):(a.put b c).tmps.size=a.tmps.size:=by cases b<;>simp[Act.put]
def Act.p7(a:Act)(b:aa Tmp)(c:am):(a.put b c).defers=a.defers:=by cases b<;>rfl
def BM{x:af Obj}{A:Mu}{l:Nat}{j:Env}{c:Act}{g:af Oper}{i:Oper}{d:Bool}(z:ku x A l j c.tmps)(v:∀(f:Nat) (b:Oper) t,g[f]? =some b->b.dst=some t->t<c.tmps.size)
 (a:kw g l j i.guard=some d):Region.wanted i (yielded g c.tmps)=d:=by
 unfold Region.wanted;cases o:i.guard with
 |none=>
  rw[o]at a;have a:some true=some d:=a;simpa using a
 |some b=>
  obtain⟨f,n⟩:=b;rw[o]at a;have a:(dU (dU (dU (mm g.toList f) λi=>i.dst) λe=>j.get l e) λm=>
   match m with
   | .bool d=>some (@Bool.rec (λ_=>Bool) (@Bool.rec (λ_=>Bool) true false n) n d)
   |_=>some false)=some d:=a
  replace a:=dJ.1 a;obtain⟨m,h,a⟩:=a;replace h:=dJ.1 h;obtain⟨e,k,h⟩:=h;replace k:=dJ.1 k;obtain⟨b,p,r⟩:=k;rw[kE]at p;have q:g[f]? =some b:=by simpa using p
  have w:=v f b e q r;have s:=z e m h;have y:((g[f]?).bind (·.dst)).bind (c.tmps[·]?)=some (c.tmps.getD e Go.undef):=by
   simp[q,r,bg,w]
  simp only[yielded,y];generalize c.tmps.getD e Go.undef=B at s;cases s<;>simp only[ar]at a<;>first
   |(subst a;rfl)
   |skip
  rename_i u;subst a;cases u<;>cases n<;>rfl
def qD(cx:Ctx)(base:Nat)(w:World)(f:Mu)(h:H)(c:T)(h':H)(b:am)(d:World):Prop:=Vd cx base w f h.size c h' b d/\lm h h'
def nL(P:ai)(cx:Ctx)(cf:iY):Prop:=
 ∀f c h g h',cf f c h=some (g,h')->∀base w b (d:af am),St cx base w.heap b h->gJ w.heap b c d.toList->zh P (qD cx base w b h g h') ((callFunc f d).run P w)
def tF(cx:Ctx)(base mask m:Nat)(w0:World)(μ0:Mu)(h0:H)(e:Env)(h:H)(a:Act)(w:World):Prop:=
 ∃b,St cx base w.heap b h/\ku w.heap b mask e a.tmps/\pN w0 μ0 w b/\yg μ0 b h0.size h.size/\lm h0 h/\a.tmps.size=m/\a.defers=[]
section
variable {P:ai}{cx:Ctx}{cf:iY}{base mask m:Nat}{w0 w:World}{μ0:Mu}{h0 h h':H}{e e':Env}{a:Act}{ops:af Oper}{Q:Exit->Act->World->Prop}
def E9(m:Nat)(ops:af Oper):Prop:=∀(d:Nat) (b:Oper) c,ops[d]? =some b->b.dst=some c->c<m
def tF.after(H:tF cx base mask m w0 μ0 h0 e h a w){d:aa Tmp}(r:∀b,d=some b->b<m){l:T}(u:e.dst mask d l=some e')
 {g:Result Next} (hr:∀base c,St cx base w.heap c h->ku w.heap c mask e a.tmps->zh P (qD cx base w c h l h') g):zh P (λi n=>tF cx base mask m w0 μ0 h0 e' h' (a.put d i) n) g:=by
 obtain⟨c,b,k,A,o,p,j,s⟩:=H;refine(hr base c b k).mono λi n q=> ?_;obtain⟨⟨B,v,x,f,y⟩,z⟩:=q;refine⟨B,x,?_,A.trans f,o.trans (hp:=w.heap) y f.ext,p.trans z,by rw[Act.pZ];exact j,by rw[Act.p7];exact s⟩;exact ku.put (k.ext f.ext) v (λb t=>by rw[j];exact r b t) u
def I5(ja:jg P cx)(G:nL P cx cf){n:Nat}{d:Oper}(s:ops[n]? =some d)(r:E9 m ops)(b:lH cx cf mask ops e h d=some (e',h'))
 (H:tF cx base mask m w0 μ0 h0 e h a w) {z:Act->World->Prop} (v:∀A o,tF cx base mask m w0 μ0 h0 e' h' A o->z A o):wpOp P ops Q n z a w:=by
 have E:=H;obtain⟨t,c,f,V,I,J,x,M⟩:=E;unfold wpOp;simp only[s];replace b:=dJ.1 b;obtain⟨U,R,b⟩:=b;have D:=BM f (λS T c N i=>by rw[x];exact r S T c N i) R;cases U with
 |false=>
  have b:(dU (e.dst mask d.dst .undef) λe'=>some (e',h))=some (e',h'):=b;replace b:=dJ.1 b;obtain⟨C,l,b⟩:=b;simp only[ar,ay]at b;obtain⟨rfl,rfl⟩:=b;simp only[D,cr,br];refine v _ _ ⟨t,c,ku.put f .undef (λc i=>by rw[x];exact r n d c s i) l,V,I,J,by rw[Act.pZ];exact x,by rw[Act.p7];exact M⟩
 |true=>
  simp only[D,bh];left;have b:(dU (jp d.op cx mask e h) λu=> @lN.rec (λ_=>aa (Env×TI.H))
   (λg h'=>dU (e.dst mask d.dst g) λe'=>some (e',h'))
   (λq p=>dU (cf q p h) λf=>two f λg h'=>dU (e.dst mask d.dst g) λe'=>some (e',h')) u)=some (e',h'):=b
  replace b:=dJ.1 b;obtain⟨u,y,b⟩:=b;rcases u with⟨g,j⟩|⟨q,p⟩
  ·skip
   have b:(dU (e.dst mask d.dst g) λe'=>some (e',j))=some (e',h'):=b;replace b:=dJ.1 b;obtain⟨C,l,b⟩:=b;simp only[ar,ay]at b;obtain⟨rfl,rfl⟩:=b;refine zh.wp (H.after (λc i=>r n d c s i) l (h':=j) λbase t c f=> ?_) (λB o k=>v _ _ k);exact((yA ja c f y).Z3).mono λB o k=>⟨k,PL c.wf g j y⟩
  ·skip
   have b:(dU (cf q p h) λf=>two f λg h'=>dU (e.dst mask d.dst g) λe'=>some (e',h'))=some (e',h'):=b;replace b:=dJ.1 b;obtain⟨⟨g,j⟩,L,b⟩:=b;simp only[kG]at b;replace b:=dJ.1 b;obtain⟨C,l,b⟩:=b;simp only[ar,ay]at b;obtain⟨rfl,rfl⟩:=b;refine zh.wp (H.after (λc i=>r n d c s i) l (h':=j) λbase t c f=> ?_) (λB o k=>v _ _ k);obtain⟨_,F,K,O⟩:=Hn (P:=P) c f y;rw[O];exact G q p h g j L base w t F c K
def Fd(ja:jg P cx)(n:nL P cx cf)(q:E9 m ops):∀(c:List Oper) (d:Nat) (e:Env) (h:H) (a:Act) (w:World),(∀g,c[g]? =ops[d+g]?)->
 kA cx cf mask ops c e h=some (e',h')->tF cx base mask m w0 μ0 h0 e h a w->(∀f i,tF cx base mask m w0 μ0 h0 e' h' f i->Q .normal f i)->wpOps P ops Q (List.range' d c.length) a w:=by
 intro c;induction c with
 |nil=>
  intro d e h a w _ b H j;have b:some (e,h)=some (e',h'):=b;simp only[ar,ay]at b;obtain⟨rfl,rfl⟩:=b;exact j a w H
 |cons k c t=>
  intro d e h a w hl b H j;have b:(dU (lH cx cf mask ops e h k) λu=>two u λe' h'=>kA cx cf mask ops c e' h')=some (e',h'):=b;replace b:=dJ.1 b;obtain⟨⟨o,p⟩,s,b⟩:=b;simp only[kG]at b;simp only[bj,List.range'_succ];rw[wpOps_cons];have r:ops[d]? =some k:=by have:=hl 0;simpa using this.symm
  refine I5 ja n r q s H λf i l=>t (d+1) o p f i (λg=> ?_) b l j;have:=hl (g+1);simp only[dp]at this;rw[this];congr 1;omega
def SS(m:Nat)(ops:af Oper):Bool:=ops.toList.all λb=>match b.dst with|some c=>Nat.blt c m|none=>true
def SR(b:SS m ops=true):E9 m ops:=by
 intro g f i c d;unfold SS at b;rw[cB]at b;have:=b f (by simpa using Array.mem_of_getElem? c);rw[d]at this;simpa[aH]using this
def mI(m:Nat)(oZ:af Oper->Bool):Code->Bool
 | .region _ ops c=>SS m ops&&(!c||oZ ops)
 | .seq a b=>mI m oZ a&&mI m oZ b
 | .cond _ a b=>mI m oZ a&&mI m oZ b
 | .block _ b=>mI m oZ b
 | .loop b=>mI m oZ b
 |_=>true
def abw:Ex->Exit
 | .normal=> .normal
 | .exit b=> .exit b
 | .ret=> .ret
def Rp(P:ai)(cx:Ctx)(cf:iY)(oZ:af Oper->Bool):Prop:=
 ∀(base mask m:Nat) (w0:World) (μ0:Mu) (h0:H) (ops:af Oper) (e e':Env) (h h':H) (a:Act) (w:World) (Q:Exit->Act->World->Prop) (id:Nat),oZ ops=true->E9 m ops->
  j2 cx cf mask ops ops.toList 0 ⟨[],[]⟩ e h=some (e',h')->tF cx base mask m w0 μ0 h0 e h a w->(∀b c,tF cx base mask m w0 μ0 h0 e' h' b c->Q .normal b c)->(Code.region id ops true).wp P Q a w
def tF.drop(H:tF cx base mask m w0 μ0 h0 e h a w):tF cx base mask m w0 μ0 h0 ⟨e.vars,.nil⟩ h a w:=by
 obtain⟨q,n,l,p,g,i,k,j⟩:=H;refine⟨q,n,λb d c=>l b d ?_,p,g,i,k,j⟩;obtain⟨f,o⟩:=e;have c: @Bool.rec (λ_=>aa T) (dL .nil b) (dL f b) (kh mask b)=some d:=c;show @Bool.rec (λ_=>aa T) (dL o b) (dL f b) (kh mask b)=some d;cases hl:kh mask b with
 |true=>rw[hl]at c;exact c
 |false=>rw[hl]at c;simp[dL]at c
def wpL(P:ai)(d:Code)(Q:Exit->Act->World->Prop)(a:Act)(w:World):Prop:=
 ∀(c:Frame) (g:List Item) (f:List Frame),∃e b i,Q e b i/\Arrives P (lone (c.at a (.code d:: .inLoop d::g)) f w) c g f e b i
def LZ{b:Code}(h:b.wp P (Exit.then (wpL P b Q) Q) a w):wpL P b Q a w:=by
 intro i k j;obtain⟨e,f,g,d,c⟩:=h i (.inLoop b::k) j;cases e with
 |normal=>
  obtain⟨n,l,q,p,o⟩:=d i k j;exact⟨n,l,q,p,.of_steps (Steps.trans c (.one step_inLoop)) o⟩
 |exit id=>exact⟨_,f,g,d,.pass (x:= .inLoop b) rfl (λ_ _=> .inl dA) c⟩
 |goto s=>exact⟨_,f,g,d,.pass (x:= .inLoop b) rfl (λ_ _=> .inl dA) c⟩
 |ret=>exact⟨_,f,g,d,.pass (x:= .inLoop b) rfl (λ_ _=> .inl dA) c⟩
 |panic r=>exact⟨_,f,g,d,.pass (x:= .inLoop b) rfl (λ_ _=> .inl dA) c⟩
 |outgrown=>exact⟨_,f,g,d,.pass (x:= .inLoop b) rfl (λ_ _=> .inl dA) c⟩
def LY{b:Code}(h:wpL P b Q a w):(Code.loop b).wp P Q a w:=by
 intro d j f;obtain⟨e,c,k,i,g⟩:=h d j f;exact⟨e,c,k,i,.of_steps (.one step_loop) g⟩
def abW(P:ai)(cx:Ctx)(base mask m:Nat)(w0:World)(μ0:Mu)(h0:H)(f:Code)(g:Env->H->Out):Prop:=
 ∀e h d e' h',g e h=some (d,e',h')->∀a w Q,tF cx base mask m w0 μ0 h0 e h a w->(∀b c,tF cx base mask m w0 μ0 h0 e' h' b c->Q (abw d) b c)->f.wp P Q a w
def JO{p:Code}{j:Env->H->Out}(s:abW P cx base mask m w0 μ0 h0 p j):∀(f:Nat) (e:Env) (h:H) (c:Ex) (e':Env) (h':H),ox j f e h=some (c,e',h')->
 ∀a w Q,tF cx base mask m w0 μ0 h0 e h a w->(∀d g,tF cx base mask m w0 μ0 h0 e' h' d g->Q (abw c) d g)->wpL P p Q a w:=by
 intro f;induction f with
 |zero=>intro e h c e' h' b;simp[ox]at b
 |succ f t=>
  intro e h c e' h' b a w Q H n;have b:(dU (j e h) λu=>three u λc e' h'=> @Ex.rec (λ_=>Out) (ox j f e' h') (λo=>some (.exit o,e',h')) (some (.ret,e',h')) c)=some (c,e',h'):=b;replace b:=dJ.1 b;obtain⟨⟨q,i,k⟩,r,b⟩:=b;refine LZ (s e h q i k r a w _ H λd g l=> ?_);cases q with
  |normal=>
   have b:ox j f i k=some (c,e',h'):=b;exact t i k c e' h' b d g Q l n
  |exit o=>
   have b:some (Ex.exit o,i,k)=some (c,e',h'):=b;simp only[ar,ay]at b;obtain⟨rfl,rfl,rfl⟩:=b;exact n d g l
  |ret=>
   have b:some (Ex.ret,i,k)=some (c,e',h'):=b;simp only[ar,ay]at b;obtain⟨rfl,rfl,rfl⟩:=b;exact n d g l
def Km(ja:jg P cx)(I:nL P cx cf){oZ:af Oper->Bool}(J:Rp P cx cf oZ)(p:Nat):∀(s:Code),mI m oZ s=true->abW P cx base mask m w0 μ0 h0 s (j4 cx cf p mask s):=by
 intro s;induction s with
 |skip=>
  intro _ e h c e' h' b a w Q H d;have b:some (Ex.normal,e,h)=some (c,e',h'):=b;simp only[ar,ay]at b;obtain⟨rfl,rfl,rfl⟩:=b;exact wp_skip (d a w H)
 |exit id=>
  intro _ e h c e' h' b a w Q H d;have b:some (Ex.exit id,e,h)=some (c,e',h'):=b;simp only[ar,ay]at b;obtain⟨rfl,rfl,rfl⟩:=b;exact wp_exit (d a w H)
 |ret=>
  intro _ e h c e' h' b a w Q H d;have b:some (Ex.ret,e,h)=some (c,e',h'):=b;simp only[ar,ay]at b;obtain⟨rfl,rfl,rfl⟩:=b;exact wp_ret (d a w H)
 |region id ops K=>
  intro f e h c e' h' b a w Q H d;simp only[mI,aB]at f;have F:=SR f.1;have n:=H.drop;obtain⟨D,O⟩:=e;cases K with
  |false=>
   have b:(dU (kA cx cf mask ops ops.toList ⟨D,.nil⟩ h) λo=>two o λe' h'=>some (Ex.normal,(⟨e'.vars,.nil⟩:Env),h'))=some (c,e',h'):=b;replace b:=dJ.1 b;obtain⟨⟨k,j⟩,q,b⟩:=b;simp only[kG,ar,ay]at b;obtain⟨rfl,rfl,rfl⟩:=b;refine wp_region ?_;rw[List.range_eq_range'];have:=Fd (Q:=Q) ja I F ops.toList 0 ⟨D,.nil⟩ h a w (λN=>by simp) q n λg i x=>d g i x.drop;simpa using this
  |true=>
   have b:(dU (j2 cx cf mask ops ops.toList 0 ⟨[],[]⟩ ⟨D,.nil⟩ h) λo=>two o λe' h'=>some (Ex.normal,(⟨e'.vars,.nil⟩:Env),h'))=some (c,e',h'):=b;replace b:=dJ.1 b;obtain⟨⟨k,j⟩,q,b⟩:=b;simp only[kG,ar,ay]at b;obtain⟨rfl,rfl,rfl⟩:=b;exact J base mask m w0 μ0 h0 ops _ _ h j a w Q id (by simpa using f.2) F q n λg i x=>d g i x.drop
 |seq r y A B=>
  intro f e h c e' h' b a w Q H d;simp only[mI,aB]at f;have b:(dU (j4 cx cf p mask r e h) λo=>three o λc e' h'=> @Ex.rec (λ_=>Out) (j4 cx cf p mask y e' h') (λl=>some (.exit l,e',h')) (some (.ret,e',h')) c)=some (c,e',h'):=b;replace b:=dJ.1 b;obtain⟨⟨t,k,j⟩,q,b⟩:=b;refine wp_seq (A f.1 e h t k j q a w _ H λg i n=> ?_);cases t with
  |normal=>exact B f.2 k j c e' h' b g i Q n d
  |exit l=>
   have b:some (Ex.exit l,k,j)=some (c,e',h'):=b;simp only[ar,ay]at b;obtain⟨rfl,rfl,rfl⟩:=b;exact d g i n
  |ret=>
   have b:some (Ex.ret,k,j)=some (c,e',h'):=b;simp only[ar,ay]at b;obtain⟨rfl,rfl,rfl⟩:=b;exact d g i n
 |cond G r y A B=>
  intro f e h c e' h' b a w Q H d;simp only[mI,aB]at f;have b:(dU (fP cx mask e G) λC=>match C with
   | .bool v=> @Bool.rec (λ_=>Out) (j4 cx cf p mask y e h) (j4 cx cf p mask r e h) v
   |_=>none)=some (c,e',h'):=b
  replace b:=dJ.1 b;obtain⟨C,L,b⟩:=b;cases C<;>simp only[reduceCtorEq]at b;rename_i v;have E:a.eval G= .bool v:=by
   obtain⟨R,M,o,_⟩:=H;exact(gU M o L).ql
  cases v with
  |true=>exact wp_cond_true E (A f.1 e h c e' h' b a w Q H d)
  |false=>exact wp_cond_false E (B f.2 e h c e' h' b a w Q H d)
 |block id r z=>
  intro f e h c e' h' b a w Q H d;have b:(dU (j4 cx cf p mask r e h) λo=>three o λc e' h'=> @Ex.rec (λ_=>Out) (some (.normal,e',h')) (λl=> @Bool.rec (λ_=>Out) (some (.exit l,e',h')) (some (.normal,e',h')) (Nat.beq l id)) (some (.ret,e',h')) c)=some (c,e',h'):=b;replace b:=dJ.1 b;obtain⟨⟨t,k,j⟩,q,b⟩:=b;refine wp_block (z f e h t k j q a w _ H λg i n=> ?_);cases t with
  |normal=>
   have b:some (Ex.normal,k,j)=some (c,e',h'):=b;simp only[ar,ay]at b;obtain⟨rfl,rfl,rfl⟩:=b;exact d g i n
  |exit l=>
   have b: @Bool.rec (λ_=>Out) (some (.exit l,k,j)) (some (.normal,k,j)) (Nat.beq l id)=some (c,e',h'):=b;show(if l=id then Q .normal g i else Q (.exit l) g i);cases u:Nat.beq l id with
   |true=>
    rw[u]at b;simp only[ar,ay]at b;obtain⟨rfl,rfl,rfl⟩:=b;rw[aq (aD u)];exact d g i n
   |false=>
    rw[u]at b;simp only[ar,ay]at b;obtain⟨rfl,rfl,rfl⟩:=b;rw[ao (cO u)];exact d g i n
  |ret=>
   have b:some (Ex.ret,k,j)=some (c,e',h'):=b;simp only[ar,ay]at b;obtain⟨rfl,rfl,rfl⟩:=b;exact d g i n
 |loop r z=>
  intro f e h c e' h' b a w Q H d;exact LY (JO (z f) p e h c e' h' b a w Q H d)
 |_=>intro _ e h c e' h' b;exact absurd b (by simp[j4])
end
end
noncomputable section
def ni{d i:Type}{b c:d->aa i}:∀{a:List d},(∀x∈a,b x=c x)->fN b a=fN c a
 | [],_=>rfl
 |x::a,h=>by
  rw[jH,jH,h x dA,ni λg f=>h g (by simp[f])]
section
variable {cx:Ctx}{mask:Nat}{e e':Env}{h h1 h2:H}
def AO{a:List ah}(c:∀b∈a,fP cx mask e b=fP cx mask e' b):p9 cx mask e a=p9 cx mask e' a:=ni c
def xe{b:List (Nat×ah)}(d:∀a∈b,fP cx mask e a.2=fP cx mask e' a.2):partsOf cx mask e b=partsOf cx mask e' b:=by
 unfold partsOf;refine ni λa c=> ?_;obtain⟨f,g⟩:=a;simp only[kG];rw[d (f,g) c]
def uI{b:aa ah}(f:∀a,b=some a->fP cx mask e a=fP cx mask e' a):jP cx mask e b=jP cx mask e' b:=by
 cases b with
 |none=>rfl
 |some a=>
  show(dU (fP cx mask e a) λd=>dU (pV d) λc=>some (some c))=(dU (fP cx mask e' a) λd=>dU (pV d) λc=>some (some c));rw[f a rfl]
def zW{f:Op}(b:∀a∈f.operands,fP cx mask e a=fP cx mask e' a):jp f cx mask e h=jp f cx mask e' h:=by
 by_cases s:∃d,f= .call d
 ·obtain⟨d,rfl⟩:=s;have h1:p9 cx mask e d.args.toList=p9 cx mask e' d.args.toList:=AO λa q=>b a (by simp only[Op.operands,Call.operands,Array.mem_append];right;simpa using q);simp only[jp,CO,h1];cases x:d.callee with
  |builtin i=>rfl
  |invoke a D=>rfl
  |value o=>
   have h2:=b o (by simp only[Op.operands,Call.operands,x];simp);simp only[h2]
 cases f with
 |move a=>have h1:=b a (by simp[Op.operands]);simp only[jp,CL,h1]
 |assign a=>have h1:=b a (by simp[Op.operands]);simp only[jp,CL,h1]
 |pick d g i=>
  have h1:=b d (by simp[Op.operands]);have h2:=b g (by simp[Op.operands]);have p:=b i (by simp[Op.operands]);simp only[jp,EU,h1,h2,p]
 |alloc c=>rfl
 |box c a=>have h1:=b a (by simp[Op.operands]);simp only[jp,M5,h1]
 |build c m=>
  have h1:partsOf cx mask e m.toList=partsOf cx mask e' m.toList:=xe λl r=>b l.2 (by simp only[Op.operands,List.mem_toArray,List.mem_map];exact⟨l,r,rfl⟩);simp only[jp,Aq,h1]
 |buildSlice c E m=>
  have h1:partsOf cx mask e m.toList=partsOf cx mask e' m.toList:=xe λl r=>b l.2 (by simp only[Op.operands,List.mem_toArray,List.mem_map];exact⟨l,r,rfl⟩);simp only[jp,oz,h1]
 |load c g=>have h1:=b g (by simp[Op.operands]);simp only[jp,H7,h1]
 |store c g a=>have h1:=b g (by simp[Op.operands]);have h2:=b a (by simp[Op.operands]);simp only[jp,CH,h1,h2]
 |nilCheck a=>have h1:=b a (by simp[Op.operands]);simp only[jp,ry,h1]
 |binOp f c a A G=>
  have h1:=b a (by simp[Op.operands]);have h2:=b A (by simp[Op.operands]);cases f<;>simp only[jp,Wq,M6,h1,h2]
 |unOp f c a=>have h1:=b a (by simp[Op.operands]);simp only[jp,hUn,h1]
 |convert z B a=>have h1:=b a (by simp[Op.operands]);simp only[jp,Lj,h1]
 |makeInterface c a=>have h1:=b a (by simp[Op.operands]);simp only[jp,An,h1]
 |makeFunc C g i=>
  have h1:p9 cx mask e i.toList=p9 cx mask e' i.toList:=AO λa q=>b a (by simp only[Op.operands,Array.mem_append];right;simpa using q);simp only[jp,CM,h1]
 |makeSlice c y d=>have h1:=b y (by simp[Op.operands]);have h2:=b d (by simp[Op.operands]);simp only[jp,pH,h1,h2]
 |slice c a u t v=>
  have h1:=b a (by simp[Op.operands]);have h2:jP cx mask e u=jP cx mask e' u:=uI λk j=>b k (by subst j;simp[Op.operands]);have p:jP cx mask e t=jP cx mask e' t:=uI λk j=>b k (by subst j;simp[Op.operands]);have w:jP cx mask e v=jP cx mask e' v:=uI λk j=>b k (by subst j;simp[Op.operands]);simp only[jp,CI,h1,h2,p,w]
 |fieldAddr c a o=>have h1:=b a (by simp[Op.operands]);simp only[jp,pJ,h1]
 |field c a o=>have h1:=b a (by simp[Op.operands]);simp only[jp,Ap,h1]
 |indexAddr c a n=>have h1:=b a (by simp[Op.operands]);have h2:=b n (by simp[Op.operands]);simp only[jp,pI,h1,h2]
 |index c a n=>have h1:=b a (by simp[Op.operands]);have h2:=b n (by simp[Op.operands]);simp only[jp,Am,h1,h2]
 |extract a n=>have h1:=b a (by simp[Op.operands]);simp only[jp,um,h1]
 |makeMap c F=>rfl
 |lookup=>rfl
 |mapUpdate=>rfl
 |range c a=>have h1:=b a (by simp[Op.operands]);simp only[jp,yL,CJ,h1]
 |next it z=>have h1:=b it (by simp[Op.operands]);simp only[jp,H5,Aj,h1]
 |entry=>rfl
 |_=>first|rfl|exact(s ⟨_,rfl⟩).elim
def vP{c:Op}(b:∀a∈c.operands,fP cx mask e a=fP cx mask e' a):gG cx mask e h c=gG cx mask e' h c:=by
 cases c with
 |load d a=>have h1:=b a (by simp[Op.operands]);simp only[gG,h1]
 |indexAddr d a f=>have h1:=b a (by simp[Op.operands]);simp only[gG,h1]
 |slice d a j i k=>have h1:=b a (by simp[Op.operands]);simp only[gG,h1]
 |convert m g a=>have h1:=b a (by simp[Op.operands]);simp only[gG,h1]
 |lookup d a f l=>have h1:=b a (by simp[Op.operands]);simp only[gG,h1]
 |_=>rfl
def jz(h1 h2:H)(c d:aa lN):Prop:=∀b a,c=some (.val b a)->a=h1/\d=some (.val b h2)
def jz.none:jz h1 h2 none none:=λ_ _ a=>by simp at a
def jz.val{a:aa T}:jz h1 h2 (val h1 a) (val h2 a):=λd c b=>by
 obtain⟨rfl,rfl⟩:=fV.1 b;exact⟨rfl,fV.2 ⟨rfl,rfl⟩⟩
def jz.some{a:T}:jz h1 h2 (some (.val a h1)) (some (.val a h2)):=λa c b=>by
 simp only[ar,lN.val.injEq]at b;obtain⟨rfl,rfl⟩:=b;exact⟨rfl,rfl⟩
def jz.dU{f:Type}{b:aa f}{c d:f->aa lN}(g:∀a,b=Option.some a->jz h1 h2 (c a) (d a)):jz h1 h2 (dU b c) (dU b d):=by
 cases b with
 |none=>exact jz.none
 |some a=>exact g a rfl
def jz.gD{a:Bool}{b c:aa lN}(d:jz h1 h2 b c):jz h1 h2 (gD a b) (gD a c):=by
 cases a with
 |false=>exact jz.none
 |true=>exact d
def jz.bool{a:Bool}{b d c f:aa lN}(g:jz h1 h2 b c)(i:jz h1 h2 d f):jz h1 h2 (Bool.casesOn a b d) (Bool.casesOn a c f):=by
 cases a<;>assumption
def LV(b:Nat->T):Prop:=(∀a,b a= .ptr a 0 0 0)\/(∃c,∀a,b a= .arr a 0 0 c false)\/(∀a,b a= .iter a)\/(∀a,b a= .map a)
def Mk(h1 h2:H)(f g:aa lN):Prop:=∀c b,f=some (.val c b)->∃a d,LV a/\c=a h1.size/\b=h1.cons d/\g=some (.val (a h2.size) (h2.cons d))
def Mk.none:Mk h1 h2 none none:=λ_ _ a=>by simp at a
def Mk.new{f:Nat->T}{c:iZ}(d:LV f):Mk h1 h2 (jA (h1.new f c)) (jA (h2.new f c)):=λi g a=>by
 rw[ju,H.kI]at a;simp only[ar,ay]at a;obtain⟨rfl,rfl⟩:=a;exact⟨f,c,d,rfl,rfl,by rw[ju,H.kI]⟩
def Mk.dU{f:Type}{b:aa f}{c d:f->aa lN}(g:∀a,b=Option.some a->Mk h1 h2 (c a) (d a)):Mk h1 h2 (dU b c) (dU b d):=by
 cases b with
 |none=>exact Mk.none
 |some a=>exact g a rfl
def Mk.gD{a:Bool}{b c:aa lN}(d:Mk h1 h2 b c):Mk h1 h2 (gD a b) (gD a c):=by
 cases a with
 |false=>exact Mk.none
 |true=>exact d
def PM{a:ab}:Mk h1 h2 (jp (.alloc a) cx mask e h1) (jp (.alloc a) cx mask e h2):=by
 simp only[jp,CP];refine Mk.dU λb _=> ?_;cases wJ cx b<;>exact Mk.new (.inl λ_=>rfl)
def Wa{a:ab}{b:ah}:Mk h1 h2 (jp (.box a b) cx mask e h1) (jp (.box a b) cx mask e h2):=by
 simp only[jp,M5];exact Mk.dU λc _=>Mk.gD (Mk.new (.inl λ_=>rfl))
def DG{c:ab}{b:Nat}{a:af (Nat×ah)}:Mk h1 h2 (jp (.buildSlice c b a) cx mask e h1) (jp (.buildSlice c b a) cx mask e h2):=by
 simp only[jp,oz];refine Mk.dU λd _=> ?_;cases d.u<;>first
  |exact Mk.none
  |exact Mk.dU λg _=>Mk.dU λa _=>Mk.gD (Mk.gD (Mk.dU λf _=>Mk.new (.inr (.inl ⟨_,λ_=>rfl⟩))))
def FF{c:ab}{b a:ah}:Mk h1 h2 (jp (.makeSlice c b a) cx mask e h1) (jp (.makeSlice c b a) cx mask e h2):=by
 simp only[jp,pH];refine Mk.dU λd _=> ?_;cases d.u<;>first
  |exact Mk.none
  |exact Mk.dU λf _=>Mk.dU λ_ _=>Mk.dU λ_ _=>Mk.dU λ_ _=>Mk.dU λ_ _=>Mk.gD (Mk.gD (Mk.gD (Mk.gD (Mk.new (.inr (.inl ⟨_,λ_=>rfl⟩))))))
def JK{b:ab}{a:aa ah}:Mk h1 h2 (jp (.makeMap b a) cx mask e h1) (jp (.makeMap b a) cx mask e h2):=Mk.none
def MV{f:Ty}{c g:T}(hl:∀a,dS c=some a->a<h1.size->h2.get a=h1.get a)(b:h1.load f c=some g):h2.load f c=some g:=by
 cases c with
 |ptr a j k m=>
  have b:(dU (h1.elem a j k) λe=>dU (jX m e.cells) λi=>kl f i)=some g:=b;show(dU (h2.elem a j k) λe=>dU (jX m e.cells) λi=>kl f i)=some g;replace b:=dJ.1 b;obtain⟨n,l,b⟩:=b;have o:h2.elem a j k=some n:=by
   have d:=l;unfold H.elem at d|-;replace d:=dJ.1 d;obtain⟨q,p,_⟩:=d;rw[hl a rfl (H.ew p)];exact l
  rw[o];exact b
 |_=>exact b
def DO{g:Ty}{j:T}{b:Nat}(hl:∀a,dS j=some a->a<h1.size->h2.get a=h1.get a):jz h1 h2 (kK h1 g j b) (kK h2 g j b):=by
 cases j with
 |dM s m=>exact jz.dU λ_ _=>jz.gD jz.some
 |arr a d l k m=>
  intro o n f;have q:=f;have f:gD (Nat.blt b k) (dU (h1.get a) λc=>gD (Nat.beq c.sz g.size)<|gD (Nat.beq c.ep d) (dU (gY (Nat.add l b)) λi=>some (lN.val (.ptr a d i 0) h1)))=some (.val o n):=f;obtain⟨_,f⟩:=dR.1 f;obtain⟨j,r,_⟩:=dJ.1 f;have p:=hl a rfl (H.ew r);have:kK h2 g (.arr a d l k m) b=gD (Nat.blt b k) (dU (h1.get a) λc=>gD (Nat.beq c.sz g.size)<|gD (Nat.beq c.ep d) (dU (gY (Nat.add l b)) λi=>some (lN.val (.ptr a d i 0) h2))):=by
   rw[<-p];rfl
  rw[this];exact(jz.gD (jz.dU λ_ _=>jz.gD (jz.gD (jz.dU λ_ _=>jz.some))):jz h1 h2 (gD (Nat.blt b k) (dU (h1.get a) λc=>gD (Nat.beq c.sz g.size)<|gD (Nat.beq c.ep d) (dU (gY (Nat.add l b)) λi=>some (lN.val (.ptr a d i 0) h1)))) _) o n q
 |_=>exact jz.none
def DP{f:Nat}{g:Ty}{b:T}{d:Nat}(hl:∀a,dS b=some a->a<h1.size->h2.get a=h1.get a):jz h1 h2 (oY h1 f g b d) (oY h2 f g b d):=by
 unfold oY;refine jz.gD ?_;cases b<;>first
  |exact jz.none
  |exact jz.dU λ_ _=>jz.some
  |skip
 rename_i a k m n;simp only;cases c:h1.get a with
 |none=>intro o l i;simp at i
 |some j=>
  rw[hl a rfl (H.ew c),c];simp only[dX];exact jz.bool (jz.dU λ_ _=>jz.some) (jz.gD (jz.dU λ_ _=>jz.some))
def JT{b:T}{f:List T}(hl:∀a,dS b=some a->a<h1.size->h2.get a=h1.get a)(c:h1.jf b=some f):h2.jf b=some f:=by
 cases b with
 |arr a j m l k=>
  have d:=c;unfold H.jf at d|-;simp only at d|-;obtain⟨i,g,_⟩:=dJ.1 d;rw[hl a rfl (H.ew g)];exact c
 |_=>exact c
def BW{g:U}{f:T}(hl:∀b,dS f=some b->b<h1.size->h2.get b=h1.get b)(a:jr cx h1 g f=true):jr cx h2 g f=true:=by
 cases g with
 |slice e=>
  unfold jr at a|-;simp only at a|-;cases d:cx.ty e with
  |none=>rw[d]at a;exact a
  |some k=>
   rw[d]at a;cases f with
   |arr b j q o l=>
    simp only at a|-;cases c:h1.get b with
    |none=>rw[c]at a;simp at a
    |some i=>rw[hl b rfl (H.ew c),c];rw[c]at a;exact a
   |_=>exact a
 |array p e=>
  unfold jr at a|-;simp only at a|-;cases d:cx.ty e with
  |none=>rw[d]at a;exact a
  |some k=>
   rw[d]at a;cases f with
   |ptr b j m n=>
    simp only at a|-;cases c:h1.get b with
    |none=>rw[c]at a;simp at a
    |some i=>rw[hl b rfl (H.ew c),c];rw[c]at a;exact a
   |_=>exact a
 |_=>exact a
def Hm{k:Op}(A:iC k=false)(hl:∀f,gG cx mask e h1 k=some f->f<h1.size->h2.get f=h1.get f){c:T}{g:H}(b:jp k cx mask e h1=some (.val c g)):
 (g=h1/\jp k cx mask e h2=some (.val c h2))\/
 (∃m a,LV m/\gG cx mask e h1 k=some h1.size/\c=m h1.size/\g=h1.cons a/\jp k cx mask e h2=some (.val (m h2.size) (h2.cons a))):=by
 have F:Mk h1 h2 (jp k cx mask e h1) (jp k cx mask e h2)->gG cx mask e h1 k=some h1.size->(g=h1/\jp k cx mask e h2=some (.val c h2))\/
  (∃m a,LV m/\gG cx mask e h1 k=some h1.size/\c=m h1.size/\g=h1.cons a/\jp k cx mask e h2=some (.val (m h2.size) (h2.cons a))):=λV x=>by
  obtain⟨m,a,L,M,aX,a6⟩:=V c g b;exact Or.inr ⟨m,a,L,x,M,aX,a6⟩
 by_cases S:∃w,k= .call w
 ·obtain⟨w,rfl⟩:=S;left;have:jz h1 h2 (jp (.call w) cx mask e h1) (jp (.call w) cx mask e h2):=by
   simp only[jp,CO];refine jz.dU λQ _=> ?_;cases R:w.callee with
   |invoke a V=>exact jz.none
   |value m=>simp[iC,R]at A
   |builtin f=>
    cases f<;>simp[iC,R]at A<;>simp only[lA]
    case len=>
     match Q with
     | []=>exact jz.none
     | [a]=>
      simp only[Np];refine jz.dU λ_ _=>jz.dU λj _=> ?_;cases j.u<;>first
       |exact jz.none
       |exact jz.val
       |(cases a<;>first|exact jz.none|exact jz.val)
     |_::_::_=>exact jz.none
    all_goals
     match Q with
     | []=>exact jz.none
     | [a]=>exact jz.none
     | [a,P]=>exact jz.val
     |_::_::_::_=>exact jz.none
  exact this c g b
 cases k with
 |alloc d=>exact F PM rfl
 |box d a=>exact F Wa rfl
 |buildSlice d n N=>exact F DG rfl
 |makeSlice d l w=>exact F FF rfl
 |range=>simp[iC]at A
 |entry=>simp[iC]at A
 |store=>simp[iC]at A
 |next=>simp[iC]at A
 |load d i=>
  left;have b:(dU (cx.ty d) λj=>dU (fP cx mask e i) λi=>val h1 (h1.load j i))=some (.val c g):=b;replace b:=dJ.1 b;obtain⟨j,J,b⟩:=b;replace b:=dJ.1 b;obtain⟨q,t,b⟩:=b;obtain⟨B,rfl⟩:=fV.1 b;refine⟨rfl,?_⟩;show(dU (cx.ty d) λj=>dU (fP cx mask e i) λi=>val h2 (h2.load j i))=some (.val c h2);rw[J,t];exact fV.2 ⟨MV (λf x z=>hl f (by show dU (fP cx mask e i) dS=some f;rw[t];exact x) z) B,rfl⟩
 |indexAddr d a E=>
  left;have U:∀q,fP cx mask e a=some q->∀f,dS q=some f->f<h1.size->h2.get f=h1.get f:=λq t f x z=>
   hl f (by show dU (fP cx mask e a) dS=some f;rw[t];exact x) z
  have:jz h1 h2 (jp (.indexAddr d a E) cx mask e h1) (jp (.indexAddr d a E) cx mask e h2):=by
   simp only[jp,pI];refine jz.dU λj _=>jz.dU λq t=>jz.dU λ_ _=>jz.dU λK _=> ?_;cases j.u<;>first
    |exact jz.none
    |exact jz.dU λO _=>DO (U q t)
    |exact jz.dU λO _=>DP (U q t)
  exact this c g b
 |slice d a v o p=>
  left;have b:(dU (cx.ty d) λj=>dU (fP cx mask e a) λa=>gD (jr cx h1 j.u a)<|dU (jP cx mask e v) λv=>dU (jP cx mask e o) λo=>dU (jP cx mask e p) λp=>
   gD (yG o p) (val h1 (po (asSlice j.u a) v o p)))=some (.val c g):=b
  replace b:=dJ.1 b;obtain⟨j,J,b⟩:=b;replace b:=dJ.1 b;obtain⟨q,t,b⟩:=b;obtain⟨Y,b⟩:=dR.1 b;have Z:jr cx h2 j.u q=true:=BW (λf x z=>hl f (by show dU (fP cx mask e a) dS=some f;rw[t];exact x) z) Y;have:jz h1 h2 (dU (jP cx mask e v) λv=>dU (jP cx mask e o) λo=>dU (jP cx mask e p) λp=>gD (yG o p) (val h1 (po (asSlice j.u q) v o p)))
   (dU (jP cx mask e v) λv=>dU (jP cx mask e o) λo=>dU (jP cx mask e p) λp=>gD (yG o p) (val h2 (po (asSlice j.u q) v o p))):=
   jz.dU λ_ _=>jz.dU λ_ _=>jz.dU λ_ _=>jz.gD jz.val
  obtain⟨L,M⟩:=this c g b;refine⟨L,?_⟩;show(dU (cx.ty d) λj=>dU (fP cx mask e a) λa=>gD (jr cx h2 j.u a)<|dU (jP cx mask e v) λv=>dU (jP cx mask e o) λo=>dU (jP cx mask e p) λp=>
   gD (yG o p) (val h2 (po (asSlice j.u a) v o p)))=some (.val c h2)
  rw[J,t];simp only[dX,Z,iu];exact M
 |binOp k d a P D=>
  left;have:jz h1 h2 (jp (.binOp k d a P D) cx mask e h1) (jp (.binOp k d a P D) cx mask e h2):=by
   cases k<;>simp only[jp,Wq,M6]<;>first
    |exact jz.dU λ_ _=>jz.dU λ_ _=>jz.dU λ_ _=>jz.gD (jz.dU λ_ _=>jz.val)
    |exact jz.dU λ_ _=>jz.dU λ_ _=>jz.val
  exact this c g b
 |move a=>left;exact(show jz h1 h2 (jp (.move a) cx mask e h1) (jp (.move a) cx mask e h2)from jz.val) c g b
 |assign a=>left;exact(show jz h1 h2 (jp (.assign a) cx mask e h1) (jp (.assign a) cx mask e h2)from jz.val) c g b
 |pick w i f=>
  left;have:jz h1 h2 (jp (.pick w i f) cx mask e h1) (jp (.pick w i f) cx mask e h2):=by
   simp only[jp,EU];refine jz.dU λc _=> ?_;cases c<;>first|exact jz.none|exact jz.bool jz.val jz.val
  exact this c g b
 |build d N=>
  left;have:jz h1 h2 (jp (.build d N) cx mask e h1) (jp (.build d N) cx mask e h2):=by
   simp only[jp,Aq];refine jz.dU λj _=>jz.dU λ_ _=> ?_;cases j.u<;>first|exact jz.none|exact jz.dU λ_ _=>jz.val|exact jz.dU λ_ _=>jz.dU λ_ _=>jz.val
  exact this c g b
 |nilCheck a=>
  left;have:jz h1 h2 (jp (.nilCheck a) cx mask e h1) (jp (.nilCheck a) cx mask e h2):=by
   simp only[jp,ry];refine jz.dU λc _=> ?_;cases c<;>first|exact jz.none|exact jz.some
  exact this c g b
 |unOp k d a=>left;exact(show jz h1 h2 (jp (.unOp k d a) cx mask e h1) (jp (.unOp k d a) cx mask e h2)from jz.dU λ_ _=>jz.val) c g b
 |convert C y a=>
  left;have b:(dU (cx.ty C) λ_=>dU (fP cx mask e a) λi=>dU (cx.ty y) λG=>match G.u with
   | .slice _=>val h1 (Df cx y i)
   | .str=>(match i with
    | .str _=>val h1 (conv cx y i)
    |_=>val h1 (GY cx h1 C i))
   |_=>val h1 (conv cx y i))=some (.val c g):=b
  show g=h1/\(dU (cx.ty C) λ_=>dU (fP cx mask e a) λi=>dU (cx.ty y) λG=>match G.u with
   | .slice _=>val h2 (Df cx y i)
   | .str=>(match i with
    | .str _=>val h2 (conv cx y i)
    |_=>val h2 (GY cx h2 C i))
   |_=>val h2 (conv cx y i))=some (.val c h2)
  obtain⟨bi,av,b⟩:=dJ.1 b;obtain⟨q,t,b⟩:=dJ.1 b;obtain⟨a7,an,b⟩:=dJ.1 b;rw[av,t,an];simp only[dX];have ae:∀{D:T},GY cx h1 C q=some D->GY cx h2 C q=some D:=by
   intro D s;unfold GY at s|-;obtain⟨t2,al,s⟩:=dJ.1 s;rw[al];simp only[dX];cases aE:t2.u<;>rw[aE]at s<;>simp only[reduceCtorEq]at s|-;obtain⟨O,ap,s⟩:=dJ.1 s;rw[ap];simp only[dX];cases aN:O.u<;>rw[aN]at s<;>simp only[reduceCtorEq]at s|-;obtain⟨W,s⟩:=dR.1 s;rw[W,iu];obtain⟨a8,X,s⟩:=dJ.1 s;rw[JT (λf x z=>hl f (by show dU (fP cx mask e a) dS=some f;rw[t];exact x) z) X];exact s
  cases aA:a7.u<;>rw[aA]at b<;>simp only at b|-
  case str=>
   cases q<;>simp only at b|- <;>(obtain⟨B,rfl⟩:=fV.1 b)<;>first
    |exact⟨rfl,fV.2 ⟨ae B,rfl⟩⟩
    |exact⟨rfl,fV.2 ⟨B,rfl⟩⟩
  all_goals
   obtain⟨B,rfl⟩:=fV.1 b;exact⟨rfl,fV.2 ⟨B,rfl⟩⟩
 |lookup=>exact .inl ((jz.none:jz h1 h2 _ _) c g b)
 |makeMap d r=>exact F JK rfl
 |mapUpdate=>simp[iC]at A
 |makeInterface d a=>
  left;have:jz h1 h2 (jp (.makeInterface d a) cx mask e h1) (jp (.makeInterface d a) cx mask e h2):=by
   simp only[jp,An];refine jz.dU λj _=> ?_;cases j.u<;>first|exact jz.none|exact jz.dU λ_ _=>jz.gD jz.val
  exact this c g b
 |makeFunc I i f=>
  left;have:jz h1 h2 (jp (.makeFunc I i f) cx mask e h1) (jp (.makeFunc I i f) cx mask e h2):=by
   simp only[jp,CM];cases I<;>first
    |exact jz.none
    |(cases i.toList<;>first|exact jz.none|exact jz.dU λ_ _=>jz.val)
  exact this c g b
 |fieldAddr d a m=>
  left;have:jz h1 h2 (jp (.fieldAddr d a m) cx mask e h1) (jp (.fieldAddr d a m) cx mask e h2):=by
   simp only[jp,pJ];refine jz.dU λ_ _=>jz.dU λc _=> ?_;cases c<;>first|exact jz.none|exact jz.dU λ_ _=>jz.some
  exact this c g b
 |field d a m=>
  left;have:jz h1 h2 (jp (.field d a m) cx mask e h1) (jp (.field d a m) cx mask e h2):=by
   simp only[jp,Ap];refine jz.dU λ_ _=>jz.dU λ_ _=>jz.dU λc _=> ?_;cases c<;>first|exact jz.none|exact jz.dU λ_ _=>jz.val
  exact this c g b
 |index d a E=>
  left;have:jz h1 h2 (jp (.index d a E) cx mask e h1) (jp (.index d a E) cx mask e h2):=by
   simp only[jp,Am];refine jz.dU λj _=>jz.dU λc _=>jz.dU λ_ _=>jz.dU λ_ _=> ?_;cases j.u<;>first
    |exact jz.none
    |(cases c<;>first|exact jz.none|exact jz.dU λ_ _=>jz.val|exact jz.dU λ_ _=>jz.gD (jz.dU λ_ _=>jz.val))
  exact this c g b
 |extract a K=>
  left;have:jz h1 h2 (jp (.extract a K) cx mask e h1) (jp (.extract a K) cx mask e h2):=by
   simp only[jp,um];refine jz.dU λc _=> ?_;cases c<;>first|exact jz.none|exact jz.val
  exact this c g b
 |_=>first|exact(S ⟨_,rfl⟩).elim|exact absurd b (by simp[jp])
end
end
noncomputable section
def IB{c:List Nat}{b:List Edge}{e:Nat}(h:(wP c b).testBit e=true):
 ∃a∈b,Region.binds .any a=true/\(e=a.on\/(c.getD a.on 0).testBit e=true):=by
 induction b with
 |nil=>simp[wP]at h
 |cons a b j=>
  have h:(@Bool.rec (λ_=>Nat) (wP c b) ((wP c b)|||((1<<<a.on)|||(c.getD a.on 0))) (Region.binds .any a)).testBit e=true:=h;cases d:Region.binds .any a with
  |false=>
   rw[d]at h;obtain⟨f,g,i⟩:=j h;exact⟨f,by simp[g],i⟩
  |true=>
   rw[d]at h;simp only[Nat.testBit_or,bV]at h;rcases h with h|h|h
   ·obtain⟨f,g,i⟩:=j h;exact⟨f,by simp[g],i⟩
   ·refine⟨a,dA,d,.inl ?_⟩;rw[Nat.one_shiftLeft,Nat.testBit_two_pow]at h;exact(of_decide_eq_true h).symm
   ·exact⟨a,dA,d,.inr h⟩
structure Cl(ops:af Oper)(listed:af Bool):Prop where
 size:listed.size=ops.size
 closed:∀j oj,ops[j]? =some oj->listed.getD j false=true->∀e∈oj.after,Region.binds .any e=true->listed.getD e.on false=true
def Tz{ops:af Oper}{g:af Bool}(q:Cl ops g):∀(k:List Oper) (d:List Nat),(∀n:Nat,k[n]? =ops[d.length+n]?)->
 (∀(b c:Nat),d[b]? =some c->∀f,c.testBit f=true->∀i,ops[b]? =some i->(∀a∈i.after,Region.binds .any a=true->g.getD a.on false=true)->g.getD f false=true)->
 ∀(b c:Nat),(Kw k d)[b]? =some c->∀f,c.testBit f=true->∀i,ops[b]? =some i->(∀a∈i.after,Region.binds .any a=true->g.getD a.on false=true)->g.getD f false=true:=by
 intro k;induction k with
 |nil=>intro d _ l b c e;exact l b c e
 |cons i k B=>
  intro d hl l;refine B (d++[wP d i.after.toList]) (λn=> ?_) ?_
  ·have:=hl (n+1);simp only[dp]at this;rw[this];congr 1;simp;omega
  ·intro b c e f u C m s;by_cases v:b<d.length
   ·rw[cm v]at e;exact l b c e f u C m s
   ·rw[cz dz]at e;have z:b=d.length:=by
     rcases Nat.eq_or_lt_of_le (Nat.le_of_not_lt v)with h|h
     ·exact h.symm
     ·rw[aM dB]at e;simp at e
    subst z;simp at e;subst e;have r:=hl 0;simp at r;rw[<-r]at m;simp at m;subst m;obtain⟨a,x,w,j⟩:=IB u;have o:=s a (by simpa using x) w;rcases j with rfl|j
    ·exact o
    ·have y:a.on<g.size:=by
      rcases aF a.on g.size with h|h
      ·exact h
      ·simp[cU h]at o
     have A:a.on<ops.size:=by rw[<-q.size];exact y
     have t:ops[a.on]? =some ops[a.on]:=by simp[A]
     cases p:d[a.on]? with
     |none=>rw[List.getD_eq_getElem?_getD,p]at j;simp at j
     |some c=>
      rw[List.getD_eq_getElem?_getD,p]at j;exact l a.on c p f j ops[a.on] t (q.closed a.on _ t o)
def Ch{ops:af Oper}{e:af Bool}(i:Cl ops e){d b:Nat}{f:Oper}(a:jL ops d b=true)(l:ops[b]? =some f)
 (j:∀g∈f.after,Region.binds .any g=true->e.getD g.on false=true):e.getD d false=true:=by
 unfold jL at a;rw[List.getD_eq_getElem?_getD]at a;cases c:(Kw ops.toList [])[b]? with
 |none=>rw[c]at a;simp at a
 |some h=>
  rw[c]at a;exact Tz i ops.toList [] (λn=>by simp) (λm h k=>by simp at k) b h c d a f l j
def oU:Op->Bool
 | .store .. =>true
 |_=>false
def oZ(ops:af Oper):Bool:=
 let e:=Kw ops.toList []
 let d:=ops.toList.zipIdx
 d.all λa=>(a.1.after.toList.all λc=> !Region.binds .any c||Nat.blt c.on a.2)&&
  d.all λb=> !Nat.blt b.2 a.2||(b.1.apart ops a.1&&(!(iC b.1.op&&iC a.1.op)||(oU b.1.op&&oU a.1.op)))||(e.getD a.2 0).testBit b.2
def mem_zipIdx{ops:af Oper}{a:Nat}{b:Oper}(c:ops[a]? =some b):(b,a)∈ops.toList.zipIdx:=by
 rw[List.mem_iff_getElem?];exact⟨a,by simp[c]⟩
def Kg{ops:af Oper}(f:oZ ops=true){b:Nat}{c:Oper}(i:ops[b]? =some c):∀a∈c.after,Region.binds .any a=true->a.on<b:=by
 intro a h g;unfold oZ at f;have d:=List.all_eq_true.1 f (c,b) (mem_zipIdx i);simp only[aB]at d;have e:=List.all_eq_true.1 d.1 a (by simpa using h);simp only[g,cM,Bool.false_or,aH]at e;exact e
def Ii{ops:af Oper}(h:oZ ops=true){c d:Nat}{e f:Oper}(j:ops[c]? =some e)(l:ops[d]? =some f)(k:c<d):
 (e.apart ops f=true/\(iC e.op=true->iC f.op=true->oU e.op=true/\oU f.op=true))\/jL ops c d=true:=by
 unfold oZ at h;have g:=List.all_eq_true.1 h (f,d) (mem_zipIdx l);simp only[aB]at g;have b:=List.all_eq_true.1 g.2 (e,c) (mem_zipIdx j);have i:Nat.blt c d=true:=by rw[aH];exact k
 simp only[i,cM,Bool.false_or,bV,aB,bR,Bool.and_eq_false_iff]at b;rcases b with⟨b,a⟩|b
 ·left;refine⟨b,λm n=> ?_⟩;rcases a with(a|a)|a
  ·rw[m]at a;simp at a
  ·rw[n]at a;simp at a
  ·exact a
 ·right;exact b
section
variable {cx:Ctx}{cf:iY}{mask:Nat}{ops:af Oper}
def pf(mask:Nat)(ops:af Oper)(c:Nat->Env)(b:Nat):Prop:=∃a,ops[b]? =some a/\iC a.op=true/\kw ops mask (c b) a.guard=some true
def xv(cx:Ctx)(mask:Nat)(ops:af Oper)(c:Nat->Env)(d:Nat->H)(a e:Nat):Prop:=
 ∃b,ops[a]? =some b/\iC b.op=false/\kw ops mask (c a) b.guard=some true/\gG cx mask (c a) (d a) b.op=some e
def U7(cx:Ctx)(mask:Nat)(ops:af Oper)(c:Nat->Env)(a e:Nat):Prop:=
 ∃b f d g,ops[a]? =some b/\b.op= .store f d g/\kw ops mask (c a) b.guard=some true/\dU (fP cx mask (c a) d) dS=some e
structure Trace(cx:Ctx)(cf:iY)(mask:Nat)(ops:af Oper)(E:Nat->Env)(Hs:Nat->H):Prop where
 step:∀k o,ops[k]? =some o->lH cx cf mask ops (E k) (Hs k) o=some (E (k+1),Hs (k+1))
 ahead:∀k k' b,xv cx mask ops E Hs k b->pf mask ops E k'->k<k'->fc (Hs k') (Hs (k'+1)) b=true\/jL ops k k'=true
 behind:∀k k' b,xv cx mask ops E Hs k b->pf mask ops E k'->k'<k->fc (Hs k') (Hs (k'+1)) b=true\/jL ops k' k=true
 both:∀k k' b,U7 cx mask ops E k b->pf mask ops E k'->k'<k->fc (Hs k') (Hs (k'+1)) b=true\/jL ops k' k=true
def x7{a b:Bool}(c: @Bool.rec (λ_=>Bool) b true a=true):a=true\/b=true:=by cases a<;>simp_all
def yo{e:Oper}{k:List Oper}{d:Nat}{c:Seen}{g n:Env}{a o:H}(b:j2 cx cf mask ops (e::k) d c g a=some (n,o)):
 ∃h f j,lH cx cf mask ops g a e=some (h,f)/\kw ops mask g e.guard=some j/\
  ∃m,j2 cx cf mask ops k (d+1) m h f=some (n,o)/\(∀l∈c.mv,l∈m.mv)/\(∀l∈c.kZ,l∈m.kZ)/\
   (j=true->iC e.op=true->xl ops d a f c.mv=true/\(d,a,f)∈m.kZ/\qO cx mask ops d g c.kZ e.op=true)/\
   (j=true->iC e.op=false->∀i,gG cx mask g a e.op=some i->ot ops d i c.kZ=true/\(d,i)∈m.mv):=by
 have b:(dU (lH cx cf mask ops g a e) λl=>two l λh f=>
  dU (kw ops mask g e.guard) λj=> @Bool.rec (λ_=>aa (Env×H)) (j2 cx cf mask ops k (d+1) c h f)
   (@Bool.rec (λ_=>aa (Env×H))
     (@Option.rec Nat (λ_=>aa (Env×H)) (j2 cx cf mask ops k (d+1) c h f)
       (λi=>gD (ot ops d i c.kZ) (j2 cx cf mask ops k (d+1) ⟨(d,i)::c.mv,c.kZ⟩ h f)) (gG cx mask g a e.op))
     (gD (xl ops d a f c.mv) (gD (qO cx mask ops d g c.kZ e.op) (j2 cx cf mask ops k (d+1) ⟨c.mv,(d,a,f)::c.kZ⟩ h f))) (iC e.op)) j)=some (n,o):=b
 replace b:=dJ.1 b;obtain⟨⟨h,f⟩,t,b⟩:=b;simp only[kG]at b;replace b:=dJ.1 b;obtain⟨j,u,b⟩:=b;refine⟨h,f,j,t,u,?_⟩;cases j with
 |false=>exact⟨c,b,λ_ a=>a,λ_ a=>a,λa=>by simp at a,λa=>by simp at a⟩
 |true=>
  cases r:iC e.op with
  |true=>
   rw[r]at b;obtain⟨p,b⟩:=dR.1 b;obtain⟨s,b⟩:=dR.1 b;exact⟨_,b,λ_ a=>a,λ_ a=>by simp[a],λ_ _=>⟨p,dA,s⟩,λ_ a=>by simp at a⟩
  |false=>
   rw[r]at b;cases q:gG cx mask g a e.op with
   |none=>
    rw[q]at b;exact⟨c,b,λ_ a=>a,λ_ a=>a,λ_ a=>by simp at a,λ_ _ i a=>by simp at a⟩
   |some i=>
    rw[q]at b;obtain⟨p,b⟩:=dR.1 b;exact⟨_,b,λ_ a=>by simp[a],λ_ a=>a,λ_ a=>by simp at a,λ_ _ v a=>by simp only[ar]at a;subst a;exact⟨p,dA⟩⟩
def DB:∀(C:List Oper) (c:Nat) (u:Seen) (w D:Env) (q E:H),(∀M,C[M]? =ops[c+M]?)->j2 cx cf mask ops C c u w q=some (D,E)->
 ∃(i:Nat->Env) (j:Nat->H),i c=w/\j c=q/\i (c+C.length)=D/\j (c+C.length)=E/\
  (∀a h,c<=a->ops[a]? =some h->lH cx cf mask ops (i a) (j a) h=some (i (a+1),j (a+1)))/\
  (∀a b,c<=a->xv cx mask ops i j a b->∀g∈u.kZ,fc g.2.1 g.2.2 b=true\/jL ops g.1 a=true)/\
  (∀a,c<=a->pf mask ops i a->∀g∈u.mv,fc (j a) (j (a+1)) g.2=true\/jL ops g.1 a=true)/\
  (∀a d b,c<=a->xv cx mask ops i j a b->pf mask ops i d->a<d->fc (j d) (j (d+1)) b=true\/jL ops a d=true)/\
  (∀a d b,c<=d->xv cx mask ops i j a b->pf mask ops i d->d<a->fc (j d) (j (d+1)) b=true\/jL ops d a=true)/\
  (∀a b,c<=a->U7 cx mask ops i a b->∀g∈u.kZ,fc g.2.1 g.2.2 b=true\/jL ops g.1 a=true)/\
  (∀a d b,c<=d->U7 cx mask ops i a b->pf mask ops i d->d<a->fc (j d) (j (d+1)) b=true\/jL ops d a=true):=by
 intro C;induction C with
 |nil=>
  intro c u w D q E hl I;have I:some (w,q)=some (D,E):=I;simp only[ar,ay]at I;obtain⟨rfl,rfl⟩:=I;have B:∀a h,c<=a->ops[a]? =some h->False:=λa h e m=>by
   have:=hl (a-c);rw[show c+(a-c)=a by omega,m]at this;simp at this
  refine⟨λ_=>w,λ_=>q,rfl,rfl,rfl,rfl,λa h e m=>(B a h e m).elim,?_,?_,?_,?_,?_,?_⟩
  ·rintro a b e ⟨h,m,_⟩;exact(B a h e m).elim
  ·rintro a e ⟨h,m,_⟩;exact(B a h e m).elim
  ·rintro a d b e ⟨h,m,_⟩;exact(B a h e m).elim
  ·rintro a d b e _ ⟨h,m,_⟩;exact(B d h e m).elim
  ·rintro a b e ⟨h,_,_,_,m,_⟩;exact(B a h e m).elim
  ·rintro a d b e _ ⟨h,m,_⟩;exact(B d h e m).elim
 |cons h C aN=>
  intro c u w D q E hl I;obtain⟨W,F,bu,aE,T,U,aA,ap,X,S,av⟩:=yo I;have O:ops[c]? =some h:=by have:=hl 0;simpa using this.symm
  obtain⟨i,j,aX,a7,a8,bi,bk,ae,al,bn,bp,Z,a6⟩:=aN (c+1) U W D F E (λM=>by
   have:=hl (M+1);simp only[dp]at this;rw[this];congr 1;omega) aA
  let p:Nat->Env:=λa=>if a=c then w else i a
  let y:Nat->H:=λa=>if a=c then q else j a
  have hE:∀a,a≠c->p a=i a:=λa e=>by simp[p,e]
  have o:∀a,a≠c->y a=j a:=λa e=>by simp[y,e]
  have A:p c=w:=by simp[p]
  have G:y c=q:=by simp[y]
  have an:p (c+1)=W:=by rw[hE _ dz,aX]
  have N:y (c+1)=F:=by rw[o _ dz,a7]
  have J:∀a,a≠c->pf mask ops p a->pf mask ops i a:=λa e=>by unfold pf;rw[hE a e];exact id
  have P:∀a b,a≠c->xv cx mask ops p y a b->xv cx mask ops i j a b:=λa b e=>by unfold xv;rw[hE a e,o a e];exact id
  have V:∀a b,a≠c->U7 cx mask ops p a b->U7 cx mask ops i a b:=λa b e=>by unfold U7;rw[hE a e];exact id
  have bs:∀b,U7 cx mask ops p c b->ot ops c b u.kZ=true:=by
   rintro b ⟨Q,M,x,v,l,t,k,L⟩;rw[O]at l;simp only[ar]at l;subst l;rw[A,T]at k;rw[A]at L;simp only[ar]at k;have:=(S k (by rw[t];rfl)).2.2;rw[t]at this;have this: @Option.rec Nat (λ_=>Bool) true (λb=>ot ops c b u.kZ) (dU (fP cx mask w x) dS)=true:=this;rw[L]at this;exact this
  have R:pf mask ops p c->xl ops c q F u.mv=true/\(c,q,F)∈U.kZ:=by
   rintro⟨Q,l,t,k⟩;rw[O]at l;simp only[ar]at l;subst l;rw[A,T]at k;simp only[ar]at k;exact⟨(S k t).1,(S k t).2.1⟩
  have Y:∀b,xv cx mask ops p y c b->ot ops c b u.kZ=true/\(c,b)∈U.mv:=by
   rintro b ⟨Q,l,t,k,L⟩;rw[O]at l;simp only[ar]at l;subst l;rw[A,T]at k;rw[A,G]at L;simp only[ar]at k;exact av k t b L
  refine⟨p,y,A,G,?_,?_,?_,?_,?_,?_,?_,?_,?_⟩
  ·rw[hE _ dA,<-a8];congr 1;simp;omega
  ·rw[o _ dA,<-bi];congr 1;simp;omega
  ·intro a Q e l;by_cases f:a=c
   ·subst f;rw[O]at l;simp only[ar]at l;subst l;rw[A,G,an,N];exact aE
   ·rw[hE a f,o a f,hE (a+1) dz,o (a+1) dz];exact bk a Q dz l
  ·intro a b e n g z;by_cases f:a=c
   ·subst f;obtain⟨t,_⟩:=Y b n;exact x7 (qn t g z)
   ·exact ae a b dz (P a b f n) g (X g z)
  ·intro a e r g z;by_cases f:a=c
   ·subst f;obtain⟨t,_⟩:=R r;rw[G,N];exact x7 (qn t g z)
   ·rw[o a f,o (a+1) dz];exact al a dz (J a f r) g (ap g z)
  ·intro a d b e n r K;have s:d≠c:=dz;rw[o d s,o (d+1) dz];by_cases f:a=c
   ·subst f;obtain⟨_,k⟩:=Y b n;exact al d dz (J d s r) (a,b) k
   ·exact bn a d b dz (P a b f n) (J d s r) K
  ·intro a d b e n r K;have f:a≠c:=dz;by_cases s:d=c
   ·subst s;obtain⟨_,k⟩:=R r;rw[G,N];exact ae a b dz (P a b f n) (d,q,F) k
   ·rw[o d s,o (d+1) dz];exact bp a d b dz (P a b f n) (J d s r) K
  ·intro a b e n g z;by_cases f:a=c
   ·subst f;exact x7 (qn (bs b n) g z)
   ·exact Z a b dz (V a b f n) g (X g z)
  ·intro a d b e n r K;have f:a≠c:=dz;by_cases s:d=c
   ·subst s;obtain⟨_,k⟩:=R r;rw[G,N];exact Z a b dz (V a b f n) (d,q,F) k
   ·rw[o d s,o (d+1) dz];exact a6 a d b dz (V a b f n) (J d s r) K
def Ek(cx:Ctx)(cf:iY)(mask:Nat)(c:Env)(a:H)(f:Op)(g:T)(e:H):Prop:=
 jp f cx mask c a=some (.val g e)\/∃d b,jp f cx mask c a=some (.call d b)/\cf d b a=some (g,e)
def mU{e b:Env}{g c:H}{f:Oper}(a:lH cx cf mask ops e g f=some (b,c)):
 (kw ops mask e f.guard=some false/\e.dst mask f.dst .undef=some b/\c=g)\/
 (kw ops mask e f.guard=some true/\∃d,Ek cx cf mask e g f.op d c/\e.dst mask f.dst d=some b):=by
 replace a:=dJ.1 a;obtain⟨r,p,a⟩:=a;cases r with
 |false=>
  left;have a:(dU (e.dst mask f.dst .undef) λb=>some (b,g))=some (b,c):=a;replace a:=dJ.1 a;obtain⟨m,h,a⟩:=a;simp only[ar,ay]at a;obtain⟨rfl,rfl⟩:=a;exact⟨p,h,rfl⟩
 |true=>
  right;refine⟨p,?_⟩;have a:(dU (jp f.op cx mask e g) λk=> @lN.rec (λ_=>aa (Env×TI.H))
   (λd c=>dU (e.dst mask f.dst d) λb=>some (b,c))
   (λj i=>dU (cf j i g) λl=>two l λd c=>dU (e.dst mask f.dst d) λb=>some (b,c)) k)=some (b,c):=a
  replace a:=dJ.1 a;obtain⟨k,o,a⟩:=a;rcases k with⟨d,n⟩|⟨j,i⟩
  ·skip
   have a:(dU (e.dst mask f.dst d) λb=>some (b,n))=some (b,c):=a;replace a:=dJ.1 a;obtain⟨m,h,a⟩:=a;simp only[ar,ay]at a;obtain⟨rfl,rfl⟩:=a;exact⟨d,.inl o,h⟩
  ·skip
   have a:(dU (cf j i g) λl=>two l λd c=>dU (e.dst mask f.dst d) λb=>some (b,c))=some (b,c):=a;replace a:=dJ.1 a;obtain⟨⟨d,n⟩,q,a⟩:=a;simp only[kG]at a;replace a:=dJ.1 a;obtain⟨m,h,a⟩:=a;simp only[ar,ay]at a;obtain⟨rfl,rfl⟩:=a;exact⟨d,.inr ⟨j,i,o,q⟩,h⟩
def C0{P:ai}{h:Nat}{a:World}{g:Mu}{j:Env}{b c:H}{i:Act}{k:Oper}{f:T}(ja:jg P cx)(o:nL P cx cf)
 (e:St cx h a.heap g b) (l:ku a.heap g mask j i.tmps) (u:Ek cx cf mask j b k.op f c):zh P (qD cx h a g b f c) ((execOp i.eval k).run P a):=by
 rcases u with d|⟨p,m,d,s⟩
 ·exact((yA ja e l d).Z3).mono λv w r=>⟨r,PL e.wf f c d⟩
 ·obtain⟨_,n,q,t⟩:=Hn (P:=P) e l d;rw[t];exact o p m b f c s h a g n e q
def Ek.congr{b e':Env}{c d:H}{a:Op}{f:T}(h:∀g∈a.operands,fP cx mask b g=fP cx mask e' g)(e:Ek cx cf mask b c a f d):Ek cx cf mask e' c a f d:=by
 unfold Ek at*
 rw[zW h]at e;exact e
def JU{b:Call}{e:Env}{g:H}{f:aj}{d:List T}(a:jp (.call b) cx mask e g=some (.call f d)):iC (.call b)=true:=by
 have a:CO b cx mask e g=some (.call f d):=a;replace a:=dJ.1 a;obtain⟨j,hl,a⟩:=a;cases c:b.callee with
 |builtin h=>rw[c]at a;exact(u9 a).elim
 |invoke l k=>rw[c]at a;simp at a
 |value i=>simp[iC,c]
def If{d:Env}{e f:H}{c:Op}{i:T}(h:iC c=false)(l:Ek cx cf mask d e c i f):jp c cx mask d e=some (.val i f):=by
 rcases l with b|⟨k,j,b,_⟩
 ·exact b
 ·by_cases g:∃a,c= .call a
  ·obtain⟨a,rfl⟩:=g;rw[JU b]at h;simp at h
  ·exact absurd b (Ct (λa m=>g ⟨a,m⟩) k j)
def yt(mask:Nat)(a:Env):List Nat->fW
 | []=> .nil
 |s::b=>match a.get mask s with
  |some c=> .cons s c (yt mask a b)
  |none=>yt mask a b
def JP{d:Env}{c:Nat}:∀(b:List Nat),dL (yt mask d b) c=if c∈b then d.get mask c else none:=by
 intro b;induction b with
 |nil=>simp[yt,dL]
 |cons e b g=>
  unfold yt;cases f:d.get mask e with
  |none=>
   simp only[g,cu];by_cases a:c=e
   ·subst a;simp[f]
   ·simp[a]
  |some h=>
   simp only[nj,g,cu];by_cases a:e=c
   ·subst a;simp[f]
   ·simp[a,bo a]
def B7(mask:Nat)(a:Env)(b:List Nat):Env:=⟨yt mask a b,yt mask a b⟩
def yu{b:Env}{a:Nat}{c:List Nat}:(B7 mask b c).get mask a=if a∈c then b.get mask a else none:=by
 show @Bool.rec (λ_=>aa T) (dL (yt mask b c) a) (dL (yt mask b c) a) (kh mask a)=_;rw[JP];cases kh mask a<;>rfl
def zU{a:Env}{c:Oper}{b:ah}(e:b∈c.op.operands):fP cx mask a b=fP cx mask (B7 mask a (c.looksAt ops)) b:=by
 cases b with
 |tmp d=>
  show a.get mask d=(B7 mask a (c.looksAt ops)).get mask d;rw[yu,aq];unfold Oper.looksAt;exact da _ (List.mem_filterMap.2 ⟨.tmp d,by simpa using e,rfl⟩)
 |const f=>rfl
 |global h=>rfl
 |func g=>rfl
def IT{c:Env}{a:Oper}:kw ops mask (B7 mask c (a.looksAt ops)) a.guard=kw ops mask c a.guard:=by
 cases h:a.guard with
 |none=>rfl
 |some f=>
  obtain⟨d,k⟩:=f;show(dU (dU (dU (mm ops.toList d) λa=>a.dst) λb=>(B7 mask c (a.looksAt ops)).get mask b) λj=>_)=(dU (dU (dU (mm ops.toList d) λa=>a.dst) λb=>c.get mask b) λj=>_);cases e:(dU (mm ops.toList d) λa=>a.dst)with
  |none=>rfl
  |some b=>
   simp only[dX];rw[yu,aq];unfold Oper.looksAt;refine dy _ ?_;replace e:=dJ.1 e;obtain⟨f,g,i⟩:=e;rw[kE]at g;have:ops[d]? =some f:=by simpa using g
   simp[h,this,i]
end
end
noncomputable section
def fD.conv{E:af Obj}{B C:Mu}{b:T}{r:am}(a:fD E B b r){n:Nat}(hl:pU n b)(s:∀c e,c<n->B c=some e->C c=some e)
 (D:∀k,nC C k->nC B k):fD E C b r:=by
 induction a with
 |undef=>exact .undef
 |bool c=>exact .bool c
 |int d Q=>exact .int d Q
 |str S a=>exact .str S a
 |kx=>exact .kx
 |ptr c w k O e h j x L=>cases hl with|ptr _ _ _ _ a=>exact .ptr c w k O e h (s c e a j) x L
 |jy v t off arr q fz A y i p hr g=>
  cases hl with|jy _ a=>exact .jy v t off arr q fz (λd=>A (D _ d)) y i p λd b f=>g d b f (a b (ax f))
 |nP m h=>exact .nP m h
 |dM I J m t off u U arr q fz A y z M N i p hr g=>
  cases hl with|dM _ _ a=>exact .dM I J m t off u U arr q fz (λd=>A (D _ d)) y z M N i p λd b f=>g d b f (a b (ax f))
 |gu h u=>exact .gu h u
 |arr c w R P m e h G j x z o=>cases hl with|arr _ _ _ _ _ a=>exact .arr c w R P m e h G (s c e a j) x z o
 |func K F l i hr g=>cases hl with|func _ _ a=>exact .func K F l i λd b f=>g d b f (a b (ax f))
 |kN=>exact .kN
 |kP=>exact .kP
 |iface q b r a g=>cases hl with|iface _ _ a=>exact .iface q b r (g a)
 |iter c e h j o=>cases hl with|iter _ a=>exact .iter c e h (s c e a j) o
 |map c e k j o=>cases hl with|map _ a=>exact .map c e k (s c e a j) o
 |nU=>exact .nU
 |agg v l i p hr g=>cases hl with|agg _ a=>exact .agg v l i p λd b f=>g d b f (a b (ax f))
 |tuple V l i hr g=>cases hl with|tuple _ a=>exact .tuple V l i λd b f=>g d b f (a b (ax f))
def qM.conv{u:af Obj}{s t:Mu}{e:Loc}{q:iZ}(i:qM u s e q){n:Nat}(hl:∀c∈fw q.eY,pU n c)(k:∀m e,m<n->s m=some e->t m=some e)
 (j:∀l,nC t l->nC s l):qM u t e q:=by
 refine⟨i.ep,i.sz,λb=> ?_,λb=> ?_⟩
 ·have h:=i.plain b;obtain⟨x,L,a,f,d⟩:=h.row;exact⟨⟨x,L,a,f,d.1,λb c v=>(d.2 b c v).conv (hl c (ax v)) k j⟩,h.room,h.tz,h.size,h.scalar⟩
 ·obtain⟨p,a|⟨z,a,f,d⟩|⟨G,F,J,K,y,a,f,d,E⟩⟩:=i.iter b
  ·exact⟨p,.inl a⟩
  rotate_left
  ·exact⟨p,.inr (.inr ⟨G,F,J,K,y,a,f.conv (hl _ (by rw[a];simp[fw,T.cells])) k j,d,E⟩)⟩
  ·refine⟨p,.inr (.inl ⟨z,a,f,λl r w=> ?_⟩)⟩;obtain⟨b,c,I,o,A,B,C,D⟩:=d l r w;have g:=hl r (List.mem_flatMap.2 ⟨r,ax w,by rw[o];simp[T.cells]⟩);rw[o]at g;cases g with|tuple _ g=>exact⟨b,c,I,o,A,B,C.conv (g b dA) k j,D.conv (g c dA) k j⟩
def pU.mono{n c:Nat}{d:T}(a:pU n d)(g:n<=c):pU c d:=by
 induction a with
 |ptr b e h i a=>exact .ptr _ _ _ _ dz
 |arr b e k j f a=>exact .arr _ _ _ _ _ dz
 |iter b a=>exact .iter _ dz
 |map b a=>exact .map _ dz
 |_=>constructor<;>assumption
def St.congr{cx:Ctx}{f:Nat}{i:af Obj}{e:Mu}{g d:H}(a:St cx f i e g)(m:d.fx.length=d.size)(k:∀b c,e b=some c->d.get b=g.get b):St cx f i e d:=
 ⟨m,a.fit,λb c h=>by obtain⟨o,j,l⟩:=a.box b c h;exact⟨o,by rw[k b c h];exact j,l⟩,a.inj,a.low,a.apart,a.qH,a.yN⟩
def H.get_some{a:H}(e:a.fx.length=a.size){b:Nat}(c:b<a.size):∃d,a.get b=some d:=by
 rw[H.get_eq,aq c];exact⟨a.fx[a.size-1-b]' dz,dA⟩
def ut(Hs:Nat->H)(a:Nat):Nat->Nat
 |0=>0
 |k+1=>if a<(Hs k).size then ut Hs a k else k+1
def Gq(Hs:Nat->H)(a n:Nat):ut Hs a n<=n:=by
 induction n with
 |zero=>simp[ut]
 |succ n b=>unfold ut;split<;>omega
def WW{Hs:Nat->H}{b:Nat}{n:Nat}(e:∀a,a<n->(Hs a).size<=(Hs (a+1)).size)(c:b<(Hs n).size):b<(Hs (ut Hs b n)).size:=by
 induction n with
 |zero=>exact c
 |succ n f=>
  unfold ut;split
  ·rename_i d;exact f (λa g=>e a dz) d
  ·exact c
def Td{Hs:Nat->H}{d:Nat}:∀{n p:Nat},p<ut Hs d n->(∀b,b<n->(Hs b).size<=(Hs (b+1)).size)->(Hs p).size<=d:=by
 intro n;induction n with
 |zero=>intro p a;simp[ut]at a
 |succ n g=>
  intro p a e;unfold ut at a;split at a
  ·exact g a λb j=>e b dz
  ·rename_i i;have:∀c,p+c=n->(Hs p).size<=(Hs n).size:=by
    intro c;induction c generalizing p with
    |zero=>intro f;rw[show p=n by omega];exact au _
    |succ c h=>
     intro f;have:=e p dz;have:=h (p:=p+1) dz dz;omega
   have:=this (n-p) dz;omega
section
variable {Hs:Nat->H}{n:Nat}
def ng(f:∀c,c<n->(Hs c).size<=(Hs (c+1)).size){b d:Nat}(e:b<=d)(j:d<=n):(Hs b).size<=(Hs d).size:=by
 obtain⟨a,rfl⟩:=Nat.exists_eq_add_of_le e;clear e;induction a with
 |zero=>exact au _
 |succ a g=>
  have h:=g dz;have i:=f (b+a) dz;have:b+(a+1)=b+a+1:=dz;rw[this];omega
def lj(c:∀a,a<n->(Hs a).size<=(Hs (a+1)).size){b a:Nat}(e:b<(Hs n).size)(g:a<=n):b<(Hs a).size↔ut Hs b n<=a:=by
 constructor
 ·intro d;rcases aF a (ut Hs b n)with h|f
  ·have:=Td h c;omega
  ·exact f
 ·intro d;have:=WW c e;have:=ng c d g;omega
def mg(l:∀a,a<n->(Hs a).size<=(Hs (a+1)).size){c b e:Nat}(g:b<=e)(f:∀a,b<=a->a<e->(Hs (a+1)).get c=(Hs a).get c):(Hs e).get c=(Hs b).get c:=by
 obtain⟨d,rfl⟩:=Nat.exists_eq_add_of_le g;clear g;induction d with
 |zero=>rfl
 |succ d k=>
  have i:=k λa h c=>f a h dz;have j:=f (b+d) dz dz;have:b+(d+1)=b+d+1:=dz;rw[this,j,i]
end
def PH(Hs:Nat->H)(n:Nat)(b:Nat->Nat):H:=
 ⟨(Hs n).size,0,(List.range (Hs n).size).reverse.map λa=>((Hs (max (b a) (ut Hs a n))).get a).getD default⟩
def E8(Hs:Nat->H)(n:Nat)(a:Nat->Nat):(PH Hs n a).fx.length=(PH Hs n a).size:=by simp[PH]
def XB{Hs:Nat->H}{n a:Nat}{c:Nat->Nat}(g:∀b,b<n->(Hs b).size<=(Hs (b+1)).size)(i:∀b,b<=n->(Hs b).fx.length=(Hs b).size)(k:c a<=n)(d:a<(Hs n).size):
 (PH Hs n c).get a=(Hs (max (c a) (ut Hs a n))).get a:=by
 have e:max (c a) (ut Hs a n)<=n:=by have:=Gq Hs a n;omega
 have f:a<(Hs (max (c a) (ut Hs a n))).size:=(lj g d e).2 dz;obtain⟨l,j⟩:=H.get_some (i _ e) f;rw[H.get_eq];have h:(PH Hs n c).size=(Hs n).size:=rfl;rw[h,aq d];show((List.range (Hs n).size).reverse.map λa=>((Hs (max (c a) (ut Hs a n))).get a).getD default)[(Hs n).size-1-a]? =_;rw[aU,List.getElem?_reverse dB];have:(List.range (Hs n).size).length-1-((Hs n).size-1-a)=a:=dB;rw[this];simp[d,j]
def sk(b:af Oper)(a:af Bool)(c:Nat):Nat->Nat
 |0=>0
 |k+1=>if a.getD k false=true/\(b[k]?).bind (·.dst)=some c then k+1 else sk b a c k
def yI{ops:af Oper}{listed:af Bool}{s:Nat}:∀(n:Nat),sk ops listed s n=0\/∃a,sk ops listed s n=a+1/\a<n/\listed.getD a false=true/\(ops[a]?).bind (·.dst)=some s:=by
 intro n;induction n with
 |zero=>left;rfl
 |succ n e=>
  unfold sk;split
  ·rename_i b;right;exact⟨n,rfl,dz,b.1,b.2⟩
  ·rcases e with b|⟨a,c,f,d⟩
   ·left;exact b
   ·right;exact⟨a,c,dz,d⟩
def JM{ops:af Oper}{listed:af Bool}{s:Nat}:∀{n a:Nat},a<n->listed.getD a false=true->(ops[a]?).bind (·.dst)=some s->a+1<=sk ops listed s n:=by
 intro n;induction n with
 |zero=>intro a d;omega
 |succ n g=>
  intro a d b c;unfold sk;split
  ·omega
  ·rename_i e;rcases Nat.eq_or_lt_of_le (Nat.le_of_lt_succ d)with rfl|f
   ·exact absurd ⟨b,c⟩ e
   ·exact g f b c
def We{ops:af Oper}{listed:af Bool}{s:Nat}(n:Nat):sk ops listed s n<=n:=by
 rcases yI (ops:=ops) (listed:=listed) (s:=s) n with a|⟨d,b,c,_⟩<;>omega
def MT{c:af Oper}{g h:af Bool}{d:Nat}:∀{n:Nat},(∀a,a<n->(c[a]?).bind (·.dst)=some d->h.getD a false=g.getD a false)->sk c h d n=sk c g d n:=by
 intro n;induction n with
 |zero=>intro _;rfl
 |succ n b=>
  intro e;have b:=b λa i=>e a dz;unfold sk;by_cases f:(c[n]?).bind (·.dst)=some d
  ·rw[e n dz f,b]
  ·simp[f,b]
end
end Go.TI
