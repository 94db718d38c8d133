/- TiEnv -/
import Derived.Test.YtajpdafdickapaaGreatDoorA3
import Derived.Orders
set_option linter.all false
namespace Go.TI
noncomputable section
def nI(b:Nat)(d:T)(c:fW)(a:Nat):dM (.cons b d c) a=if b=a then some d else dM c a:=by
 show @Bool.rec (λ_=>aa T) (dM c a) (some d) (Nat.beq b a)=_;cases e:Nat.beq b a with
 |true=>have:=aG e;simp[this]
 |false=>have:=cP e;simp[this]
def HO{l e:fW}{c:Nat}{g:T}(a:lZ l c g=some e)(f:Nat):dM e f=if f=c then some g else dM l f:=by
 induction l generalizing e with
 |nil=>
  have a:some (fW.cons c g .nil)=some e:=a;simp only[au]at a;subst a;rw[nI];by_cases b:c=f
  ·simp[b]
  ·simp[b,aY b]
 |cons d m i o=>
  have a: @Bool.rec (λ_=>aa fW) (dV (lZ i c g) λj=>some (.cons d m j)) (some (.cons d g i)) (Nat.beq d c)=some e:=a;cases h:Nat.beq d c with
  |true=>
   rw[h]at a;have k:=aG h;have a:some (fW.cons d g i)=some e:=a;simp only[au]at a;subst a;rw[nI,nI,k];by_cases b:c=f
   ·simp[b]
   ·simp[b,aY b]
  |false=>
   rw[h]at a;have k:=cP h;have a:(dV (lZ i c g) λj=>some (fW.cons d m j))=some e:=a;have⟨j,ht,a⟩:=dI.1 a;simp only[au]at a;subst a;rw[nI,nI,o ht];by_cases b:d=f
   ·have:f≠c:=λn=>k (b.trans n);simp[b,this]
   ·simp[b]
def Env.Cs{d:Nat}{m g:Env}{c:Nat}{f:T}(a:m.set d c f=some g)(b:Nat):g.get d b=if b=c then some f else m.get d b:=by
 obtain⟨l,k⟩:=m;have a: @Bool.rec (λ_=>aa Env) (some ⟨l,.cons c f k⟩) (dV (lZ l c f) λj=>some ⟨j,k⟩) (ks d c)=some g:=a;have get:∀(h i:fW),(⟨h,i⟩:Env).get d b=if ks d b=true then dM h b else dM i b:=by
  intro h i;show @Bool.rec (λ_=>aa T) (dM i b) (dM h b) (ks d b)=_;cases ks d b<;>rfl
 cases hl:ks d c with
 |false=>
  rw[hl]at a;have a:some (⟨l,.cons c f k⟩:Env)=some g:=a;simp only[au]at a;subst a;rw[get,get,nI];by_cases e:b=c
  ·subst e;simp[hl]
  ·simp[e,aY e]
 |true=>
  rw[hl]at a;have a:(dV (lZ l c f) λj=>some (⟨j,k⟩:Env))=some g:=a;have⟨j,n,a⟩:=dI.1 a;simp only[au]at a;subst a;rw[get,get,HO n];by_cases e:b=c
  ·subst e;simp[hl]
  ·simp[e]
theorem kA.put{k:af Obj}{m:Mu}{h:Nat}{f g:Env}{i:Act}{e:aa Tmp}{l:T}{c:ao}(o:kA k m h f i.tmps)(s:fI k m l c)(q:∀b,e=some b->b<i.tmps.size)
 (a:f.dst h e l=some g):kA k m h g (i.put e c).tmps:=by
 cases e with
 |none=>
  have a:some f=some g:=a;simp only[au]at a;subst a;exact o
 |some b=>
  have a:f.set h b l=some g:=a;intro p t d;rw[Env.Cs a]at d;have r:=q b rfl;by_cases j:p=b
  ·subst j;simp only[bA,au]at d;subst d;simpa[Act.put,bP,r]using s
  ·simp only[j,bw]at d;have:=o p t d;simpa[Act.put,bP,Array.getElem?_setIfInBounds_ne (aY j)]using this
def Act.qu(a:Act)(b:aa Tmp)(c:ao):(a.put b c).tmps.size=a.tmps.size:=by cases b<;>simp[Act.put]
def Act.qv(a:Act)(b:aa Tmp)(c:ao):(a.put b c).defers=a.defers:=by cases b<;>rfl
def CI{x:af Obj}{A:Mu}{l:Nat}{j:Env}{c:Act}{g:af Oper}{i:Oper}{d:Bool}(z:kA x A l j c.tmps)(v:∀(f:Nat) (b:Oper) t,g[f]? =some b->b.dst=some t->t<c.tmps.size)
 (a:kE g l j i.guard=some d):Region.wanted i (yielded g c.tmps)=d:=by
 unfold Region.wanted;cases o:i.guard with
 |none=>
  rw[o]at a;have a:some true=some d:=a;simpa using a
 |some b=>
  obtain⟨f,n⟩:=b;rw[o]at a;have a:(dV (dV (dV (mI g.toList f) λi=>i.dst) λe=>j.get l e) λm=>
   match m with
   | .bool d=>some (@Bool.rec (λ_=>Bool) (@Bool.rec (λ_=>Bool) true false n) n d)
   |_=>some false)=some d:=a
  replace a:=dI.1 a;obtain⟨m,h,a⟩:=a;replace h:=dI.1 h;obtain⟨e,k,h⟩:=h;replace k:=dI.1 k;obtain⟨b,p,r⟩:=k;rw[kP]at p;have q:g[f]? =some b:=by simpa using p
  have w:=v f b e q r;have s:=z e m h;have y:((g[f]?).bind (·.dst)).bind (c.tmps[·]?)=some (c.tmps.getD e Go.undef):=by
   simp[q,r,bP,w]
  simp only[yielded,y];generalize c.tmps.getD e Go.undef=B at s;cases s<;>simp only[au]at a<;>first
   |(subst a;rfl)
   |skip
  rename_i u;subst a;cases u<;>cases n<;>rfl
section
def rh(cx:Ctx)(base:Nat)(w:World)(f:Mu)(h:H)(c:T)(h':H)(b:ao)(d:World):Prop:=VX cx base w f h.size c h' b d/\lr h h'
def nR(P:ai)(cx:Ctx)(cf:jd):Prop:=
 ∀f c h g h',cf f c h=some (g,h')->∀base w b (d:af ao),St cx base w.heap b h->gU w.heap b c d.toList->Aj P (rh cx base w b h g h') ((callFunc f d).run P w)
def t7(cx:Ctx)(base mask m:Nat)(w0:World)(μ0:Mu)(h0:H)(e:Env)(h:H)(a:Act)(w:World):Prop:=
 ∃b,St cx base w.heap b h/\kA w.heap b mask e a.tmps/\p7 w0 μ0 w b/\yJ μ0 b h0.size h.size/\lr h0 h/\a.tmps.size=m/\a.defers=[]
section
variable {P:ai}{cx:Ctx}{cf:jd}{base mask m:Nat}{w0 w:World}{μ0:Mu}{h0 h h':H}{e e':Env}{a:Act}{ops:af Oper}{Q:Exit->Act->World->Prop}
def Ga(m:Nat)(ops:af Oper):Prop:=∀(d:Nat) (b:Oper) c,ops[d]? =some b->b.dst=some c->c<m
def t7.after(H:t7 cx base mask m w0 μ0 h0 e h a w){d:aa Tmp}(z:∀b,d=some b->b<m){l:T}(r:e.dst mask d l=some e')
 {g:Result Next} (hr:∀base c,St cx base w.heap c h->kA w.heap c mask e a.tmps->Aj P (rh cx base w c h l h') g):Aj P (λi n=>t7 cx base mask m w0 μ0 h0 e' h' (a.put d i) n) g:=by
 obtain⟨c,b,k,x,o,p,j,A⟩:=H;refine(hr base c b k).mono λi n q=>?_;obtain⟨⟨y,s,t,f,u⟩,v⟩:=q;refine⟨y,t,?_,x.trans f,o.trans (hp:=w.heap) u f.ext,p.trans v,by rw[Act.qu];exact j,by rw[Act.qv];omega⟩;exact kA.put (k.ext f.ext) s (λb B=>by rw[j];grind) r
def JI(jq:jg P cx)(G:nR P cx cf){n:Nat}{d:Oper}(s:ops[n]? =some d)(r:Ga m ops)(b:lH cx cf mask ops e h d=some (e',h'))
 (H:t7 cx base mask m w0 μ0 h0 e h a w) {z:Act->World->Prop} (v:∀A o,t7 cx base mask m w0 μ0 h0 e' h' A o->z A o):wpOp P ops Q n z a w:=by
 have E:=H;obtain⟨t,c,f,V,I,K,x,W⟩:=E;unfold wpOp;simp only[s];replace b:=dI.1 b;obtain⟨U,R,b⟩:=b;have D:=CI f (λS T c N i=>by rw[x];exact r S T c N i) R;cases U with
 |false=>
  have b:(dV (e.dst mask d.dst .undef) λe'=>some (e',h))=some (e',h'):=b;replace b:=dI.1 b;obtain⟨C,l,b⟩:=b;simp only[au,aD]at b;obtain⟨rfl,rfl⟩:=b;simp only[D,cr,bw];refine v _ _ ⟨t,c,kA.put f .undef (λc i=>by rw[x];exact r n d c s i) l,V,I,K,by rw[Act.qu];exact x,by rw[Act.qv];omega⟩
 |true=>
  simp only[D,bA];left;have b:(dV (jr d.op cx mask e h) λu=> @lP.rec (λ_=>aa (Env×TI.H))
   (λg h'=>dV (e.dst mask d.dst g) λe'=>some (e',h'))
   (λq p=>dV (cf q p h) λf=>two f λg h'=>dV (e.dst mask d.dst g) λe'=>some (e',h')) u)=some (e',h'):=b
  replace b:=dI.1 b;obtain⟨u,y,b⟩:=b;rcases u with⟨g,j⟩|⟨q,p⟩
  ·skip
   have b:(dV (e.dst mask d.dst g) λe'=>some (e',j))=some (e',h'):=b;replace b:=dI.1 b;obtain⟨C,l,b⟩:=b;simp only[au,aD]at b;obtain⟨rfl,rfl⟩:=b;refine Aj.wp (H.after (λc i=>r n d c s i) l (h':=j) λbase t c f=>?_) (λB o k=>v _ _ k);exact((zi jq c f y).ran).mono λB o k=>⟨k,QL c.wf g j y⟩
  ·skip
   have b:(dV (cf q p h) λf=>two f λg h'=>dV (e.dst mask d.dst g) λe'=>some (e',h'))=some (e',h'):=b;replace b:=dI.1 b;obtain⟨⟨g,j⟩,M,b⟩:=b;simp only[kN]at b;replace b:=dI.1 b;obtain⟨C,l,b⟩:=b;simp only[au,aD]at b;obtain⟨rfl,rfl⟩:=b;refine Aj.wp (H.after (λc i=>r n d c s i) l (h':=j) λbase t c f=>?_) (λB o k=>v _ _ k);have⟨_,F,L,O⟩:=Ib (P:=P) c f y;rw[O];exact G q p h g j M base w t F c L
def Gd(jq:jg P cx)(n:nR P cx cf)(q:Ga m ops):∀(c:List Oper) (d:Nat) (e:Env) (h:H) (a:Act) (w:World),(∀g,c[g]? =ops[d+g]?)->
 kI cx cf mask ops c e h=some (e',h')->t7 cx base mask m w0 μ0 h0 e h a w->(∀f i,t7 cx base mask m w0 μ0 h0 e' h' f i->Q .normal f i)->wpOps P ops Q (List.range' d c.length) a w:=by
 intro c;induction c with
 |nil=>
  intro d e h a w _ b H j;have b:some (e,h)=some (e',h'):=b;simp only[au,aD]at b;obtain⟨rfl,rfl⟩:=b;exact j a w H
 |cons k c t=>
  intro d e h a w hl b H j;have b:(dV (lH cx cf mask ops e h k) λu=>two u λe' h'=>kI cx cf mask ops c e' h')=some (e',h'):=b;replace b:=dI.1 b;obtain⟨⟨o,p⟩,s,b⟩:=b;simp only[kN]at b;simp only[aU,List.range'_succ];rw[wpOps_cons];have r:ops[d]? =some k:=by have:=hl 0;grind
  refine JI jq n r q s H λf i l=>t (d+1) o p f i (λg=>?_) b l j;have:=hl (g+1);simp only[df]at this;rw[this];grind
def TQ(m:Nat)(ops:af Oper):Bool:=ops.toList.all λb=>match b.dst with|some c=>Nat.blt c m|none=>true
def TP(b:TQ m ops=true):Ga m ops:=by
 intro g d i f c;unfold TQ at b;rw[cD]at b;have:=b d (by grind);rw[c]at this;simp_all
def mQ(m:Nat)(ph:af Oper->Bool):Code->Bool
 | .region _ ops c=>TQ m ops&&(!c||ph ops)
 | .seq a b=>mQ m ph a&&mQ m ph b
 | .cond _ a b=>mQ m ph a&&mQ m ph b
 | .block _ b=>mQ m ph b
 | .loop b=>mQ m ph b
 |_=>true
def ach:Ex->Exit
 | .normal=> .normal
 | .exit b=> .exit b
 | .ret=> .ret
def Sa(P:ai)(cx:Ctx)(cf:jd)(ph:af Oper->Bool):Prop:=
 ∀(base mask m:Nat) (w0:World) (μ0:Mu) (h0:H) (ops:af Oper) (e e':Env) (h h':H) (a:Act) (w:World) (Q:Exit->Act->World->Prop) (id:Nat),ph ops=true->Ga m ops->
  j7 cx cf mask ops ops.toList 0 ⟨[],[]⟩ e h=some (e',h')->t7 cx base mask m w0 μ0 h0 e h a w->(∀b c,t7 cx base mask m w0 μ0 h0 e' h' b c->Q .normal b c)->(Code.region id ops true).wp P Q a w
def t7.drop(H:t7 cx base mask m w0 μ0 h0 e h a w):t7 cx base mask m w0 μ0 h0 ⟨e.vars,.nil⟩ h a w:=by
 obtain⟨q,n,l,p,g,i,k,j⟩:=H;refine⟨q,n,λb d c=>l b d ?_,p,g,i,k,j⟩;obtain⟨f,o⟩:=e;have c: @Bool.rec (λ_=>aa T) (dM .nil b) (dM f b) (ks mask b)=some d:=c;show @Bool.rec (λ_=>aa T) (dM o b) (dM f b) (ks mask b)=some d;cases hl:ks mask b with
 |true=>rw[hl]at c;exact c
 |false=>rw[hl]at c;grind [dM]
def wpL(P:ai)(d:Code)(Q:Exit->Act->World->Prop)(a:Act)(w:World):Prop:=
 ∀(c:Frame) (g:List Item) (f:List Frame),∃e b i,Q e b i/\Arrives P (lone (c.at a (.code d:: .inLoop d::g)) f w) c g f e b i
def MJ{b:Code}(h:b.wp P (Exit.then (wpL P b Q) Q) a w):wpL P b Q a w:=by
 intro i k j;have⟨e,f,g,d,c⟩:=h i (.inLoop b::k) j;cases e with
 |normal=>
  have⟨n,l,q,p,o⟩:=d i k j;exact⟨n,l,q,p,.of_steps (Steps.trans c (.one step_inLoop)) o⟩
 |exit id=>exact⟨_,f,g,d,.pass (x:= .inLoop b) rfl (λ_ _=> .inl dy) c⟩
 |goto s=>exact⟨_,f,g,d,.pass (x:= .inLoop b) rfl (λ_ _=> .inl dy) c⟩
 |ret=>exact⟨_,f,g,d,.pass (x:= .inLoop b) rfl (λ_ _=> .inl dy) c⟩
 |panic r=>exact⟨_,f,g,d,.pass (x:= .inLoop b) rfl (λ_ _=> .inl dy) c⟩
 |outgrown=>exact⟨_,f,g,d,.pass (x:= .inLoop b) rfl (λ_ _=> .inl dy) c⟩
def MI{b:Code}(h:wpL P b Q a w):(Code.loop b).wp P Q a w:=by
 intro d j f;have⟨e,c,k,i,g⟩:=h d j f;exact⟨e,c,k,i,.of_steps (.one step_loop) g⟩
def acJ(P:ai)(cx:Ctx)(base mask m:Nat)(w0:World)(μ0:Mu)(h0:H)(f:Code)(g:Env->H->Out):Prop:=
 ∀e h d e' h',g e h=some (d,e',h')->∀a w Q,t7 cx base mask m w0 μ0 h0 e h a w->(∀b c,t7 cx base mask m w0 μ0 h0 e' h' b c->Q (ach d) b c)->f.wp P Q a w
def Kr{p:Code}{j:Env->H->Out}(s:acJ P cx base mask m w0 μ0 h0 p j):∀(f:Nat) (e:Env) (h:H) (c:Ex) (e':Env) (h':H),oL j f e h=some (c,e',h')->
 ∀a w Q,t7 cx base mask m w0 μ0 h0 e h a w->(∀d g,t7 cx base mask m w0 μ0 h0 e' h' d g->Q (ach c) d g)->wpL P p Q a w:=by
 intro f;induction f with
 |zero=>simp[oL]
 |succ f t=>
  intro e h c e' h' b a w Q H n;have b:(dV (j e h) λu=>three u λc e' h'=> @Ex.rec (λ_=>Out) (oL j f e' h') (λo=>some (.exit o,e',h')) (some (.ret,e',h')) c)=some (c,e',h'):=b;replace b:=dI.1 b;obtain⟨⟨q,i,k⟩,r,b⟩:=b;refine MJ (s e h q i k r a w _ H λd g l=>?_);cases q with
  |normal=>
   have b:oL j f i k=some (c,e',h'):=b;exact t i k c e' h' b d g Q l n
  |exit o=>
   have b:some (Ex.exit o,i,k)=some (c,e',h'):=b;simp only[au,aD]at b;obtain⟨rfl,rfl,rfl⟩:=b;exact n d g l
  |ret=>
   have b:some (Ex.ret,i,k)=some (c,e',h'):=b;simp only[au,aD]at b;obtain⟨rfl,rfl,rfl⟩:=b;exact n d g l
def KT(jq:jg P cx)(I:nR P cx cf){ph:af Oper->Bool}(K:Sa P cx cf ph)(p:Nat):∀(s:Code),mQ m ph s=true->acJ P cx base mask m w0 μ0 h0 s (kc cx cf p mask s):=by
 intro s;induction s with
 |skip=>
  intro _ e h c e' h' b a w Q H d;have b:some (Ex.normal,e,h)=some (c,e',h'):=b;simp only[au,aD]at b;obtain⟨rfl,rfl,rfl⟩:=b;exact wp_skip (d a w H)
 |exit id=>
  intro _ e h c e' h' b a w Q H d;have b:some (Ex.exit id,e,h)=some (c,e',h'):=b;simp only[au,aD]at b;obtain⟨rfl,rfl,rfl⟩:=b;exact wp_exit (d a w H)
 |ret=>
  intro _ e h c e' h' b a w Q H d;have b:some (Ex.ret,e,h)=some (c,e',h'):=b;simp only[au,aD]at b;obtain⟨rfl,rfl,rfl⟩:=b;exact wp_ret (d a w H)
 |region id ops L=>
  intro g e h c e' h' b a w Q H d;simp only[mQ,aB]at g;have F:=TP g.1;have n:=H.drop;obtain⟨D,R⟩:=e;cases L with
  |false=>
   have b:(dV (kI cx cf mask ops ops.toList ⟨D,.nil⟩ h) λo=>two o λe' h'=>some (Ex.normal,(⟨e'.vars,.nil⟩:Env),h'))=some (c,e',h'):=b;replace b:=dI.1 b;obtain⟨⟨k,j⟩,q,b⟩:=b;simp only[kN,au,aD]at b;obtain⟨rfl,rfl,rfl⟩:=b;refine wp_region ?_;rw[List.range_eq_range'];have:=Gd (Q:=Q) jq I F ops.toList 0 ⟨D,.nil⟩ h a w (λO=>by simp) q n λf i x=>d f i x.drop;omega
  |true=>
   have b:(dV (j7 cx cf mask ops ops.toList 0 ⟨[],[]⟩ ⟨D,.nil⟩ h) λo=>two o λe' h'=>some (Ex.normal,(⟨e'.vars,.nil⟩:Env),h'))=some (c,e',h'):=b;replace b:=dI.1 b;obtain⟨⟨k,j⟩,q,b⟩:=b;simp only[kN,au,aD]at b;obtain⟨rfl,rfl,rfl⟩:=b;exact K base mask m w0 μ0 h0 ops _ _ h j a w Q id (by grind) F q n λf i x=>d f i x.drop
 |seq r y A B=>
  intro g e h c e' h' b a w Q H d;simp only[mQ,aB]at g;have b:(dV (kc cx cf p mask r e h) λo=>three o λc e' h'=> @Ex.rec (λ_=>Out) (kc cx cf p mask y e' h') (λl=>some (.exit l,e',h')) (some (.ret,e',h')) c)=some (c,e',h'):=b;replace b:=dI.1 b;obtain⟨⟨t,k,j⟩,q,b⟩:=b;refine wp_seq (A g.1 e h t k j q a w _ H λf i n=>?_);cases t with
  |normal=>exact B g.2 k j c e' h' b f i Q n d
  |exit l=>
   have b:some (Ex.exit l,k,j)=some (c,e',h'):=b;simp only[au,aD]at b;obtain⟨rfl,rfl,rfl⟩:=b;exact d f i n
  |ret=>
   have b:some (Ex.ret,k,j)=some (c,e',h'):=b;simp only[au,aD]at b;obtain⟨rfl,rfl,rfl⟩:=b;exact d f i n
 |cond G r y A B=>
  intro g e h c e' h' b a w Q H d;simp only[mQ,aB]at g;have b:(dV (fO cx mask e G) λC=>match C with
   | .bool v=> @Bool.rec (λ_=>Out) (kc cx cf p mask y e h) (kc cx cf p mask r e h) v
   |_=>none)=some (c,e',h'):=b
  replace b:=dI.1 b;obtain⟨C,M,b⟩:=b;cases C<;>simp only[reduceCtorEq]at b;rename_i v;have E:a.eval G= .bool v:=by
   obtain⟨S,N,o,_⟩:=H;exact(gY N o M).qH
  cases v with
  |true=>exact wp_cond_true E (A g.1 e h c e' h' b a w Q H d)
  |false=>exact wp_cond_false E (B g.2 e h c e' h' b a w Q H d)
 |block id r z=>
  intro g e h c e' h' b a w Q H d;have b:(dV (kc cx cf p mask r e h) λo=>three o λc e' h'=> @Ex.rec (λ_=>Out) (some (.normal,e',h')) (λl=> @Bool.rec (λ_=>Out) (some (.exit l,e',h')) (some (.normal,e',h')) (Nat.beq l id)) (some (.ret,e',h')) c)=some (c,e',h'):=b;replace b:=dI.1 b;obtain⟨⟨t,k,j⟩,q,b⟩:=b;refine wp_block (z g e h t k j q a w _ H λf i n=>?_);cases t with
  |normal=>
   have b:some (Ex.normal,k,j)=some (c,e',h'):=b;simp only[au,aD]at b;obtain⟨rfl,rfl,rfl⟩:=b;exact d f i n
  |exit l=>
   have b: @Bool.rec (λ_=>Out) (some (.exit l,k,j)) (some (.normal,k,j)) (Nat.beq l id)=some (c,e',h'):=b;show(if l=id then Q .normal f i else Q (.exit l) f i);cases u:Nat.beq l id with
   |true=>
    rw[u]at b;simp only[au,aD]at b;obtain⟨rfl,rfl,rfl⟩:=b;rw[ar (aG u)];exact d f i n
   |false=>
    rw[u]at b;simp only[au,aD]at b;obtain⟨rfl,rfl,rfl⟩:=b;rw[aq (cP u)];exact d f i n
  |ret=>
   have b:some (Ex.ret,k,j)=some (c,e',h'):=b;simp only[au,aD]at b;obtain⟨rfl,rfl,rfl⟩:=b;exact d f i n
 |loop r z=>
  intro g e h c e' h' b a w Q H d;exact MI (Kr (z g) p e h c e' h' b a w Q H d)
 |_=>intro _ e h c e' h' b;exact absurd b (by simp[kc])
end
end
section
def nH{d g:Type}{b c:d->aa g}:∀{a:List d},(∀x∈a,b x=c x)->fQ b a=fQ c a
 | [],_=>rfl
 |x::a,h=>by
  rw[jK,jK,h x dy,nH λf i=>h f (by grind)]
section
variable {cx:Ctx}{mask:Nat}{e e':Env}{h h1 h2:H}
def Bj{a:List ah}(c:∀b∈a,fO cx mask e b=fO cx mask e' b):qz cx mask e a=qz cx mask e' a:=nH c
def xO{b:List (Nat×ah)}(d:∀a∈b,fO cx mask e a.2=fO cx mask e' a.2):partsOf cx mask e b=partsOf cx mask e' b:=by
 unfold partsOf;refine nH λa c=>?_;obtain⟨f,g⟩:=a;simp only[kN];rw[d (f,g) c]
def uU{b:aa ah}(f:∀a,b=some a->fO cx mask e a=fO cx mask e' a):jT cx mask e b=jT cx mask e' b:=by
 cases b with
 |none=>rfl
 |some a=>
  show(dV (fO cx mask e a) λd=>dV (qn d) λc=>some (some c))=(dV (fO cx mask e' a) λd=>dV (qn d) λc=>some (some c));rw[f a rfl]
def AB{f:Op}(b:∀a∈f.operands,fO cx mask e a=fO cx mask e' a):jr f cx mask e h=jr f cx mask e' h:=by
 by_cases u:∃d,f= .call d
 ·obtain⟨d,rfl⟩:=u;have h1:qz cx mask e d.args.toList=qz cx mask e' d.args.toList:=Bj λa v=>b a (by simp only[Op.operands,Call.operands,Array.mem_append];grind);simp only[jr,DV,h1];cases t:d.callee with
  |builtin i=>rfl
  |invoke a D=>rfl
  |value n=>
   have h2:=b n (by simp only[Op.operands,Call.operands,t];simp)
   grind
 cases f with
 |move a=>have h1:=b a (by simp[Op.operands]);simp_all[DS,jr]
 |assign a=>have h1:=b a (by simp[Op.operands]);simp_all[DS,jr]
 |pick d g i=>
  have h1:=b d (by simp[Op.operands]);have h2:=b g (by simp[Op.operands]);have s:=b i (by simp[Op.operands]);simp_all[FV,jr]
 |alloc c=>rfl
 |box c a=>have h1:=b a (by simp[Op.operands]);simp_all[NQ,jr]
 |build c l=>
  have h1:partsOf cx mask e l.toList=partsOf cx mask e' l.toList:=xO λo w=>b o.2 (by simp only[Op.operands,List.mem_toArray,List.mem_map];grind);simp_all[AS,jr]
 |buildSlice c E l=>
  have h1:partsOf cx mask e l.toList=partsOf cx mask e' l.toList:=xO λo w=>b o.2 (by simp only[Op.operands,List.mem_toArray,List.mem_map];grind);simp_all[oN,jr]
 |load c g=>have h1:=b g (by simp[Op.operands]);simp_all[IP,jr]
 |store c g a=>have h1:=b g (by simp[Op.operands]);have h2:=b a (by simp[Op.operands]);simp_all[DP,jr]
 |nilCheck a=>have h1:=b a (by simp[Op.operands]);simp_all[rQ,jr]
 |binOp f c a z G=>
  have h1:=b a (by simp[Op.operands]);have h2:=b z (by simp[Op.operands]);cases f<;>simp only[jr,Xp,NR,h1,h2]
 |unOp f c a=>have h1:=b a (by simp[Op.operands]);simp_all[hUn,jr]
 |convert y A a=>have h1:=b a (by simp[Op.operands]);simp_all[LQ,jr]
 |makeInterface c a=>have h1:=b a (by simp[Op.operands]);simp_all[AP,jr]
 |makeFunc B g i=>
  have h1:qz cx mask e i.toList=qz cx mask e' i.toList:=Bj λa v=>b a (by simp only[Op.operands,Array.mem_append];grind);simp_all[DT,jr]
 |makeSlice c x d=>have h1:=b x (by simp[Op.operands]);have h2:=b d (by simp[Op.operands]);simp_all[pR,jr]
 |slice c a q p r=>
  have h1:=b a (by simp[Op.operands]);have h2:jT cx mask e q=jT cx mask e' q:=uU λk j=>b k (by subst j;simp[Op.operands]);have s:jT cx mask e p=jT cx mask e' p:=uU λk j=>b k (by subst j;simp[Op.operands]);have C:jT cx mask e r=jT cx mask e' r:=uU λk j=>b k (by subst j;simp[Op.operands]);simp_all[DQ,jr]
 |fieldAddr c a n=>have h1:=b a (by simp[Op.operands]);simp_all[pT,jr]
 |field c a n=>have h1:=b a (by simp[Op.operands]);simp_all[AR,jr]
 |indexAddr c a m=>have h1:=b a (by simp[Op.operands]);have h2:=b m (by simp[Op.operands]);simp_all[pS,jr]
 |index c a m=>have h1:=b a (by simp[Op.operands]);have h2:=b m (by simp[Op.operands]);simp_all[AO,jr]
 |extract a m=>have h1:=b a (by simp[Op.operands]);simp_all[uE,jr]
 |makeMap c F=>rfl
 |lookup=>rfl
 |mapUpdate=>rfl
 |range c a=>have h1:=b a (by simp[Op.operands]);simp_all[DR,zw,jr]
 |next it y=>have h1:=b it (by simp[Op.operands]);simp_all[AL,IM,jr]
 |entry=>rfl
 |_=>first|rfl|grind
def wD{c:Op}(b:∀a∈c.operands,fO cx mask e a=fO cx mask e' a):hU cx mask e h c=hU cx mask e' h c:=by
 cases c with
 |load d a=>have h1:=b a (by simp[Op.operands]);grind [hU]
 |indexAddr d a f=>have h1:=b a (by simp[Op.operands]);grind [hU]
 |slice d a j i k=>have h1:=b a (by simp[Op.operands]);grind [hU]
 |convert m g a=>have h1:=b a (by simp[Op.operands]);grind [hU]
 |lookup d a f l=>have h1:=b a (by simp[Op.operands]);grind [hU]
 |_=>rfl
def jL(h1 h2:H)(c d:aa lP):Prop:=∀b a,c=some (.val b a)->a=h1/\d=some (.val b h2)
theorem jL.none:jL h1 h2 none none:=λ_ _ a=>by grind
theorem jL.val{a:aa T}:jL h1 h2 (val h1 a) (val h2 a):=λd c b=>by
 obtain⟨rfl,rfl⟩:=fT.1 b;exact⟨rfl,fT.2 ⟨rfl,rfl⟩⟩
def jL.some{a:T}:jL h1 h2 (some (.val a h1)) (some (.val a h2)):=λa b c=>by
 grind
theorem jL.dV{f:Type}{a:aa f}{c d:f->aa lP}(g:∀b,a=Option.some b->jL h1 h2 (c b) (d b)):jL h1 h2 (dV a c) (dV a d):=by
 cases a with
 |none=>exact jL.none
 |some b=>simp_all
theorem jL.gJ{a:Bool}{b c:aa lP}(d:jL h1 h2 b c):jL h1 h2 (gJ a b) (gJ a c):=by
 cases a with
 |false=>exact jL.none
 |true=>exact d
def jL.bool{a:Bool}{b d c f:aa lP}(g:jL h1 h2 b c)(i:jL h1 h2 d f):jL h1 h2 (Bool.casesOn a b d) (Bool.casesOn a c f):=by
 cases a<;>assumption
def MF(b:Nat->T):Prop:=(∀a,b a= .ptr a 0 0 0)\/(∃c,∀a,b a= .arr a 0 0 c false)\/(∀a,b a= .iter a)\/(∀a,b a= .map a)
def Mk(h1 h2:H)(f g:aa lP):Prop:=∀c b,f=some (.val c b)->∃a d,MF a/\c=a h1.size/\b=h1.cons d/\g=some (.val (a h2.size) (h2.cons d))
theorem Mk.none:Mk h1 h2 none none:=λ_ _ a=>by grind
def Mk.new{f:Nat->T}{b:iY}(c:MF f):Mk h1 h2 (jI (h1.new f b)) (jI (h2.new f b)):=λg d a=>by
 rw[ju,H.ly]at a;simp only[au,aD]at a;obtain⟨rfl,rfl⟩:=a;exact⟨f,b,c,rfl,rfl,by rw[ju,H.ly]⟩
theorem Mk.dV{f:Type}{a:aa f}{c d:f->aa lP}(g:∀b,a=Option.some b->Mk h1 h2 (c b) (d b)):Mk h1 h2 (dV a c) (dV a d):=by
 cases a with
 |none=>exact Mk.none
 |some b=>simp_all
theorem Mk.gJ{a:Bool}{b c:aa lP}(d:Mk h1 h2 b c):Mk h1 h2 (gJ a b) (gJ a c):=by
 cases a with
 |false=>exact Mk.none
 |true=>exact d
def QM{a:ab}:Mk h1 h2 (jr (.alloc a) cx mask e h1) (jr (.alloc a) cx mask e h2):=by
 simp only[jr,DW];refine Mk.dV λb _=>?_;cases xv cx b<;>exact Mk.new (.inl λ_=>rfl)
def W9{a:ab}{b:ah}:Mk h1 h2 (jr (.box a b) cx mask e h1) (jr (.box a b) cx mask e h2):=by
 simp only[jr,NQ];exact Mk.dV λc _=>Mk.gJ (Mk.new (.inl λ_=>rfl))
def EV{c:ab}{b:Nat}{a:af (Nat×ah)}:Mk h1 h2 (jr (.buildSlice c b a) cx mask e h1) (jr (.buildSlice c b a) cx mask e h2):=by
 simp only[jr,oN];refine Mk.dV λd _=>?_;cases d.u<;>first
  |exact Mk.none
  |exact Mk.dV λg _=>Mk.dV λa _=>Mk.gJ (Mk.gJ (Mk.dV λf _=>Mk.new (.inr (.inl ⟨_,λ_=>rfl⟩))))
def Gz{c:ab}{b a:ah}:Mk h1 h2 (jr (.makeSlice c b a) cx mask e h1) (jr (.makeSlice c b a) cx mask e h2):=by
 simp only[jr,pR];refine Mk.dV λd _=>?_;cases d.u<;>first
  |exact Mk.none
  |exact Mk.dV λf _=>Mk.dV λ_ _=>Mk.dV λ_ _=>Mk.dV λ_ _=>Mk.dV λ_ _=>Mk.gJ (Mk.gJ (Mk.gJ (Mk.gJ (Mk.new (.inr (.inl ⟨_,λ_=>rfl⟩))))))
def Km{b:ab}{a:aa ah}:Mk h1 h2 (jr (.makeMap b a) cx mask e h1) (jr (.makeMap b a) cx mask e h2):=Mk.none
def NI{f:Ty}{c g:T}(hl:∀a,dT c=some a->a<h1.size->h2.get a=h1.get a)(b:h1.load f c=some g):h2.load f c=some g:=by
 cases c with
 |ptr a j k m=>
  have b:(dV (h1.elem a j k) λe=>dV (j4 m e.cells) λi=>kw f i)=some g:=b;show(dV (h2.elem a j k) λe=>dV (j4 m e.cells) λi=>kw f i)=some g;replace b:=dI.1 b;obtain⟨n,l,b⟩:=b;have o:h2.elem a j k=some n:=by
   have d:=l;unfold H.elem at d|-;replace d:=dI.1 d;obtain⟨q,p,_⟩:=d;rw[hl a rfl (H.fh p)];exact l
  rw[o];exact b
 |_=>exact b
def E0{g:Ty}{j:T}{b:Nat}(hl:∀a,dT j=some a->a<h1.size->h2.get a=h1.get a):jL h1 h2 (kK h1 g j b) (kK h2 g j b):=by
 cases j with
 |dK s m=>exact jL.dV λ_ _=>jL.gJ jL.some
 |arr a d l k m=>
  intro o n f;have q:=f;have f:gJ (Nat.blt b k) (dV (h1.get a) λc=>gJ (Nat.beq c.sz g.size)<|gJ (Nat.beq c.ep d) (dV (ir (Nat.add l b)) λi=>some (lP.val (.ptr a d i 0) h1)))=some (.val o n):=f;have⟨_,f⟩:=dQ.1 f;have⟨j,r,_⟩:=dI.1 f;have p:=hl a rfl (H.fh r);have:kK h2 g (.arr a d l k m) b=gJ (Nat.blt b k) (dV (h1.get a) λc=>gJ (Nat.beq c.sz g.size)<|gJ (Nat.beq c.ep d) (dV (ir (Nat.add l b)) λi=>some (lP.val (.ptr a d i 0) h2))):=by
   rw[<-p];rfl
  rw[this];exact(jL.gJ (jL.dV λ_ _=>jL.gJ (jL.gJ (jL.dV λ_ _=>jL.some))):jL h1 h2 (gJ (Nat.blt b k) (dV (h1.get a) λc=>gJ (Nat.beq c.sz g.size)<|gJ (Nat.beq c.ep d) (dV (ir (Nat.add l b)) λi=>some (lP.val (.ptr a d i 0) h1)))) _) o n q
 |_=>exact jL.none
theorem E1{f:Nat}{g:Ty}{b:T}{d:Nat}(hl:∀a,dT b=some a->a<h1.size->h2.get a=h1.get a):jL h1 h2 (pf h1 f g b d) (pf h2 f g b d):=by
 unfold pf;refine jL.gJ ?_;cases b<;>first
  |exact jL.none
  |exact jL.dV λ_ _=>jL.some
  |skip
 rename_i a k m n;simp only;cases c:h1.get a with
 |none=>intro o l i;simp at i
 |some j=>
  rw[hl a rfl (H.fh c),c];simp[ed,jL.some,jL.gJ,jL.bool]
def Kv{b:T}{f:List T}(hl:∀a,dT b=some a->a<h1.size->h2.get a=h1.get a)(c:h1.jw b=some f):h2.jw b=some f:=by
 cases b with
 |arr a j m l k=>
  have d:=c;unfold H.jw at d|-;simp only at d|-;have⟨i,g,_⟩:=dI.1 d;rw[hl a rfl (H.fh g)];exact c
 |_=>exact c
def CS{g:U}{f:T}(hl:∀b,dT f=some b->b<h1.size->h2.get b=h1.get b)(a:jG cx h1 g f=true):jG cx h2 g f=true:=by
 cases g with
 |slice e=>
  unfold jG at a|-;simp only at a|-;cases d:cx.ty e with
  |none=>rw[d]at a;exact a
  |some k=>
   rw[d]at a;cases f with
   |arr b j q o l=>
    simp only at a|-;cases c:h1.get b with
    |none=>rw[c]at a;grind
    |some i=>rw[hl b rfl (H.fh c),c];rw[c]at a;exact a
   |_=>exact a
 |array p e=>
  unfold jG at a|-;simp only at a|-;cases d:cx.ty e with
  |none=>rw[d]at a;exact a
  |some k=>
   rw[d]at a;cases f with
   |ptr b j m n=>
    simp only at a|-;cases c:h1.get b with
    |none=>rw[c]at a;grind
    |some i=>rw[hl b rfl (H.fh c),c];rw[c]at a;exact a
   |_=>exact a
 |_=>exact a
def Ia{k:Op}(W:iF k=false)(hl:∀f,hU cx mask e h1 k=some f->f<h1.size->h2.get f=h1.get f){c:T}{g:H}(b:jr k cx mask e h1=some (.val c g)):
 (g=h1/\jr k cx mask e h2=some (.val c h2))\/
 (∃p a,MF p/\hU cx mask e h1 k=some h1.size/\c=p h1.size/\g=h1.cons a/\jr k cx mask e h2=some (.val (p h2.size) (h2.cons a))):=by
 have E:Mk h1 h2 (jr k cx mask e h1) (jr k cx mask e h2)->hU cx mask e h1 k=some h1.size->(g=h1/\jr k cx mask e h2=some (.val c h2))\/
  (∃p a,MF p/\hU cx mask e h1 k=some h1.size/\c=p h1.size/\g=h1.cons a/\jr k cx mask e h2=some (.val (p h2.size) (h2.cons a))):=λQ y=>by
  obtain⟨p,a,P,aN,bi,bn⟩:=Q c g b
  grind
 by_cases O:∃w,k= .call w
 ·obtain⟨w,rfl⟩:=O;left;have:jL h1 h2 (jr (.call w) cx mask e h1) (jr (.call w) cx mask e h2):=by
   simp only[jr,DV];refine jL.dV λN _=>?_;cases U:w.callee with
   |invoke a Q=>exact jL.none
   |value p=>grind [iF]
   |builtin f=>
    cases f<;>simp[iF,U]at W<;>simp only[lA]
    case len=>
     match N with
     | []=>exact jL.none
     | [a]=>
      simp only[N8];refine jL.dV λ_ _=>jL.dV λj _=>?_;cases j.u<;>first
       |exact jL.none
       |exact jL.val
       |(cases a<;>first|exact jL.none|exact jL.val)
     |_::_::_=>exact jL.none
    all_goals
     match N with
     | []=>exact jL.none
     | [a]=>exact jL.none
     | [a,M]=>exact jL.val
     |_::_::_::_=>exact jL.none
  exact this c g b
 cases k with
 |alloc d=>exact E QM rfl
 |box d a=>exact E W9 rfl
 |buildSlice d n L=>exact E EV rfl
 |makeSlice d l w=>exact E Gz rfl
 |range=>grind [iF]
 |entry=>grind [iF]
 |store=>grind [iF]
 |next=>grind [iF]
 |load d i=>
  left;have b:(dV (cx.ty d) λj=>dV (fO cx mask e i) λi=>val h1 (h1.load j i))=some (.val c g):=b;replace b:=dI.1 b;obtain⟨j,I,b⟩:=b;replace b:=dI.1 b;obtain⟨s,t,b⟩:=b;obtain⟨A,rfl⟩:=fT.1 b;refine⟨rfl,?_⟩;show(dV (cx.ty d) λj=>dV (fO cx mask e i) λi=>val h2 (h2.load j i))=some (.val c h2);rw[I,t];exact fT.2 ⟨NI (λf y z=>hl f (by show dV (fO cx mask e i) dT=some f;rw[t];exact y) z) A,rfl⟩
 |indexAddr d a D=>
  left;have aX:∀s,fO cx mask e a=some s->∀f,dT s=some f->f<h1.size->h2.get f=h1.get f:=λs t f y z=>
   hl f (by show dV (fO cx mask e a) dT=some f;rw[t];exact y) z
  have:jL h1 h2 (jr (.indexAddr d a D) cx mask e h1) (jr (.indexAddr d a D) cx mask e h2):=by
   simp only[jr,pS];refine jL.dV λj _=>jL.dV λs t=>jL.dV λ_ _=>jL.dV λK _=>?_;cases j.u<;>first
    |exact jL.none
    |exact jL.dV λR _=>E0 (aX s t)
    |grind [E1,jL.dV]
  exact this c g b
 |slice d a v m o=>
  left;have b:(dV (cx.ty d) λj=>dV (fO cx mask e a) λa=>gJ (jG cx h1 j.u a)<|dV (jT cx mask e v) λv=>dV (jT cx mask e m) λm=>dV (jT cx mask e o) λo=>
   gJ (AG m o) (val h1 (pH (asSlice j.u a) v m o)))=some (.val c g):=b
  replace b:=dI.1 b;obtain⟨j,I,b⟩:=b;replace b:=dI.1 b;obtain⟨s,t,b⟩:=b;obtain⟨X,b⟩:=dQ.1 b;have a8:jG cx h2 j.u s=true:=CS (λf y z=>hl f (by show dV (fO cx mask e a) dT=some f;rw[t];exact y) z) X;have:jL h1 h2 (dV (jT cx mask e v) λv=>dV (jT cx mask e m) λm=>dV (jT cx mask e o) λo=>gJ (AG m o) (val h1 (pH (asSlice j.u s) v m o)))
   (dV (jT cx mask e v) λv=>dV (jT cx mask e m) λm=>dV (jT cx mask e o) λo=>gJ (AG m o) (val h2 (pH (asSlice j.u s) v m o))):=
   jL.dV λ_ _=>jL.dV λ_ _=>jL.dV λ_ _=>jL.gJ jL.val
  obtain⟨P,aN⟩:=this c g b;refine⟨P,?_⟩;show(dV (cx.ty d) λj=>dV (fO cx mask e a) λa=>gJ (jG cx h2 j.u a)<|dV (jT cx mask e v) λv=>dV (jT cx mask e m) λm=>dV (jT cx mask e o) λo=>
   gJ (AG m o) (val h2 (pH (asSlice j.u a) v m o)))=some (.val c h2)
  rw[I,t];simp_all
 |binOp k d a M C=>
  left;have:jL h1 h2 (jr (.binOp k d a M C) cx mask e h1) (jr (.binOp k d a M C) cx mask e h2):=by
   cases k<;>simp only[jr,Xp,NR]<;>first
    |exact jL.dV λ_ _=>jL.dV λ_ _=>jL.dV λ_ _=>jL.gJ (jL.dV λ_ _=>jL.val)
    |exact jL.dV λ_ _=>jL.dV λ_ _=>jL.val
  exact this c g b
 |move a=>left;exact(show jL h1 h2 (jr (.move a) cx mask e h1) (jr (.move a) cx mask e h2)from jL.val) c g b
 |assign a=>left;exact(show jL h1 h2 (jr (.assign a) cx mask e h1) (jr (.assign a) cx mask e h2)from jL.val) c g b
 |pick w i f=>
  left;have:jL h1 h2 (jr (.pick w i f) cx mask e h1) (jr (.pick w i f) cx mask e h2):=by
   simp only[jr,FV];refine jL.dV λc _=>?_;cases c<;>first|exact jL.none|simp[jL.val,jL.bool]
  exact this c g b
 |build d L=>
  left;have:jL h1 h2 (jr (.build d L) cx mask e h1) (jr (.build d L) cx mask e h2):=by
   simp only[jr,AS];refine jL.dV λj _=>jL.dV λ_ _=>?_;cases j.u<;>first|exact jL.none|exact jL.dV λ_ _=>jL.val|simp[jL.val,jL.dV]
  exact this c g b
 |nilCheck a=>
  left;have:jL h1 h2 (jr (.nilCheck a) cx mask e h1) (jr (.nilCheck a) cx mask e h2):=by
   simp only[jr,rQ];refine jL.dV λc _=>?_;cases c<;>first|exact jL.none|exact jL.some
  exact this c g b
 |unOp k d a=>left;exact(show jL h1 h2 (jr (.unOp k d a) cx mask e h1) (jr (.unOp k d a) cx mask e h2)from jL.dV λ_ _=>jL.val) c g b
 |convert B x a=>
  left;have b:(dV (cx.ty B) λ_=>dV (fO cx mask e a) λi=>dV (cx.ty x) λF=>match F.u with
   | .slice _=>val h1 (Et cx x i)
   | .str=>(match i with
    | .str _=>val h1 (conv cx x i)
    |_=>val h1 (HL cx h1 B i))
   |_=>val h1 (conv cx x i))=some (.val c g):=b
  show g=h1/\(dV (cx.ty B) λ_=>dV (fO cx mask e a) λi=>dV (cx.ty x) λF=>match F.u with
   | .slice _=>val h2 (Et cx x i)
   | .str=>(match i with
    | .str _=>val h2 (conv cx x i)
    |_=>val h2 (HL cx h2 B i))
   |_=>val h2 (conv cx x i))=some (.val c h2)
  obtain⟨bs,ap,b⟩:=dI.1 b;obtain⟨s,t,b⟩:=dI.1 b;obtain⟨a6,al,b⟩:=dI.1 b;rw[ap,t,al];simp only[ed];have Y:∀{C:T},HL cx h1 B s=some C->HL cx h2 B s=some C:=by
   intro C q;unfold HL at q|-;obtain⟨t2,ae,q⟩:=dI.1 q;rw[ae];simp only[ed];cases aA:t2.u<;>rw[aA]at q<;>simp only[reduceCtorEq]at q|-;obtain⟨R,an,q⟩:=dI.1 q;rw[an];simp only[ed];cases aE:R.u<;>rw[aE]at q<;>simp only[reduceCtorEq]at q|-;obtain⟨S,q⟩:=dQ.1 q;rw[S,iH];obtain⟨a7,V,q⟩:=dI.1 q;rw[Kv (λf y z=>hl f (by show dV (fO cx mask e a) dT=some f;rw[t];exact y) z) V];exact q
  cases av:a6.u<;>rw[av]at b<;>simp only at b|-
  case str=>
   cases s<;>simp only at b|- <;>(obtain⟨A,rfl⟩:=fT.1 b)<;>first
    |exact⟨rfl,fT.2 ⟨Y A,rfl⟩⟩
    |exact⟨rfl,fT.2 ⟨A,rfl⟩⟩
  all_goals
   obtain⟨A,rfl⟩:=fT.1 b;exact⟨rfl,fT.2 ⟨A,rfl⟩⟩
 |lookup=>exact .inl ((jL.none:jL h1 h2 _ _) c g b)
 |makeMap d r=>exact E Km rfl
 |mapUpdate=>grind [iF]
 |makeInterface d a=>
  left;have:jL h1 h2 (jr (.makeInterface d a) cx mask e h1) (jr (.makeInterface d a) cx mask e h2):=by
   simp only[jr,AP];refine jL.dV λj _=>?_;cases j.u<;>first|exact jL.none|exact jL.dV λ_ _=>jL.gJ jL.val
  exact this c g b
 |makeFunc G i f=>
  left;have:jL h1 h2 (jr (.makeFunc G i f) cx mask e h1) (jr (.makeFunc G i f) cx mask e h2):=by
   simp only[jr,DT];cases G<;>first
    |exact jL.none
    |(cases i.toList<;>first|exact jL.none|simp[jL.val,jL.dV])
  exact this c g b
 |fieldAddr d a p=>
  left;have:jL h1 h2 (jr (.fieldAddr d a p) cx mask e h1) (jr (.fieldAddr d a p) cx mask e h2):=by
   simp only[jr,pT];refine jL.dV λ_ _=>jL.dV λc _=>?_;cases c<;>first|exact jL.none|exact jL.dV λ_ _=>jL.some
  exact this c g b
 |field d a p=>
  left;have:jL h1 h2 (jr (.field d a p) cx mask e h1) (jr (.field d a p) cx mask e h2):=by
   simp only[jr,AR];refine jL.dV λ_ _=>jL.dV λ_ _=>jL.dV λc _=>?_;cases c<;>first|exact jL.none|simp[jL.val,jL.dV]
  exact this c g b
 |index d a D=>
  left;have:jL h1 h2 (jr (.index d a D) cx mask e h1) (jr (.index d a D) cx mask e h2):=by
   simp only[jr,AO];refine jL.dV λj _=>jL.dV λc _=>jL.dV λ_ _=>jL.dV λ_ _=>?_;cases j.u<;>first
    |exact jL.none
    |(cases c<;>first|exact jL.none|exact jL.dV λ_ _=>jL.val|grind [jL.val,jL.dV,jL.gJ])
  exact this c g b
 |extract a K=>
  left;have:jL h1 h2 (jr (.extract a K) cx mask e h1) (jr (.extract a K) cx mask e h2):=by
   simp only[jr,uE];refine jL.dV λc _=>?_;cases c<;>first|exact jL.none|exact jL.val
  exact this c g b
 |_=>first|exact(O ⟨_,rfl⟩).elim|exact absurd b (by simp[jr])
end
end
section
def Jh{c:List Nat}{b:List Edge}{d:Nat}(h:(xD c b).testBit d=true):
 ∃a∈b,Region.binds .any a=true/\(d=a.on\/(c.getD a.on 0).testBit d=true):=by
 induction b with
 |nil=>grind [xD]
 |cons a b f=>
  have h:(@Bool.rec (λ_=>Nat) (xD c b) ((xD c b)|||((1<<<a.on)|||(c.getD a.on 0))) (Region.binds .any a)).testBit d=true:=h;cases e:Region.binds .any a with
  |false=>
   rw[e]at h
   grind
  |true=>
   rw[e]at h;simp only[Nat.testBit_or,bY]at h;rcases h with h|h|h
   ·grind
   ·refine⟨a,dy,e,.inl ?_⟩;rw[Nat.one_shiftLeft,Nat.testBit_two_pow]at h
    grind
   grind
structure Cl(ops:af Oper)(listed:af Bool):Prop where
 size:listed.size=ops.size
 closed:∀j oj,ops[j]? =some oj->listed.getD j false=true->∀e∈oj.after,Region.binds .any e=true->listed.getD e.on false=true
theorem Up{ops:af Oper}{g:af Bool}(q:Cl ops g):∀(k:List Oper) (d:List Nat),(∀n:Nat,k[n]? =ops[d.length+n]?)->
 (∀(b c:Nat),d[b]? =some c->∀f,c.testBit f=true->∀i,ops[b]? =some i->(∀a∈i.after,Region.binds .any a=true->g.getD a.on false=true)->g.getD f false=true)->
 ∀(b c:Nat),(K3 k d)[b]? =some c->∀f,c.testBit f=true->∀i,ops[b]? =some i->(∀a∈i.after,Region.binds .any a=true->g.getD a.on false=true)->g.getD f false=true:=by
 intro k;induction k with
 |nil=>intro d _ l b c e;exact l b c e
 |cons i k B=>
  intro d hl l;refine B (d++[xD d i.after.toList]) (λn=>?_) ?_
  ·have:=hl (n+1);simp only[df]at this;rw[this];congr 1;simp;omega
  ·intro b c e f u C m s;by_cases v:b<d.length
   ·rw[cK v]at e;exact l b c e f u C m s
   ·rw[cV J]at e;have z:b=d.length:=by
     rcases Nat.eq_or_lt_of_le (Nat.le_of_not_lt v)with h|h
     ·exact h.symm
     ·rw[bK dz]at e;simp at e
    subst z;simp at e;subst e;have r:=hl 0;simp at r;rw[<-r]at m;simp at m;subst m;have⟨a,x,w,j⟩:=Jh u;have o:=s a (by simpa using x) w;rcases j with rfl|j
    ·exact o
    ·have y:a.on<g.size:=by
      rcases aR a.on g.size with h|h
      ·exact h
      ·simp[Array.getElem?_eq_none h]at o
     have A:a.on<ops.size:=by rw[<-q.size];exact y
     have t:ops[a.on]? =some ops[a.on]:=by simp[A]
     cases p:d[a.on]? with
     |none=>rw[cE,p]at j;simp at j
     |some c=>
      rw[cE,p]at j;exact l a.on c p f j ops[a.on] t (q.closed a.on _ t o)
def Dk{ops:af Oper}{a:af Bool}(g:Cl ops a){d e:Nat}{f:Oper}(c:jQ ops d e=true)(i:ops[e]? =some f)
 (h:∀b∈f.after,Region.binds .any b=true->a.getD b.on false=true):a.getD d false=true:=by
 unfold jQ at c;rw[cE]at c
 grind [Up,K3]
def o8:Op->Bool
 | .store .. =>true
 |_=>false
def ph(ops:af Oper):Bool:=
 let e:=K3 ops.toList []
 let d:=ops.toList.zipIdx
 d.all λa=>(a.1.after.toList.all λc=> !Region.binds .any c||Nat.blt c.on a.2)&&
  d.all λb=> !Nat.blt b.2 a.2||(b.1.apart ops a.1&&(!(iF b.1.op&&iF a.1.op)||(o8 b.1.op&&o8 a.1.op)))||(e.getD a.2 0).testBit b.2
def mem_zipIdx{ops:af Oper}{a:Nat}{b:Oper}(c:ops[a]? =some b):(b,a)∈ops.toList.zipIdx:=by
 rw[dc];exact⟨a,by simp[c]⟩
def KO{ops:af Oper}(e:ph ops=true){b:Nat}{c:Oper}(f:ops[b]? =some c):∀a∈c.after,Region.binds .any a=true->a.on<b:=by
 intro a i h;unfold ph at e;have d:=List.all_eq_true.1 e (c,b) (mem_zipIdx f);simp only[aB]at d;have g:=List.all_eq_true.1 d.1 a (by grind);simp_all
def IZ{ops:af Oper}(g:ph ops=true){b c:Nat}{d e:Oper}(i:ops[b]? =some d)(j:ops[c]? =some e)(l:b<c):
 (d.apart ops e=true/\(iF d.op=true->iF e.op=true->o8 d.op=true/\o8 e.op=true))\/jQ ops b c=true:=by
 unfold ph at g;have f:=List.all_eq_true.1 g (e,c) (mem_zipIdx j);simp only[aB]at f;have a:=List.all_eq_true.1 f.2 (d,b) (mem_zipIdx i);have h:Nat.blt b c=true:=by rw[aJ];omega
 simp only[h,Bool.not_true,Bool.false_or,bY,aB,cg,Bool.and_eq_false_iff]at a;rcases a with⟨a,k⟩|a
 ·grind
 ·right;exact a
section
variable {cx:Ctx}{cf:jd}{mask:Nat}{ops:af Oper}
def pz(mask:Nat)(ops:af Oper)(c:Nat->Env)(b:Nat):Prop:=∃a,ops[b]? =some a/\iF a.op=true/\kE ops mask (c b) a.guard=some true
def yc(cx:Ctx)(mask:Nat)(ops:af Oper)(c:Nat->Env)(d:Nat->H)(a e:Nat):Prop:=
 ∃b,ops[a]? =some b/\iF b.op=false/\kE ops mask (c a) b.guard=some true/\hU cx mask (c a) (d a) b.op=some e
def VR(cx:Ctx)(mask:Nat)(ops:af Oper)(c:Nat->Env)(a e:Nat):Prop:=
 ∃b f d g,ops[a]? =some b/\b.op= .store f d g/\kE ops mask (c a) b.guard=some true/\dV (fO cx mask (c a) d) dT=some e
structure Trace(cx:Ctx)(cf:jd)(mask:Nat)(ops:af Oper)(E:Nat->Env)(Hs:Nat->H):Prop where
 step:∀k o,ops[k]? =some o->lH cx cf mask ops (E k) (Hs k) o=some (E (k+1),Hs (k+1))
 ahead:∀k k' b,yc cx mask ops E Hs k b->pz mask ops E k'->k<k'->fk (Hs k') (Hs (k'+1)) b=true\/jQ ops k k'=true
 behind:∀k k' b,yc cx mask ops E Hs k b->pz mask ops E k'->k'<k->fk (Hs k') (Hs (k'+1)) b=true\/jQ ops k' k=true
 both:∀k k' b,VR cx mask ops E k b->pz mask ops E k'->k'<k->fk (Hs k') (Hs (k'+1)) b=true\/jQ ops k' k=true
def yF{a b:Bool}(c: @Bool.rec (λ_=>Bool) b true a=true):a=true\/b=true:=by cases a<;>simp_all
def yQ{e:Oper}{k:List Oper}{c:Nat}{d:Seen}{g n:Env}{a o:H}(b:j7 cx cf mask ops (e::k) c d g a=some (n,o)):
 ∃h f j,lH cx cf mask ops g a e=some (h,f)/\kE ops mask g e.guard=some j/\
  ∃m,j7 cx cf mask ops k (c+1) m h f=some (n,o)/\(∀l∈d.mJ,l∈m.mJ)/\(∀l∈d.lf,l∈m.lf)/\
   (j=true->iF e.op=true->xV ops c a f d.mJ=true/\(c,a,f)∈m.lf/\rD cx mask ops c g d.lf e.op=true)/\
   (j=true->iF e.op=false->∀i,hU cx mask g a e.op=some i->oF ops c i d.lf=true/\(c,i)∈m.mJ):=by
 have b:(dV (lH cx cf mask ops g a e) λl=>two l λh f=>
  dV (kE ops mask g e.guard) λj=> @Bool.rec (λ_=>aa (Env×H)) (j7 cx cf mask ops k (c+1) d h f)
   (@Bool.rec (λ_=>aa (Env×H))
     (@Option.rec Nat (λ_=>aa (Env×H)) (j7 cx cf mask ops k (c+1) d h f)
       (λi=>gJ (oF ops c i d.lf) (j7 cx cf mask ops k (c+1) ⟨(c,i)::d.mJ,d.lf⟩ h f)) (hU cx mask g a e.op))
     (gJ (xV ops c a f d.mJ) (gJ (rD cx mask ops c g d.lf e.op) (j7 cx cf mask ops k (c+1) ⟨d.mJ,(c,a,f)::d.lf⟩ h f))) (iF e.op)) j)=some (n,o):=b
 replace b:=dI.1 b;obtain⟨⟨h,f⟩,r,b⟩:=b;simp only[kN]at b;replace b:=dI.1 b;obtain⟨j,s,b⟩:=b;refine⟨h,f,j,r,s,?_⟩;cases j with
 |false=>grind
 |true=>
  cases q:iF e.op with
  |true=>
   rw[q]at b
   grind [dQ]
  |false=>
   rw[q]at b;cases p:hU cx mask g a e.op with
   |none=>
    rw[p]at b;exact⟨d,b,λ_ a=>a,λ_ a=>a,λ_ a=>by grind,λ_ _ i a=>by grind⟩
   |some i=>
    rw[p]at b
    grind [dQ,au]
def EQ:∀(C:List Oper) (c:Nat) (s:Seen) (t D:Env) (o E:H),(∀L,C[L]? =ops[c+L]?)->j7 cx cf mask ops C c s t o=some (D,E)->
 ∃(h:Nat->Env) (i:Nat->H),h c=t/\i c=o/\h (c+C.length)=D/\i (c+C.length)=E/\
  (∀a f,c<=a->ops[a]? =some f->lH cx cf mask ops (h a) (i a) f=some (h (a+1),i (a+1)))/\
  (∀a b,c<=a->yc cx mask ops h i a b->∀g∈s.lf,fk g.2.1 g.2.2 b=true\/jQ ops g.1 a=true)/\
  (∀a,c<=a->pz mask ops h a->∀g∈s.mJ,fk (i a) (i (a+1)) g.2=true\/jQ ops g.1 a=true)/\
  (∀a d b,c<=a->yc cx mask ops h i a b->pz mask ops h d->a<d->fk (i d) (i (d+1)) b=true\/jQ ops a d=true)/\
  (∀a d b,c<=d->yc cx mask ops h i a b->pz mask ops h d->d<a->fk (i d) (i (d+1)) b=true\/jQ ops d a=true)/\
  (∀a b,c<=a->VR cx mask ops h a b->∀g∈s.lf,fk g.2.1 g.2.2 b=true\/jQ ops g.1 a=true)/\
  (∀a d b,c<=d->VR cx mask ops h a b->pz mask ops h d->d<a->fk (i d) (i (d+1)) b=true\/jQ ops d a=true):=by
 intro C;induction C with
 |nil=>
  intro c s t D o E hl F;have F:some (t,o)=some (D,E):=F;simp only[au,aD]at F;obtain⟨rfl,rfl⟩:=F;have A:∀a f,c<=a->ops[a]? =some f->False:=λa f e m=>by
   have:=hl (a-c);rw[show c+(a-c)=a by omega,m]at this;simp at this
  refine⟨λ_=>t,λ_=>o,rfl,rfl,rfl,rfl,λa f e m=>(A a f e m).elim,?_,?_,?_,?_,?_,?_⟩
  ·rintro a b e ⟨f,m,_⟩;exact(A a f e m).elim
  ·rintro a e ⟨f,m,_⟩;exact(A a f e m).elim
  ·rintro a d b e ⟨f,m,_⟩;exact(A a f e m).elim
  ·rintro a d b e _ ⟨f,m,_⟩;exact(A d f e m).elim
  ·rintro a b e ⟨f,_,_,_,m,_⟩;exact(A a f e m).elim
  ·rintro a d b e _ ⟨f,m,_⟩;exact(A d f e m).elim
 |cons f C aN=>
  intro c s t D o E hl F;have⟨V,G,bN,aE,T,U,aA,an,ap,R,av⟩:=yQ F;have N:ops[c]? =some f:=by have:=hl 0;simpa using this.symm
  have⟨h,i,aX,a6,a7,a8,bi,Y,ae,bn,bs,bB,bC⟩:=aN (c+1) U V D G E (λL=>by
   have:=hl (L+1);simp only[df]at this;rw[this];congr 1;omega) aA
  let n:Nat->Env:=λa=>if a=c then t else h a
  let u:Nat->H:=λa=>if a=c then o else i a
  have hE:∀a,a≠c->n a=h a:=λa e=>by simp[n,e]
  have p:∀a,a≠c->u a=i a:=λa e=>by simp[u,e]
  have y:n c=t:=by simp[n]
  have I:u c=o:=by simp[u]
  have al:n (c+1)=V:=by rw[hE _ J,aX]
  have Q:u (c+1)=G:=by rw[p _ J,a6]
  have M:∀a,a≠c->pz mask ops n a->pz mask ops h a:=λa e=>by unfold pz;rw[hE a e];exact id
  have O:∀a b,a≠c->yc cx mask ops n u a b->yc cx mask ops h i a b:=λa b e=>by unfold yc;rw[hE a e,p a e];exact id
  have bH:∀a b,a≠c->VR cx mask ops n a b->VR cx mask ops h a b:=λa b e=>by unfold VR;rw[hE a e];exact id
  have bu:∀b,VR cx mask ops n c b->oF ops c b s.lf=true:=by
   rintro b ⟨P,L,x,v,k,q,l,K⟩;rw[N]at k;simp only[au]at k;subst k;rw[y,T]at l;rw[y]at K;simp only[au]at l;have:=(R l (by rw[q];rfl)).2.2;rw[q]at this;have this: @Option.rec Nat (λ_=>Bool) true (λb=>oF ops c b s.lf) (dV (fO cx mask t x) dT)=true:=this;rw[K]at this;exact this
  have W:pz mask ops n c->xV ops c o G s.mJ=true/\(c,o,G)∈U.lf:=by
   rintro⟨P,k,q,l⟩;rw[N]at k;simp only[au]at k;subst k;rw[y,T]at l;simp only[au]at l;exact⟨(R l q).1,(R l q).2.1⟩
  have X:∀b,yc cx mask ops n u c b->oF ops c b s.lf=true/\(c,b)∈U.mJ:=by
   rintro b ⟨P,k,q,l,K⟩;rw[N]at k;simp only[au]at k;subst k;rw[y,T]at l;rw[y,I]at K;simp only[au]at l;exact av l q b K
  refine⟨n,u,y,I,?_,?_,?_,?_,?_,?_,?_,?_,?_⟩
  ·rw[hE _ dy,<-a7];congr 1;simp;omega
  ·rw[p _ dy,<-a8];congr 1;simp;omega
  ·intro a P e k;by_cases j:a=c
   ·subst j;rw[N]at k;simp only[au]at k;subst k;rw[y,I,al,Q];exact aE
   ·rw[hE a j,p a j,hE (a+1) J,p (a+1) J];exact bi a P J k
  ·intro a b e r g B;by_cases j:a=c
   ·subst j;have⟨q,_⟩:=X b r;exact yF (qK q g B)
   ·exact Y a b J (O a b j r) g (ap g B)
  ·intro a e w g B;by_cases j:a=c
   ·subst j;have⟨q,_⟩:=W w;rw[I,Q];exact yF (qK q g B)
   ·rw[p a j,p (a+1) J];exact ae a J (M a j w) g (an g B)
  ·intro a d b e r w S;have z:d≠c:=J;rw[p d z,p (d+1) J];by_cases j:a=c
   ·subst j;have⟨_,l⟩:=X b r;exact ae d J (M d z w) (a,b) l
   ·exact bn a d b J (O a b j r) (M d z w) S
  ·intro a d b e r w S;have j:a≠c:=J;by_cases z:d=c
   ·subst z;have⟨_,l⟩:=W w;rw[I,Q];exact Y a b J (O a b j r) (d,o,G) l
   ·rw[p d z,p (d+1) J];exact bs a d b J (O a b j r) (M d z w) S
  ·intro a b e r g B;by_cases j:a=c
   ·subst j;exact yF (qK (bu b r) g B)
   grind
  grind
def Fc(cx:Ctx)(cf:jd)(mask:Nat)(c:Env)(a:H)(f:Op)(g:T)(e:H):Prop:=
 jr f cx mask c a=some (.val g e)\/∃d b,jr f cx mask c a=some (.call d b)/\cf d b a=some (g,e)
def m9{e b:Env}{g c:H}{f:Oper}(a:lH cx cf mask ops e g f=some (b,c)):
 (kE ops mask e f.guard=some false/\e.dst mask f.dst .undef=some b/\c=g)\/
 (kE ops mask e f.guard=some true/\∃d,Fc cx cf mask e g f.op d c/\e.dst mask f.dst d=some b):=by
 replace a:=dI.1 a;obtain⟨r,q,a⟩:=a;cases r with
 |false=>
  left;have a:(dV (e.dst mask f.dst .undef) λb=>some (b,g))=some (b,c):=a;replace a:=dI.1 a;grind
 |true=>
  right;refine⟨q,?_⟩;have a:(dV (jr f.op cx mask e g) λj=> @lP.rec (λ_=>aa (Env×TI.H))
   (λd c=>dV (e.dst mask f.dst d) λb=>some (b,c))
   (λi h=>dV (cf i h g) λl=>two l λd c=>dV (e.dst mask f.dst d) λb=>some (b,c)) j)=some (b,c):=a
  replace a:=dI.1 a;obtain⟨j,n,a⟩:=a;rcases j with⟨d,m⟩|⟨i,h⟩
  ·skip
   have a:(dV (e.dst mask f.dst d) λb=>some (b,m))=some (b,c):=a;replace a:=dI.1 a;obtain⟨o,k,a⟩:=a;simp only[au,aD]at a;obtain⟨rfl,rfl⟩:=a;exact⟨d,.inl n,k⟩
  ·skip
   have a:(dV (cf i h g) λl=>two l λd c=>dV (e.dst mask f.dst d) λb=>some (b,c))=some (b,c):=a;replace a:=dI.1 a;obtain⟨⟨d,m⟩,p,a⟩:=a;simp only[kN]at a;replace a:=dI.1 a;obtain⟨o,k,a⟩:=a;simp only[au,aD]at a;obtain⟨rfl,rfl⟩:=a;exact⟨d,.inr ⟨i,h,n,p⟩,k⟩
def Eg{P:ai}{h:Nat}{a:World}{g:Mu}{j:Env}{b c:H}{i:Act}{k:Oper}{f:T}(jq:jg P cx)(o:nR P cx cf)
 (e:St cx h a.heap g b) (l:kA a.heap g mask j i.tmps) (u:Fc cx cf mask j b k.op f c):Aj P (rh cx h a g b f c) ((execOp i.eval k).run P a):=by
 rcases u with d|⟨p,m,d,s⟩
 ·exact((zi jq e l d).ran).mono λv w r=>⟨r,QL e.wf f c d⟩
 ·have⟨_,n,q,t⟩:=Ib (P:=P) e l d;rw[t];exact o p m b f c s h a g n e q
def Fc.congr{b e':Env}{c d:H}{a:Op}{f:T}(h:∀g∈a.operands,fO cx mask b g=fO cx mask e' g)(e:Fc cx cf mask b c a f d):Fc cx cf mask e' c a f d:=by
 unfold Fc at*
 rw[AB h]at e;exact e
def Kx{b:Call}{d:Env}{f:H}{e:aj}{c:List T}(a:jr (.call b) cx mask d f=some (.call e c)):iF (.call b)=true:=by
 have a:DV b cx mask d f=some (.call e c):=a;replace a:=dI.1 a;grind [iF,vD]
def IW{d:Env}{e f:H}{b:Op}{h:T}(l:iF b=false)(k:Fc cx cf mask d e b h f):jr b cx mask d e=some (.val h f):=by
 rcases k with c|⟨j,i,c,_⟩
 ·omega
 ·by_cases g:∃a,b= .call a
  ·obtain⟨a,rfl⟩:=g;rw[Kx c]at l;grind
  ·exact absurd c (Dz (λa m=>g ⟨a,m⟩) j i)
def Bf(mask:Nat)(a:Env):List Nat->fW
 | []=> .nil
 |s::b=>match a.get mask s with
  |some c=> .cons s c (Bf mask a b)
  |none=>Bf mask a b
def Ks{b:Env}{c:Nat}:∀(a:List Nat),dM (Bf mask b a) c=if c∈a then b.get mask c else none:=by
 intro a;induction a with
 |nil=>rfl
 |cons e a d=>
  unfold Bf;cases f:b.get mask e with
  |none=>
   grind
  |some g=>
   simp only[nI,d,bZ]
   grind
def C9(mask:Nat)(a:Env)(b:List Nat):Env:=⟨Bf mask a b,Bf mask a b⟩
def y8{b:Env}{a:Nat}{c:List Nat}:(C9 mask b c).get mask a=if a∈c then b.get mask a else none:=by
 show @Bool.rec (λ_=>aa T) (dM (Bf mask b c) a) (dM (Bf mask b c) a) (ks mask a)=_;rw[Ks];cases ks mask a<;>rfl
def AA{a:Env}{c:Oper}{b:ah}(h:b∈c.op.operands):fO cx mask a b=fO cx mask (C9 mask a (c.looksAt ops)) b:=by
 cases b with
 |tmp d=>
  show a.get mask d=(C9 mask a (c.looksAt ops)).get mask d;rw[y8,ar];unfold Oper.looksAt;exact cW _ (List.mem_filterMap.2 ⟨.tmp d,by grind,rfl⟩)
 |const e=>rfl
 |global g=>rfl
 |func f=>rfl
def Jx{c:Env}{a:Oper}:kE ops mask (C9 mask c (a.looksAt ops)) a.guard=kE ops mask c a.guard:=by
 cases i:a.guard with
 |none=>rfl
 |some f=>
  obtain⟨d,k⟩:=f;show(dV (dV (dV (mI ops.toList d) λa=>a.dst) λb=>(C9 mask c (a.looksAt ops)).get mask b) λh=>_)=(dV (dV (dV (mI ops.toList d) λa=>a.dst) λb=>c.get mask b) λh=>_);cases e:(dV (mI ops.toList d) λa=>a.dst)with
  |none=>rfl
  |some b=>
   simp only[ed];rw[y8,ar];unfold Oper.looksAt;refine dw _ ?_;replace e:=dI.1 e;obtain⟨f,g,j⟩:=e;rw[kP]at g;have:ops[d]? =some f:=by grind
   grind
end
end
section
def fI.conv{E:af Obj}{B C:Mu}{b:T}{r:ao}(a:fI E B b r){n:Nat}(hl:pZ n b)(s:∀c e,c<n->B c=some e->C c=some e)
 (D:∀k,nN C k->nN B k):fI E C b r:=by
 induction a with
 |undef=>exact .undef
 |bool c=>exact .bool c
 |int d R=>exact .int d R
 |str U a=>exact .str U a
 |kH=>exact .kH
 |ptr c w k P e h j x M=>cases hl with|ptr _ _ _ _ a=>exact .ptr c w k P e h (s c e a j) x M
 |jD v t off arr q fz A y i p hr g=>
  cases hl with|jD _ a=>exact .jD v t off arr q fz (λd=>A (D _ d)) y i p λd b f=>g d b f (a b (ay f))
 |nV m h=>exact .nV m h
 |dK I K m t off u V arr q fz A y z N O i p hr g=>
  cases hl with|dK _ _ a=>exact .dK I K m t off u V arr q fz (λd=>A (D _ d)) y z N O i p λd b f=>g d b f (a b (ay f))
 |gX h u=>exact .gX h u
 |arr c w S Q m e h G j x z o=>cases hl with|arr _ _ _ _ _ a=>exact .arr c w S Q m e h G (s c e a j) x z o
 |func L F l i hr g=>cases hl with|func _ _ a=>exact .func L F l i λd b f=>g d b f (a b (ay f))
 |kS=>exact .kS
 |kR=>exact .kR
 |iface q b r a g=>cases hl with|iface _ _ a=>exact .iface q b r (g a)
 |iter c e h j o=>cases hl with|iter _ a=>exact .iter c e h (s c e a j) o
 |map c e k j o=>cases hl with|map _ a=>exact .map c e k (s c e a j) o
 |nZ=>exact .nZ
 |agg v l i p hr g=>cases hl with|agg _ a=>exact .agg v l i p λd b f=>g d b f (a b (ay f))
 |tuple W l i hr g=>cases hl with|tuple _ a=>exact .tuple W l i λd b f=>g d b f (a b (ay f))
def ry.conv{u:af Obj}{r s:Mu}{e:Loc}{p:iY}(i:ry u r e p){n:Nat}(hl:∀c∈fF p.fg,pZ n c)(k:∀m e,m<n->r m=some e->s m=some e)
 (j:∀l,nN s l->nN r l):ry u s e p:=by
 refine⟨i.ep,i.sz,λa=>?_,λa=>?_⟩
 ·have h:=i.plain a;have⟨x,M,b,f,d⟩:=h.row;exact⟨⟨x,M,b,f,d.1,λa c v=>(d.2 a c v).conv (hl c (ay v)) k j⟩,h.room,h.tZ,h.size,h.scalar⟩
 ·obtain⟨t,b|⟨z,b,f,d⟩|⟨G,F,K,L,y,b,f,d,E⟩⟩:=i.iter a
  ·grind
  rotate_left
  ·exact⟨t,.inr (.inr ⟨G,F,K,L,y,b,f.conv (hl _ (by rw[b];simp[fF,T.cells])) k j,d,E⟩)⟩
  ·refine⟨t,.inr (.inl ⟨z,b,f,λl q w=>?_⟩)⟩;have⟨a,c,I,o,A,B,C,D⟩:=d l q w;have g:=hl q (List.mem_flatMap.2 ⟨q,ay w,by rw[o];simp[T.cells]⟩);rw[o]at g;cases g with|tuple _ g=>exact⟨a,c,I,o,A,B,C.conv (g a dy) k j,D.conv (g c dy) k j⟩
def pZ.mono{n c:Nat}{d:T}(a:pZ n d)(g:n<=c):pZ c d:=by
 induction a with
 |ptr b e h i a=>exact .ptr _ _ _ _ J
 |arr b e k j f a=>exact .arr _ _ _ _ _ J
 |iter b a=>exact .iter _ J
 |map b a=>exact .map _ J
 |_=>constructor<;>assumption
def St.congr{cx:Ctx}{f:Nat}{h:af Obj}{e:Mu}{g c:H}(a:St cx f h e g)(j:c.fH.length=c.size)(l:∀b d,e b=some d->c.get b=g.get b):St cx f h e c:=
 ⟨j,a.fit,λb d i=>by have⟨o,k,m⟩:=a.box b d i;grind,a.inj,a.low,a.apart,a.rm,a.zI⟩
def H.get_some{a:H}(e:a.fH.length=a.size){b:Nat}(c:b<a.size):∃d,a.get b=some d:=by
 rw[H.get_eq,ar c];exact⟨a.fH[a.size-1-b]' J,dy⟩
def vd(Hs:Nat->H)(a:Nat):Nat->Nat
 |0=>0
 |k+1=>if a<(Hs k).size then vd Hs a k else k+1
def He(Hs:Nat->H)(a n:Nat):vd Hs a n<=n:=by
 induction n with
 |zero=>simp[vd]
 |succ n b=>unfold vd;split<;>omega
def XS{Hs:Nat->H}{a:Nat}{n:Nat}(d:∀b,b<n->(Hs b).size<=(Hs (b+1)).size)(c:a<(Hs n).size):a<(Hs (vd Hs a n)).size:=by
 induction n with
 |zero=>exact c
 |succ n e=>
  grind [vd]
theorem T2{Hs:Nat->H}{c:Nat}:∀{n p:Nat},p<vd Hs c n->(∀b,b<n->(Hs b).size<=(Hs (b+1)).size)->(Hs p).size<=c:=by
 intro n;induction n with
 |zero=>simp[vd]
 |succ n i=>
  intro p d f;unfold vd at d;split at d
  ·grind
  ·rename_i h;have:∀a,p+a=n->(Hs p).size<=(Hs n).size:=by
    intro a;induction a generalizing p with
    |zero=>intro e;rw[show p=n by omega];omega
    |succ a g=>
     intro e;have:=f p J;have:=g (p:=p+1) J J;omega
   have:=this (n-p) J;omega
section
variable {Hs:Nat->H}{n:Nat}
def nz(f:∀c,c<n->(Hs c).size<=(Hs (c+1)).size){b d:Nat}(e:b<=d)(j:d<=n):(Hs b).size<=(Hs d).size:=by
 obtain⟨a,rfl⟩:=Nat.exists_eq_add_of_le e;clear e;induction a with
 |zero=>simp
 |succ a g=>
  have h:=g J;have i:=f (b+a) J;have:b+(a+1)=b+a+1:=J;rw[this];omega
def lj(c:∀a,a<n->(Hs a).size<=(Hs (a+1)).size){b a:Nat}(e:b<(Hs n).size)(f:a<=n):b<(Hs a).size↔vd Hs b n<=a:=by
 constructor
 ·grind [vd,aR,T2]
 ·intro d;have:=XS c e;have:=nz c d f;omega
def mr(l:∀a,a<n->(Hs a).size<=(Hs (a+1)).size){c b e:Nat}(g:b<=e)(f:∀a,b<=a->a<e->(Hs (a+1)).get c=(Hs a).get c):(Hs e).get c=(Hs b).get c:=by
 obtain⟨d,rfl⟩:=Nat.exists_eq_add_of_le g;clear g;induction d with
 |zero=>rfl
 |succ d k=>
  have i:=k λa h c=>f a h J;have j:=f (b+d) J J;have:b+(d+1)=b+d+1:=J;rw[this,j,i]
end
def PH(Hs:Nat->H)(n:Nat)(b:Nat->Nat):H:=
 ⟨(Hs n).size,0,(List.range (Hs n).size).reverse.map λa=>((Hs (max (b a) (vd Hs a n))).get a).getD default⟩
def F9(Hs:Nat->H)(n:Nat)(a:Nat->Nat):(PH Hs n a).fH.length=(PH Hs n a).size:=by simp[PH]
def Yq{Hs:Nat->H}{n a:Nat}{c:Nat->Nat}(g:∀b,b<n->(Hs b).size<=(Hs (b+1)).size)(i:∀b,b<=n->(Hs b).fH.length=(Hs b).size)(j:c a<=n)(d:a<(Hs n).size):
 (PH Hs n c).get a=(Hs (max (c a) (vd Hs a n))).get a:=by
 have e:max (c a) (vd Hs a n)<=n:=by have:=He Hs a n;omega
 have f:a<(Hs (max (c a) (vd Hs a n))).size:=(lj g d e).2 J;have⟨l,k⟩:=H.get_some (i _ e) f;rw[H.get_eq];have h:(PH Hs n c).size=(Hs n).size:=rfl;rw[h,ar d];show((List.range (Hs n).size).reverse.map λa=>((Hs (max (c a) (vd Hs a n))).get a).getD default)[(Hs n).size-1-a]? =_;rw[aS,List.getElem?_reverse (by grind)];have:(List.range (Hs n).size).length-1-((Hs n).size-1-a)=a:=by grind
 rw[this]
 grind
def sP(b:af Oper)(a:af Bool)(c:Nat):Nat->Nat
 |0=>0
 |k+1=>if a.getD k false=true/\(b[k]?).bind (·.dst)=some c then k+1 else sP b a c k
theorem zr{ops:af Oper}{listed:af Bool}{s:Nat}:∀(n:Nat),sP ops listed s n=0\/∃a,sP ops listed s n=a+1/\a<n/\listed.getD a false=true/\(ops[a]?).bind (·.dst)=some s:=by
 intro n;induction n with
 |zero=>left;rfl
 |succ n b=>
  unfold sP
  grind
def Ko{ops:af Oper}{listed:af Bool}{s:Nat}:∀{n a:Nat},a<n->listed.getD a false=true->(ops[a]?).bind (·.dst)=some s->a+1<=sP ops listed s n:=by
 intro n;induction n with
 |zero=>omega
 |succ n e=>
  intro a d b c;unfold sP
  grind
def Xd{ops:af Oper}{listed:af Bool}{s:Nat}(n:Nat):sP ops listed s n<=n:=by
 rcases zr (ops:=ops) (listed:=listed) (s:=s) n with a|⟨d,b,c,_⟩<;>omega
def NG{b:af Oper}{e f:af Bool}{c:Nat}:∀{n:Nat},(∀a,a<n->(b[a]?).bind (·.dst)=some c->f.getD a false=e.getD a false)->sP b f c n=sP b e c n:=by
 intro n;induction n with
 |zero=>intro _;rfl
 |succ n d=>
  intro g;have d:=d λa h=>g a J
  grind [sP]
end
section
structure Dr(P:ai)(cx:Ctx)(cf:jd)(base mask m:Nat)(ops:af Oper)(E:Nat->Env)(Hs:Nat->H)(ws:World)(oa:Mu):Prop where
 jq:jg P cx
 ck:nR P cx cf
 dst:Ga m ops
 tr:Trace cx cf mask ops E Hs
 qT:St cx base ws.heap oa (Hs 0)
 Fv:∀i j oi oj,ops[i]? =some oi->ops[j]? =some oj->i<j->(oi.apart ops oj=true/\(iF oi.op=true->iF oj.op=true->o8 oi.op=true/\o8 oj.op=true))\/jQ ops i j=true
 back:∀j o,ops[j]? =some o->∀e∈o.after,Region.binds .any e=true->e.on<j
 ae1:∀k,k<=ops.size->∀s v,(E k).get mask s=some v->pZ (Hs k).size v
 abA:∀k,k<=ops.size->∀b x,(oa b≠none\/(Hs 0).size<=b)->(Hs k).get b=some x->∀v∈fF x.fg,pZ (Hs k).size v
 grow:∀k,k<ops.size->lr (Hs k) (Hs (k+1))
 wf:∀k,k<=ops.size->(Hs k).fH.length=(Hs k).size
structure Inv(cx:Ctx)(base mask m:Nat)(ops:af Oper)(E:Nat->Env)(Hs:Nat->H)(ws:World)(oa:Mu)(listed:af Bool)(a:Act)(w:World)(μ:Mu)(q:Nat->Nat):Prop where
 cl:Cl ops listed
 size:a.tmps.size=m
 NY:a.defers=[]
 Ju:∀b,q b<=ops.size
 lf:∀k b,pz mask ops E k->b<(Hs k).size->fk (Hs k) (Hs (k+1)) b=false->(listed.getD k false=true↔k<q b)
 st:St cx base w.heap μ (PH Hs ops.size q)
 ON:∀s v,(E (sP ops listed s ops.size)).get mask s=some v->fI w.heap μ v (a.tmps.getD s Go.undef)
 TR:∀b,μ b≠none↔(oa b≠none\/((Hs 0).size<=b/\b<(Hs ops.size).size/\listed.getD (vd Hs b ops.size-1) false=true))
 ext:p7 ws oa w μ
section
variable {P:ai}{cx:Ctx}{cf:jd}{base mask m:Nat}{ops:af Oper}{E:Nat->Env}{Hs:Nat->H}{ws w:World}{oa μ:Mu}{listed:af Bool}{a:Act}{q:Nat->Nat}
def Dr.mono(c:Dr P cx cf base mask m ops E Hs ws oa):∀b,b<ops.size->(Hs b).size<=(Hs (b+1)).size:=λb d=>(c.grow b d).size
def Dr.lt0(c:Dr P cx cf base mask m ops E Hs ws oa){b:Nat}(e:oa b≠none):b<(Hs 0).size:=by
 have⟨f,d⟩:=Option.ne_none_iff_exists'.1 e;exact c.qT.fh d
def Dr.still(g:Dr P cx cf base mask m ops E Hs ws oa){b d:Nat}(p:b<ops.size)(n:d<(Hs b).size)(h:¬pz mask ops E b):(Hs (b+1)).get d=(Hs b).get d:=by
 have f:ops[b]? =some ops[b]:=dy;rcases m9 (g.tr.step b _ f)with⟨_,_,c⟩|⟨i,r,k,_⟩
 ·rw[c]
 ·have e:iF ops[b].op=false:=by
   cases c:iF ops[b].op with
   |false=>rfl
   |true=>exact absurd ⟨_,f,c,i⟩ h
  rcases Ia (h2:=Hs b) e (λ_ _ _=>rfl) (IW e k)with⟨c,_⟩|⟨l,s,_,_,_,c,_⟩
  ·rw[c]
  grind [H.nj]
def Dr.ver(d:Dr P cx cf base mask m ops E Hs ws oa){b c:Nat}(g:b<ops.size)(f:c<(Hs b).size)(n:fk (Hs b) (Hs (b+1)) c=true):(Hs (b+1)).get c=(Hs b).get c:=by
 have⟨k,e⟩:=H.get_some (d.wf b J) f;have⟨p,i,h⟩:=(d.grow b g).ver c k e;rcases h with rfl|l
 ·rw[e,i]
 simp_all[fk]
def Dr.same(d:Dr P cx cf base mask m ops E Hs ws oa){b c:Nat}(f:b<ops.size)(e:c<(Hs b).size)(i:pz mask ops E b->fk (Hs b) (Hs (b+1)) c=false->False):(Hs (b+1)).get c=(Hs b).get c:=by
 by_cases g:pz mask ops E b
 ·cases h:fk (Hs b) (Hs (b+1)) c with
  |true=>exact d.ver f e h
  |false=>grind
 ·exact d.still f e g
def Dr.xM(c:Dr P cx cf base mask m ops E Hs ws oa){b:Nat}(e:q b<=ops.size)(d:b<(Hs ops.size).size):(PH Hs ops.size q).get b=(Hs (max (q b) (vd Hs b ops.size))).get b:=
 Yq c.mono c.wf e d
def Inv.lt(f:Dr P cx cf base mask m ops E Hs ws oa)(c:Inv cx base mask m ops E Hs ws oa listed a w μ q){b:Nat}{d:Loc}(e:μ b=some d):b<(Hs ops.size).size:=c.st.fh e
variable {j:Nat}{o:Oper}
structure MC(ops:af Oper)(listed:af Bool)(j:Nat)(o:Oper):Prop where
 op:ops[j]? =some o
 lt:j<ops.size
 not:listed.getD j false=false
 before:∀i,jQ ops i j=true->listed.getD i false=true
 behind:∀k,jQ ops j k=true->listed.getD k false=false
 ack:∀e∈o.after,Region.binds .any e=true->listed.getD e.on false=true
def IS{listed:af Bool}{b:Nat}(c:listed.getD b true=false):listed.getD b false=false:=by
 grind
def rdy(c:Cl ops listed)(k:j∈Region.ready .any ops listed):∃o,MC ops listed j o:=by
 have⟨e,o,d,f⟩:=mem_ready.1 k;have n:j<ops.size:=(Array.getElem?_eq_some_iff.1 d).1;refine⟨o,d,n,IS e,λr i=>Dk c i d f,λb l=>?_,f⟩;cases h:listed.getD b false with
 |false=>rfl
 |true=>
  have p:b<listed.size:=by
   grind
  have g:ops[b]? =some (ops[b]'(by rw[<-c.size];omega)):=by
   have:b<ops.size:=by rw[<-c.size];omega
   simp
  have:=Dk c l g (c.closed b _ g h);rw[IS e]at this;grind
def Cl.set(b:Cl ops listed)(k:MC ops listed j o):Cl ops (listed.setIfInBounds j true):=by
 refine⟨by simp[b.size],λh i g hl c e d=>?_⟩;by_cases f:j=h
 ·subst f;have:i=o:=Option.some.inj (g.symm.trans k.op);subst this;exact getD_set_true (k.ack c e d)
 ·rw[getD_set_ne false f]at hl;exact getD_set_true (b.closed h i g hl c e d)
def wa(b:Cl ops listed)(c:MC ops listed j o):(listed.setIfInBounds j true).getD j false=true:=by
 have:j<listed.size:=by rw[b.size];exact c.lt
 simp[this]
theorem Inv.dM(p:Dr P cx cf base mask m ops E Hs ws oa)(N:Inv cx base mask m ops E Hs ws oa listed a w μ q)(f:MC ops listed j o){s:Nat}(B:s∈o.looksAt ops):
 (E (sP ops listed s ops.size)).get mask s=(E j).get mask s:=by
 have F:∀b i,ops[b]? =some i->i.dst=some s->(b<j->listed.getD b false=true)/\(j<b->listed.getD b false=false):=by
  intro b i k t;refine⟨λu=>?_,λu=>?_⟩
  ·rcases p.Fv b j i o k f.op u with⟨r,_⟩|v
   ·exact absurd B ((Oper.apart_spec r).1 s t)
   ·exact f.before b v
  ·rcases p.Fv j b o i f.op k u with⟨r,_⟩|v
   ·exact absurd B ((Oper.apart_spec r).2.2 s t)
   ·exact f.behind b v
 have S:sP ops listed s ops.size<=j:=by
  rcases zr (ops:=ops) (listed:=listed) (s:=s) ops.size with h|⟨b,O,R,I,x⟩
  ·omega
  ·have e:ops[b]? =some ops[b]:=dy;rw[e]at x;have C:=F b _ e x;rcases dg b j with h|h|h
   ·omega
   ·subst h;rw[f.not]at I;grind
   grind
 have M:∀c,sP ops listed s ops.size+c<=j->(E (sP ops listed s ops.size+c)).get mask s=(E (sP ops listed s ops.size)).get mask s:=by
  intro c;induction c with
  |zero=>simp
  |succ c L=>
   intro t;have k:sP ops listed s ops.size+c<ops.size:=by have:=f.lt;omega
   have e:ops[sP ops listed s ops.size+c]? =some ops[sP ops listed s ops.size+c]:=dy;rw[<-L J];have A:ops[sP ops listed s ops.size+c].dst≠some s:=by
    intro y;have C:=(F _ _ e y).1 J;have:=Ko (n:=ops.size) k C (by rw[e];exact y);omega
   have T:∀l g,(E (sP ops listed s ops.size+c)).dst mask ops[sP ops listed s ops.size+c].dst l=some g->g.get mask s=(E (sP ops listed s ops.size+c)).get mask s:=by
    intro l g d;cases z:ops[sP ops listed s ops.size+c].dst with
    |none=>rw[z]at d;have d:some _=some g:=d;simp only[au]at d;rw[d]
    |some D=>
     rw[z]at d A;have K:s≠D:=λG=>A (by rw[G]);rw[Env.Cs (show Env.set mask _ D l=some g from d) s,aq K]
   rcases m9 (p.tr.step _ _ e)with⟨_,d,_⟩|⟨_,l,_,d⟩
   ·grind
   grind
 have:=M (j-sP ops listed s ops.size) J;rw[show sP ops listed s ops.size+(j-sP ops listed s ops.size)=j by omega]at this
 grind
def Inv.OX(d:Dr P cx cf base mask m ops E Hs ws oa)(c:Inv cx base mask m ops E Hs ws oa listed a w μ q)(f:MC ops listed j o):kA w.heap μ mask (C9 mask (E j) (o.looksAt ops)) a.tmps:=by
 intro g h b;rw[y8]at b;split at b
 ·rename_i e;exact c.ON g h (by rw[c.dM d f e];exact b)
 grind
def Inv.CR(p:Dr P cx cf base mask m ops E Hs ws oa)(g:Inv cx base mask m ops E Hs ws oa listed a w μ q)(c:MC ops listed j o){k:af Obj}{n:Mu}(I:Ext w.heap μ k n){l:T}{r:ao}
 (F:fI k n l r) (y:(E j).dst mask o.dst l=some (E (j+1))):∀s f,(E (sP ops (listed.setIfInBounds j true) s ops.size)).get mask s=some f->fI k n f ((a.put o.dst r).tmps.getD s Go.undef):=by
 intro s f d;by_cases e:o.dst=some s
 ·have i:sP ops (listed.setIfInBounds j true) s ops.size=j+1:=by
   have M:=Ko (ops:=ops) (s:=s) c.lt (wa g.cl c) (by rw[c.op];exact e);rcases zr (ops:=ops) (listed:=listed.setIfInBounds j true) (s:=s) ops.size with h|⟨b,K,L,t,u⟩
   ·omega
   ·rcases dg b j with h|h|h
    ·omega
    ·omega
    ·have v:ops[b]? =some ops[b]:=dy;rw[v]at u;rw[getD_set_ne false J]at t;rcases p.Fv j b o _ c.op v h with⟨z,_⟩|D
     ·exact absurd u ((Oper.apart_spec z).2.1 s e)
     ·rw[c.behind b D]at t;grind
  rw[i]at d;rw[e]at y|-;rw[Env.Cs (show Env.set mask _ s l=some _ from y) s]at d;simp only[bA,au]at d;subst d;have B:s<a.tmps.size:=by rw[g.size];exact p.dst j o s c.op e
  simpa[Act.put,bP,B]using F
 ·have i:sP ops (listed.setIfInBounds j true) s ops.size=sP ops listed s ops.size:=by
   refine NG λb O A=>?_;have:j≠b:=by rintro rfl;rw[c.op]at A;grind
   simp_all
  rw[i]at d;have x:=(g.ON s f d).ext I;cases N:o.dst with
  |none=>exact x
  |some G=>
   have C:G≠s:=by grind
   simpa[Act.put,bP,Array.getElem?_setIfInBounds_ne C]using x
def Inv.looked(d:Dr P cx cf base mask m ops E Hs ws oa)(k:Inv cx base mask m ops E Hs ws oa listed a w μ q)(n:MC ops listed j o)(v:iF o.op=false)(I:kE ops mask (E j) o.guard=some true)
 {b:Nat} (z:hU cx mask (E j) (Hs j) o.op=some b) {e:Nat} (M:j<=e) (x:e<=ops.size) (u:b<(Hs e).size) (N:e=j\/e=j+1):
 (PH Hs ops.size q).get b=(Hs e).get b:=by
 have l:b<(Hs ops.size).size:=bD u (nz d.mono x (aw _));rw[d.xM (k.Ju _) l];have K:vd Hs b ops.size<=e:=(lj d.mono l x).1 u;have t:yc cx mask ops E Hs j b:=⟨o,n.op,v,I,z⟩;have L:¬pz mask ops E j:=by
  rintro⟨O,r,A,_⟩;rw[n.op]at r;simp only[au]at r;subst r;rw[v]at A;grind
 rcases Nat.le_total (max (q b) (vd Hs b ops.size)) e with F|B
 ·refine(mr d.mono F λc C D=>?_).symm;have f:b<(Hs c).size:=(lj d.mono l J).2 J;by_cases g:pz mask ops E c
  ·have p:c<j:=by
    grind
   cases i:fk (Hs c) (Hs (c+1)) b with
   |true=>exact d.ver J f i
   |false=>
    rcases d.tr.behind j c b t g p with h|h
    ·rw[i]at h;grind
    ·have:=(k.lf c b g f i).1 (n.before c h);omega
  ·exact d.still J f g
 ·refine mr d.mono B λc C D=>?_;have G:c<q b:=J;have s:c<ops.size:=by have:=k.Ju b;omega
  have f:b<(Hs c).size:=(lj d.mono l J).2 J;by_cases g:pz mask ops E c
  ·have p:j<c:=by
    grind
   cases i:fk (Hs c) (Hs (c+1)) b with
   |true=>exact d.ver s f i
   |false=>
    rcases d.tr.ahead j c b t g p with h|h
    ·rw[i]at h;grind
    ·have y:=(k.lf c b g f i).2 G;rw[n.behind c h]at y;grind
  ·exact d.still s f g
def Inv.want(b:Dr P cx cf base mask m ops E Hs ws oa)(c:Inv cx base mask m ops E Hs ws oa listed a w μ q)(k:MC ops listed j o){d:Bool}(g:kE ops mask (E j) o.guard=some d):
 Region.wanted o (yielded ops a.tmps)=d:=
 CI (c.OX b k) (λh i l e f=>by rw[c.size];exact b.dst h i l e f) (by rw[Jx];exact g)
def Dr.made(c:Dr P cx cf base mask m ops E Hs ws oa)(g:j<ops.size){b:Nat}(d:b<(Hs ops.size).size):vd Hs b ops.size=j+1↔((Hs j).size<=b/\b<(Hs (j+1)).size):=by
 have e:=lj c.mono d (show j<=ops.size by omega);have f:=lj c.mono d (show j+1<=ops.size by omega);omega
def Dr.cr0(c:Dr P cx cf base mask m ops E Hs ws oa){b:Nat}(d:b<(Hs ops.size).size)(e:(Hs 0).size<=b):0<vd Hs b ops.size:=by
 rcases Nat.eq_zero_or_pos (vd Hs b ops.size)with h|h
 ·have:=(lj c.mono d (ax _)).2 J;omega
 omega
def Dr.Bq(c:Dr P cx cf base mask m ops E Hs ws oa)(f:j<ops.size){b:Nat}(d:b<(Hs ops.size).size)(e:(Hs 0).size<=b)(g:¬((Hs j).size<=b/\b<(Hs (j+1)).size)):
 (listed.setIfInBounds j true).getD (vd Hs b ops.size-1) false=listed.getD (vd Hs b ops.size-1) false:=by
 refine getD_set_ne false λh=>g ?_;have:=c.cr0 d e;exact(c.made f d).1 J 
def Inv.G8(f:Dr P cx cf base mask m ops E Hs ws oa)(k:Inv cx base mask m ops E Hs ws oa listed a w μ q)(h:MC ops listed j o)(g:(Hs (j+1)).size=(Hs j).size){i:Mu}(l:∀b,i b≠none↔μ b≠none):
 ∀b,i b≠none↔(oa b≠none\/((Hs 0).size<=b/\b<(Hs ops.size).size/\(listed.setIfInBounds j true).getD (vd Hs b ops.size-1) false=true)):=by
 intro b;rw[l,k.TR];refine or_congr Iff.rfl ⟨λ⟨c,d,e⟩=>⟨c,d,?_⟩,λ⟨c,d,e⟩=>⟨c,d,?_⟩⟩
 ·rw[f.Bq h.lt d c (by rw[g];omega)];exact e
 ·rw[f.Bq h.lt d c (by rw[g];omega)]at e;exact e
def Dx(c:MC ops listed j o)(d:iF o.op=false\/kE ops mask (E j) o.guard=some false):¬pz mask ops E j:=by
 rintro⟨g,b,e,f⟩;rw[c.op]at b;grind
def Inv.Ej(d:Inv cx base mask m ops E Hs ws oa listed a w μ q)(h:¬pz mask ops E j):
 ∀b c,pz mask ops E b->c<(Hs b).size->fk (Hs b) (Hs (b+1)) c=false->((listed.setIfInBounds j true).getD b false=true↔b<q c):=by
 intro b c f e g;have:j≠b:=by grind
 rw[getD_set_ne false this];exact d.lf b c f e g
variable {Q:Exit->Act->World->Prop}
def Inv.skip(d:Dr P cx cf base mask m ops E Hs ws oa)(b:Inv cx base mask m ops E Hs ws oa listed a w μ q)(c:MC ops listed j o)(g:kE ops mask (E j) o.guard=some false)
 (f:(E j).dst mask o.dst .undef=some (E (j+1))) (e:Hs (j+1)=Hs j):Inv cx base mask m ops E Hs ws oa (listed.setIfInBounds j true) (a.put o.dst Go.undef) w μ q:=
 ⟨b.cl.set c,by rw[Act.qu];exact b.size,by rw[Act.qv];exact b.NY,b.Ju,b.Ej (Dx c (.inr g)),b.st,
   b.CR d c (Ext.refl _ _) .undef f,b.G8 d c (by rw[e]) λ_=>Iff.rfl,b.ext⟩
def Inv.quiet(k:Dr P cx cf base mask m ops E Hs ws oa)(e:Inv cx base mask m ops E Hs ws oa listed a w μ q)(i:MC ops listed j o)(cL:kE ops mask (E j) o.guard=some true)(U:iF o.op=false){v:T}
 (a8:Fc cx cf mask (E j) (Hs j) o.op v (Hs (j+1))) (cb:(E j).dst mask o.dst v=some (E (j+1))):
 Aj P (λY O=>∃s,Inv cx base mask m ops E Hs ws oa (listed.setIfInBounds j true) (a.put o.dst Y) O s q) ((execOp a.eval o).run P w):=by
 have b9:=Dx (mask:=mask) (E:=E) i (.inl U);have ca:=IW U a8;have aA:∀A∈o.op.operands,fO cx mask (E j) A=fO cx mask (C9 mask (E j) (o.looksAt ops)) A:=λA a8=>AA a8;rw[AB aA]at ca;have ds:∀b,hU cx mask (C9 mask (E j) (o.looksAt ops)) (Hs j) o.op=some b->b<(Hs j).size->(PH Hs ops.size q).get b=(Hs j).get b:=by
  intro b c b6;rw[<-wD aA]at c;exact e.looked k i U cL c (aw _) (bp i.lt) b6 (.inl rfl)
 rcases Ia U ds ca with⟨ae,a6⟩|⟨f,A,F,c,eh,ae,a6⟩
 ·
  refine((zi k.jq e.st (e.OX k i) a6).ran).mono λY O av=>?_;obtain⟨s,y,t,x,N⟩:=av;refine⟨s,e.cl.set i,by rw[Act.qu];exact e.size,by rw[Act.qv];exact e.NY,e.Ju,e.Ej b9,t,e.CR k i x.ext y cb,?_,e.ext.trans x⟩;refine e.G8 k i (by rw[ae]) λb=>⟨λc=>?_,λc=>?_⟩
  ·rcases N.2.1 b c with h|h
   ·exact h
   ·omega
  ·have⟨d,M⟩:=Option.ne_none_iff_exists'.1 c;have⟨X,al,_⟩:=x.ext.mu b d M;rw[al];simp
 ·
  subst eh;have ap:(PH Hs ops.size q).size=(Hs ops.size).size:=rfl;have cp:(Hs (j+1)).size=(Hs j).size+1:=by rw[ae];rfl
  have bH:(Hs j).size<(Hs ops.size).size:=by
   have:=nz k.mono (show j+1<=ops.size from i.lt) (aw _);omega
  have bB:(Hs 0).size<=(Hs j).size:=nz k.mono (ax _) (bp i.lt);have bN:vd Hs (Hs j).size ops.size=j+1:=(k.made i.lt bH).2 ⟨aw _,J⟩;have eD:μ (Hs j).size=none:=by
   cases dv:μ (Hs j).size with
   |none=>rfl
   |some d=>
    exfalso;rcases(e.TR (Hs j).size).1 (by rw[dv];simp)with h|⟨_,_,h⟩
    ·have:=k.lt0 h;omega
    ·rw[bN]at h;simp only[Nat.add_sub_cancel]at h;rw[i.not]at h;grind
  have dm:(Hs (j+1)).get (Hs j).size=some A:=by rw[ae];exact H.tV (k.wf j (bp i.lt)) A
  have eb:(PH Hs ops.size q).get (Hs j).size=some A:=by
   rw[<-wD aA]at c;rw[e.looked k i U cL c (show j<=j+1 by omega) i.lt J (.inr rfl)];omega
  refine((zi k.jq e.st (e.OX k i) a6).ran).mono λY O av=>?_;obtain⟨s,y,t,x,N⟩:=av;rw[ap]at y N;have di:((PH Hs ops.size q).cons A).size=(Hs ops.size).size+1:=rfl;rw[di]at N;have eu:s (Hs ops.size).size≠none:=N.2.2 _ (aw _) J;have b7:∀b d,μ b=some d->b<(Hs ops.size).size:=λb d c=>e.st.fh c;have bS:∀b,b≠(Hs ops.size).size->(s b≠none↔μ b≠none):=by
   intro b eB;constructor
   ·intro c;rcases N.2.1 b c with h|h
    ·exact h
    ·omega
   ·intro c;have⟨d,M⟩:=Option.ne_none_iff_exists'.1 c;have⟨X,al,_⟩:=x.ext.mu b d M;rw[al];simp
  have et:s (Hs j).size=none:=by
   grind
  have⟨ey,eA⟩:=Option.ne_none_iff_exists'.1 eu
  let B:Mu:=⟨λb=>if b=(Hs j).size then s (Hs ops.size).size else if b=(Hs ops.size).size then none else s b,s.py⟩
  have C:B (Hs j).size=s (Hs ops.size).size:=by grind
  have S:B (Hs ops.size).size=none:=by
   have:(Hs ops.size).size≠(Hs j).size:=J
   grind
  have L:∀b,b≠(Hs j).size->b≠(Hs ops.size).size->B b=s b:=λb p r=>by grind
  have bT:∀K,nN B K->nN s K:=by
   rintro K (⟨b,d,c,hl⟩|hr)
   ·by_cases p:b=(Hs j).size
    ·subst p;rw[C]at c;exact .inl ⟨_,d,c,hl⟩
    ·by_cases r:b=(Hs ops.size).size
     ·subst r;rw[S]at c;grind
     ·rw[L b p r]at c;exact .inl ⟨b,d,c,hl⟩
   ·exact .inr hr
  have b8:∀b d,b<(Hs ops.size).size->s b=some d->B b=some d:=by
   intro b d c M;have p:b≠(Hs j).size:=by rintro rfl;rw[et]at M;grind
   rw[L b p J];exact M
  have aN:Ext w.heap μ O.heap B:=by
   refine⟨x.ext.size,λK dn ea=>?_,λb d c=>?_,x.ext.py,x.ext.kept⟩
   ·have⟨eE,eF⟩:=x.ext.nU K dn ea
    grind
   ·have⟨X,al,eC⟩:=x.ext.mu b d c
    grind
  have ec:fI O.heap B (f (Hs j).size) Y:=by
   rcases F with F|⟨l,F⟩|F|F
   ·rw[F]at y|-;cases y with|ptr _ _ _ _ d R c aE c9=>exact .ptr _ _ _ _ d R (by rw[C];exact c) aE c9
   ·rw[F]at y|-;cases y with|arr _ _ _ _ _ d R c4 c aE hl h=>exact .arr _ _ _ _ _ d R c4 (by rw[C];exact c) aE hl h
   ·rw[F]at y|-;cases y with|iter _ d R c h=>exact .iter _ d R (by rw[C];exact c) h
   ·rw[F]at y|-;cases y with|map _ d K c h=>exact .map _ d K (by rw[C];exact c) h
  have ef:St cx base O.heap B (PH Hs ops.size q):=by
   refine⟨F9 _ _ _,t.fit,λb d c=>?_,λb c1 d X c dd hl=>?_,λb d c=>?_,λb d c=>?_,t.rm,λg c6 dk=>?_⟩
   ·by_cases p:b=(Hs j).size
    ·subst p;rw[C]at c;have⟨W,V,aX⟩:=t.box _ d c;have eo:W=A:=by
      have:=H.tV (F9 Hs ops.size q) A;rw[ap,V]at this
      grind
     subst eo;refine⟨W,eb,aX.conv (n:=(Hs ops.size).size) (λu a7=>?_) b8 bT⟩;exact(k.abA (j+1) i.lt _ W (.inr bB) dm u a7).mono J
    ·by_cases r:b=(Hs ops.size).size
     ·subst r;rw[S]at c;grind
     ·rw[L b p r]at c;have⟨W,V,aX⟩:=t.box b d c;have de:μ b≠none:=(bS b r).1 (by rw[c];simp);have⟨bn,bC⟩:=Option.ne_none_iff_exists'.1 de;have b6:=b7 b bn bC;rw[H.nj (by rw[ap];omega)]at V;refine⟨W,V,aX.conv (n:=(Hs ops.size).size) (λu a7=>?_) b8 bT⟩;have⟨z,bi,er⟩:=e.st.box b bn bC;rw[V]at bi;simp only[au]at bi;subst bi;exact er.low b7 u a7
   ·have bs:∀b d,B b=some d->(b=(Hs j).size/\s (Hs ops.size).size=some d)\/(b≠(Hs j).size/\b≠(Hs ops.size).size/\s b=some d):=by
     grind
    rcases bs b d c with⟨G,D⟩|⟨G,D,I⟩<;>rcases bs c1 X dd with⟨c7,an⟩|⟨c7,an,bu⟩
    ·omega
    ·exact absurd (t.inj _ _ _ _ D bu hl).symm an
    ·exact absurd (t.inj _ _ _ _ I an hl) D
    ·exact t.inj _ _ _ _ I bu hl
   ·by_cases p:b=(Hs j).size
    ·subst p;rw[C]at c;exact t.low _ _ c
    ·by_cases r:b=(Hs ops.size).size
     ·subst r;rw[S]at c;grind
     ·rw[L b p r]at c;exact t.low _ _ c
   ·by_cases p:b=(Hs j).size
    ·subst p;rw[C]at c;exact t.apart _ _ c
    ·by_cases r:b=(Hs ops.size).size
     ·subst r;rw[S]at c;grind
     ·rw[L b p r]at c;exact t.apart _ _ c
   ·exact(e.st.zI g c6 dk).ext aN
  refine⟨B,e.cl.set i,by rw[Act.qu];exact e.size,by rw[Act.qv];exact e.NY,e.Ju,e.Ej b9,ef,e.CR k i aN ec cb,λb=>?_,
   e.ext.trans ⟨aN,x.os,x.tape,x.output⟩⟩
  by_cases p:b=(Hs j).size
  ·subst p;refine⟨λ_=> .inr ⟨bB,bH,?_⟩,λ_=>by rw[C];omega⟩;rw[bN];exact wa e.cl i
  ·by_cases r:b=(Hs ops.size).size
   ·subst r;refine⟨λh=>absurd S h,λh=>?_⟩;rcases h with h|⟨_,h,_⟩
    ·have:=k.lt0 h;omega
    ·omega
   ·rw[L b p r,bS b r,e.TR];refine or_congr Iff.rfl ⟨λ⟨G,D,I⟩=>⟨G,D,?_⟩,λ⟨G,D,I⟩=>⟨G,D,?_⟩⟩
    ·rw[k.Bq i.lt D G (by rw[cp];omega)];exact I
    ·rw[k.Bq i.lt D G (by rw[cp];omega)]at I;exact I
def Inv.ae2(k:Dr P cx cf base mask m ops E Hs ws oa)(f:Inv cx base mask m ops E Hs ws oa listed a w μ q)(F:MC ops listed j o)(ea:kE ops mask (E j) o.guard=some true)(c7:iF o.op=true)
 (ca:∀i X,ops[i]? =some X->iF X.op=true->(i<j->jQ ops i j=true)/\(j<i->jQ ops j i=true)) {v:T}
 (A:Fc cx cf mask (E j) (Hs j) o.op v (Hs (j+1))) (dm:(E j).dst mask o.dst v=some (E (j+1))):
 Aj P (λc al=>∃G,Inv cx base mask m ops E Hs ws oa (listed.setIfInBounds j true) (a.put o.dst c) al G (λ_=>j+1)) ((execOp a.eval o).run P w):=by
 have er:pz mask ops E j:=⟨o,F.op,c7,ea⟩;have bT:∀i,pz mask ops E i->i<j->listed.getD i false=true:=by
  rintro i ⟨X,K,C,_⟩ bs;exact F.before i ((ca i X K C).1 bs)
 have bS:∀i,pz mask ops E i->j<i->listed.getD i false=false:=by
  rintro i ⟨X,K,C,_⟩ bs;exact F.behind i ((ca i X K C).2 bs)
 have r:=F.lt;have ey:(Hs j).size<=(Hs (j+1)).size:=k.mono j r;have eA:(Hs (j+1)).size<=(Hs ops.size).size:=nz k.mono (show j+1<=ops.size from r) (aw _);have eh:(Hs 0).size<=(Hs j).size:=nz k.mono (ax _) (bp r);have c4:∀b,b<(Hs j).size->(PH Hs ops.size q).get b=(Hs j).get b:=by
  intro b e;have t:b<(Hs ops.size).size:=J;rw[k.xM (f.Ju _) t];have b6:vd Hs b ops.size<=j:=(lj k.mono t (bp r)).1 e;rcases Nat.le_total (max (q b) (vd Hs b ops.size)) j with de|dd
  ·refine(mr k.mono de λi bi bn=>?_).symm;have R:b<(Hs i).size:=(lj k.mono t J).2 J;refine k.same J R λC Y=>?_;have:=(f.lf i b C R Y).1 (bT i C bn);omega
  ·refine mr k.mono dd λi bi bn=>?_;have dk:=f.Ju b;have R:b<(Hs i).size:=(lj k.mono t J).2 J;refine k.same J R λC Y=>?_;have hl:=(f.lf i b C R Y).2 J;rcases Nat.eq_or_lt_of_le bi with h|h
   ·subst h;rw[F.not]at hl;grind
   grind
 have c9:∀b d,μ b=some d->b<(Hs j).size\/(Hs (j+1)).size<=b:=by
  intro b d e;rcases aR b (Hs j).size with h|h
  ·omega
  ·right;rcases aR b (Hs (j+1)).size with l|l
   ·exfalso;have t:b<(Hs ops.size).size:=J;rcases(f.TR b).1 (by rw[e];simp)with g|⟨_,_,g⟩
    ·have:=k.lt0 g;omega
    ·rw[(k.made r t).2 ⟨h,l⟩]at g;simp only[Nat.add_sub_cancel]at g;rw[F.not]at g;grind
   omega
 have c6:∀b,μ b≠none->oa b≠none\/(Hs 0).size<=b:=λb e=>by
  rcases(f.TR b).1 e with g|⟨g,_⟩
  ·grind
  omega
 let V:Mu:=⟨λb=>if b<(Hs j).size then μ b else none,λp=>μ.py p\/∃b d,(Hs j).size<=b/\μ b=some d/\d.jc=p⟩
 have bB:∀b,b<(Hs j).size->V b=μ b:=λb e=>by grind
 have O:∀b d,V b=some d->b<(Hs j).size/\μ b=some d:=by
  grind
 have an:∀p,nN V p->nN μ p:=by
  rintro p (⟨b,d,e,hl⟩|hr|⟨b,d,e,I,hl⟩)
  ·exact .inl ⟨b,d,(O b d e).2,hl⟩
  ·exact .inr hr
  ·exact .inl ⟨b,d,I,hl⟩
 have ap:∀b d,b<(Hs j).size->μ b=some d->V b=some d:=λb d e I=>by rw[bB b e];exact I
 have ef:St cx base w.heap V (Hs j):=by
  refine⟨k.wf j (bp r),f.st.fit,λb d e=>?_,λb L d B e aE hl=>?_,λb d e=>?_,λb d e=>?_,λp hr=>?_,λg aX a7=>?_⟩
  ·have⟨x,l⟩:=O b d e;have⟨U,A,K⟩:=f.st.box b d l;rw[c4 b x]at A;exact⟨U,A,K.conv (k.abA j (bp r) b U (c6 b (by rw[l];simp)) A) ap an⟩
  ·exact f.st.inj b L d B (O b d e).2 (O L B aE).2 hl
  ·exact f.st.low b d (O b d e).2
  ·rintro(hr|⟨L,B,aE,aA,hl⟩)
   ·exact f.st.apart b d (O b d e).2 hr
   ·have:=f.st.inj L b B d aA (O b d e).2 hl;have:=(O b d e).1;omega
  ·rcases hr with hr|⟨b,d,_,I,hl⟩
   ·exact f.st.rm p hr
   ·rw[<-hl];exact f.st.lt I
  ·have b7:=f.st.zI g aX a7;refine b7.conv (n:=0) ?_ (λb d e=>by omega) an;have⟨_,_,_,_,_,_,_,_,_,dn,_⟩:=b7.mf;exact .jD _ λu W=>(dn u W).2.low 0
 have ec:kA w.heap V mask (C9 mask (E j) (o.looksAt ops)) a.tmps:=by
  intro s u W;refine(f.OX k F s u W).conv (n:=(Hs j).size) ?_ ap an
  rw[y8]at W;split at W
  ·exact k.ae1 j (bp r) s u W
  grind
 have eb:=A.congr (e':=C9 mask (E j) (o.looksAt ops)) λU A=>AA A;refine(Eg k.jq k.ck ef ec eb).mono λc al c1=>?_;obtain⟨⟨G,cb,S,D,cp⟩,_⟩:=c1
 let N:Mu:=⟨λb=>if b<(Hs (j+1)).size then G b else μ b,μ.py⟩
 have a6:∀b,b<(Hs (j+1)).size->N b=G b:=λb e=>by grind
 have bC:∀b,(Hs (j+1)).size<=b->N b=μ b:=λb e=>by
  have:¬b<(Hs (j+1)).size:=J
  grind
 have bu:G.py=V.py:=D.ext.py;have et:∀b d,(Hs (j+1)).size<=b->μ b=some d->G.py d.jc:=by
  intro b d e I;rw[bu]
  grind
 have bH:∀p,nN N p->nN G p:=by
  rintro p (⟨b,d,e,hl⟩|hr)
  ·by_cases h:b<(Hs (j+1)).size
   ·rw[a6 b h]at e;exact .inl ⟨b,d,e,hl⟩
   ·rw[bC b J]at e;right;rw[<-hl];grind
  ·right;rw[bu];grind
 have b9:∀b d,G b=some d->b<(Hs (j+1)).size:=λb d e=>S.fh e;have bN:∀b d,b<(Hs (j+1)).size->G b=some d->N b=some d:=λb d e I=>by rw[a6 b e];exact I
 have aN:Ext w.heap μ al.heap N:=by
  refine⟨D.ext.size,λp a8 di=>?_,λb d e=>?_,rfl,λp a8 hr=>D.ext.kept p a8 (.inl hr)⟩
  ·have⟨y,z⟩:=D.ext.nU p a8 λh=>di (an p h)
   grind
  ·rcases c9 b d e with h|h
   ·have⟨B,aA,eu⟩:=D.ext.mu b d (ap b d h e)
    grind
   grind
 have ds:St cx base al.heap N (PH Hs ops.size (λ_=>j+1)):=by
  have ae:∀b d,N b=some d->(b<(Hs (j+1)).size/\G b=some d)\/((Hs (j+1)).size<=b/\μ b=some d):=by
   grind
  refine⟨F9 _ _ _,S.fit,λb d e=>?_,λb L d B e aE hl=>?_,λb d e=>?_,λb d e hr=>?_,λp hr=>?_,λg aX a7=>(f.st.zI g aX a7).ext aN⟩
  ·rcases ae b d e with⟨x,l⟩|⟨x,l⟩
   ·have⟨U,A,K⟩:=S.box b d l;have t:b<(Hs ops.size).size:=J;have b6:vd Hs b ops.size<=j+1:=(lj k.mono t (show j+1<=ops.size from r)).1 x;refine⟨U,?_,K.conv (K.low b9) bN bH⟩;rw[k.xM (q:=λ_=>j+1) (show j+1<=ops.size from r) t,show max (j+1) (vd Hs b ops.size)=j+1 by omega];exact A
   ·have⟨U,A,K⟩:=f.st.box b d l;have t:b<(Hs ops.size).size:=f.st.fh l;have b6:¬vd Hs b ops.size<=j+1:=λh=>by
     have:=(lj k.mono t (show j+1<=ops.size from r)).2 h;omega
    refine⟨U,?_,K.ext aN ?_⟩
    ·rw[k.xM (f.Ju _) t]at A;rw[k.xM (q:=λ_=>j+1) (show j+1<=ops.size from r) t,show max (j+1) (vd Hs b ops.size)=vd Hs b ops.size by omega];rw[<-A];refine(mr k.mono J λi bi bn=>?_).symm;have dk:=f.Ju b;have eo:=He Hs b ops.size;have R:b<(Hs i).size:=(lj k.mono t J).2 J;refine k.same J R λC Y=>?_;have hl:=(f.lf i b C R Y).2 J;rw[bS i C J]at hl;grind
    ·exact D.ext.kept d.jc (f.st.lt l) (.inr ⟨b,d,J,l,rfl⟩)
  ·rcases ae b d e with⟨x,l⟩|⟨x,l⟩<;>rcases ae L B aE with⟨cL,av⟩|⟨cL,av⟩
   ·exact S.inj b L d B l av hl
   ·exact absurd (by rw[hl];grind) (S.apart b d l)
   ·exact absurd (by rw[<-hl];grind) (S.apart L B av)
   ·exact f.st.inj b L d B l av hl
  ·rcases ae b d e with⟨x,l⟩|⟨x,l⟩
   ·exact S.low b d l
   ·exact f.st.low b d l
  ·rcases ae b d e with⟨x,l⟩|⟨x,l⟩
   ·exact S.apart b d l (by rw[bu];grind)
   ·exact f.st.apart b d l hr
  ·exact bD (f.st.rm p hr) D.ext.size
 have dv:fI al.heap N v c:=cb.conv (cb.low b9) bN bH;refine⟨N,f.cl.set F,by rw[Act.qu];exact f.size,by rw[Act.qv];exact f.NY,λ_=>r,λi b b8 _ _=>?_,ds,f.CR k F aN dv dm,λb=>?_,
  f.ext.trans ⟨aN,D.os,D.tape,D.output⟩⟩
 ·rcases dg i j with h|h|h
  ·rw[getD_set_ne false J,bT i b8 h];grind
  ·subst h;rw[wa f.cl F];simp
  ·rw[getD_set_ne false J,bS i b8 h];grind
 ·by_cases x:b<(Hs (j+1)).size
  ·rw[a6 b x];have t:b<(Hs ops.size).size:=J;by_cases l:b<(Hs j).size
   ·have:G b≠none↔μ b≠none:=by
     constructor
     ·intro e;rcases cp.2.1 b e with g|g
      ·rwa[bB b l]at g
      ·omega
     ·intro e;have⟨d,I⟩:=Option.ne_none_iff_exists'.1 e;have⟨B,aA,_⟩:=D.ext.mu b d (ap b d l I);rw[aA];simp
    rw[this,f.TR];refine or_congr Iff.rfl ⟨λ⟨y,z,M⟩=>⟨y,z,?_⟩,λ⟨y,z,M⟩=>⟨y,z,?_⟩⟩
    ·rw[k.Bq r z y J];exact M
    ·rw[k.Bq r z y J]at M;exact M
   ·refine⟨λ_=> .inr ⟨J,t,?_⟩,λ_=>cp.2.2 b J x⟩;rw[(k.made r t).2 ⟨J,x⟩];exact wa f.cl F
  ·rw[bC b J,f.TR];refine or_congr Iff.rfl ⟨λ⟨y,z,M⟩=>⟨y,z,?_⟩,λ⟨y,z,M⟩=>⟨y,z,?_⟩⟩
   ·rw[k.Bq r z y J];exact M
   ·rw[k.Bq r z y J]at M;exact M
def OH{e l f:H}{B:Ty}{c z n A:Nat}{p:T}(b:e.store B (.ptr c z n A) p=some l)(S:e.fH.length=e.size)(U:f.fH.length=f.size)(F:f.get c=e.get c):
 l.size=e.size/\(∀g,g≠c->l.get g=e.get g)/\fk e l c=false/\c<e.size/\∃d,f.store B (.ptr c z n A) p=some d/\d.size=f.size/\d.fH.length=d.size/\d.get c=l.get c/\∀g,g≠c->d.get g=f.get g:=by
 have b:gJ (Nat.beq (kY p.cells) B.size) (dV (e.get c) λD=> @iY.rec (λ_=>aa H) (λu h r exact t k=>
  gJ (Nat.beq h z) (@Bool.rec (λ_=>aa H) (dV (mI k n) λx=>dV (mG x A p.cells) λy=>dV (kO k n y) λs=>
   dV (ir (Nat.succ r)) λi=>e.put c ⟨u,h,i,exact,false,s⟩) none t)) D)=some l:=b
 have⟨V,b⟩:=dQ.1 b;replace b:=dI.1 b;obtain⟨⟨u,h,r,I,t,k⟩,v,b⟩:=b;have⟨W,b⟩:=dQ.1 b;cases t with
 |true=>grind
 |false=>
  replace b:=dI.1 b;obtain⟨x,X,b⟩:=b;replace b:=dI.1 b;obtain⟨y,Y,b⟩:=b;replace b:=dI.1 b;obtain⟨s,ae,b⟩:=b;replace b:=dI.1 b;obtain⟨i,G,b⟩:=b;have R:i=r+1:=by rw[iO]at G;grind
  have⟨p1,p2,p3,p4⟩:=Cm b S;have O:c<f.size:=H.fh (F.trans v);have C:∃d,f.put c ⟨u,h,i,I,false,s⟩=some d:=⟨_,H.wx.2 ⟨O,J,rfl⟩⟩;obtain⟨d,C⟩:=C;have⟨K,L,M,N⟩:=Cm C U;refine⟨p1,p4,?_,H.fh v,d,?_,K,L,by rw[M,p3],N⟩
  ·unfold fk;rw[v,p3];show Nat.beq r i=false;rw[R]
   grind [aG,Nat.beq]
  ·show gJ (Nat.beq (kY p.cells) B.size) (dV (f.get c) λD=> @iY.rec (λ_=>aa H) (λu h r exact t k=>
    gJ (Nat.beq h z) (@Bool.rec (λ_=>aa H) (dV (mI k n) λx=>dV (mG x A p.cells) λy=>dV (kO k n y) λs=>
     dV (ir (Nat.succ r)) λi=>f.put c ⟨u,h,i,exact,false,s⟩) none t)) D)=some d
   rw[F,v];simp_all
def Dr.OI(r:Dr P cx cf base mask m ops E Hs ws oa){c:Nat}{k:Oper}(n:ops[c]? =some k)(F:o8 k.op=true)(O:pz mask ops E c):
 ∃e,VR cx mask ops E c e/\e<(Hs c).size/\(Hs (c+1)).size=(Hs c).size/\(∀f,f≠e->(Hs (c+1)).get f=(Hs c).get f)/\fk (Hs c) (Hs (c+1)) e=false/\
  ∀d:H,d.fH.length=d.size->d.get e=(Hs c).get e->∃g,jr k.op cx mask (E c) d=some (.val .undef g)/\g.size=d.size/\g.fH.length=g.size/\g.get e=(Hs (c+1)).get e/\∀f,f≠e->g.get f=d.get f:=by
 obtain⟨ap,t,_,G⟩:=O;rw[n]at t;simp only[au]at t;subst t;have D:c<ops.size:=(Array.getElem?_eq_some_iff.1 n).1;rcases m9 (r.tr.step c _ n)with⟨R,_⟩|⟨_,h,b,_⟩
 ·rw[G]at R;grind
 ·cases u:k.op with
  |store x y z=>
   rw[u]at b;rcases b with b|⟨M,I,b,_⟩
   ·have b:(dV (cx.ty x) λp=>dV (fO cx mask (E c) y) λa=>dV (fO cx mask (E c) z) λh=>gJ h.iy (dV ((Hs c).store p a h) λl=>some (lP.val .undef l)))=some (.val h (Hs (c+1))):=b;replace b:=dI.1 b;obtain⟨p,K,b⟩:=b;replace b:=dI.1 b;obtain⟨S,A,b⟩:=b;replace b:=dI.1 b;obtain⟨av,L,b⟩:=b;have⟨X,b⟩:=dQ.1 b;replace b:=dI.1 b;obtain⟨l,B,b⟩:=b;simp only[au,lP.val.injEq]at b;obtain⟨rfl,rfl⟩:=b;cases S with
    |ptr e Y i an=>
     have C:∀d:H,d.fH.length=d.size->d.get e=(Hs c).get e->_:=λd v s=>OH B (r.wf c (bp D)) v s;have⟨T,U,V,W,_⟩:=C (Hs c) (r.wf c (bp D)) rfl;refine⟨e,⟨k,x,y,z,n,u,G,by rw[A];rfl⟩,W,T,U,V,λd v s=>?_⟩;have⟨_,_,_,_,g,ae,N⟩:=C d v s;refine⟨g,?_,N⟩;show(dV (cx.ty x) λp=>dV (fO cx mask (E c) y) λa=>dV (fO cx mask (E c) z) λh=>gJ h.iy (dV (d.store p a h) λl=>some (lP.val .undef l)))=_;rw[K,A,L];simp_all
    |_=>simp[H.store]at B
   ·exact absurd b (Dz (λf al=>by grind) M I)
  |_=>rw[u]at F;simp[o8]at F
def Inv.abB(g:Dr P cx cf base mask m ops E Hs ws oa)(i:Inv cx base mask m ops E Hs ws oa listed a w μ q)(k:MC ops listed j o)(ca:kE ops mask (E j) o.guard=some true)(C:o8 o.op=true)
 {F:T} (t:Fc cx cf mask (E j) (Hs j) o.op F (Hs (j+1))) (b6:(E j).dst mask o.dst F=some (E (j+1))):
 Aj P (λL ae=>∃G c1,Inv cx base mask m ops E Hs ws oa (listed.setIfInBounds j true) (a.put o.dst L) ae G c1) ((execOp a.eval o).run P w):=by
 have O:iF o.op=true:=by cases bB:o.op<;>rw[bB]at C<;>simp[o8]at C<;>rfl
 have R:pz mask ops E j:=⟨o,k.op,O,ca⟩;have A:=k.lt;have⟨d,aN,M,b7,bH,b9,X⟩:=g.OI k.op C R;have v:d<(Hs ops.size).size:=bD M (nz g.mono (bp A) (aw _));have K:∀b,pz mask ops E b->b<j->fk (Hs b) (Hs (b+1)) d=false->listed.getD b false=true:=by
  intro b l x e;rcases g.tr.both j b d aN l x with h|h
  ·rw[e]at h;grind
  ·exact k.before b h
 have al:∀b,pz mask ops E b->j<b->fk (Hs b) (Hs (b+1)) d=false->listed.getD b false=false:=by
  intro b l x e;have a7:=l;obtain⟨cL,V,bi,_⟩:=a7;rcases g.Fv j b o cL k.op V x with⟨_,h⟩|h
  ·have⟨y,aX,_,_,bN,_⟩:=g.OI V (h O bi).2 l;have:y=d:=by
    rcases Nat.decEq y d with bu|rfl
    ·exfalso;have z:=bN d (aY bu);unfold fk at e;rw[z]at e;cases s:(Hs b).get d with
     |none=>rw[s]at e;grind
     |some n=>
      rw[s]at e;have e:Nat.beq n.ver n.ver=false:=e;simp at e
    ·rfl
   subst this;rcases g.tr.both b j y aX R x with h|h
   ·rw[b9]at h;grind
   ·exact k.behind b h
  ·exact k.behind b h
 have dd:vd Hs d ops.size<=j:=(lj g.mono v (bp A)).1 M;have bS:(PH Hs ops.size q).get d=(Hs j).get d:=by
  rw[g.xM (i.Ju _) v];have di:=i.Ju d;rcases Nat.le_total (max (q d) (vd Hs d ops.size)) j with bs|a8
  ·refine(mr g.mono bs λb S U=>?_).symm;have r:d<(Hs b).size:=(lj g.mono v J).2 J;refine g.same J r λl e=>?_;have:=(i.lf b d l r e).1 (K b l U e);omega
  ·refine mr g.mono a8 λb S U=>?_;have r:d<(Hs b).size:=(lj g.mono v J).2 J;refine g.same J r λl e=>?_;have hl:=(i.lf b d l r e).2 J;rcases Nat.eq_or_lt_of_le S with h|h
   ·subst h;rw[k.not]at hl;grind
   grind
 have⟨c9,W,an,c7,ap,av⟩:=X (PH Hs ops.size q) (F9 _ _ _) bS;have b8:F= .undef:=by
  have⟨de,bC,_⟩:=X (Hs j) (g.wf j (bp A)) rfl;rcases t with t|⟨f,c6,t,_⟩
  ·rw[bC]at t;grind
  grind
 subst b8;have a6:∀n∈o.op.operands,fO cx mask (E j) n=fO cx mask (C9 mask (E j) (o.looksAt ops)) n:=λn t=>AA t;rw[AB a6]at W;refine((zi g.jq i.st (i.OX g k) W).ran).mono λL ae s=>?_;obtain⟨G,cb,Y,D,cp⟩:=s;refine⟨G,λc=>if c=d then j+1 else q c,i.cl.set k,by rw[Act.qu];exact i.size,by rw[Act.qv];exact i.NY,λc=>?_,λb c B r e=>?_,
  Y.congr (F9 _ _ _) λc I u=>?_,i.CR g k D.ext cb b6,i.G8 g k b7 λc=>⟨λu=>?_,λu=>?_⟩,i.ext.trans D⟩
 ·show(if c=d then j+1 else q c)<=ops.size;have:=i.Ju c;split<;>omega
 ·show _↔b<(if c=d then j+1 else q c);by_cases p:c=d
  ·subst p;rw[ar rfl];rcases dg b j with h|h|h
   ·rw[getD_set_ne false J,K b B h e];grind
   ·subst h;rw[wa i.cl k];simp
   ·rw[getD_set_ne false J,al b B h e];grind
  ·rw[aq p];have bn:j≠b:=by
    rintro rfl;have z:=bH c p;unfold fk at e;rw[z]at e;cases s:(Hs j).get c with
    |none=>rw[s]at e;grind
    |some n=>
     rw[s]at e;have e:Nat.beq n.ver n.ver=false:=e;simp at e
   rw[getD_set_ne false bn];exact i.lf b c B r e
 ·have N:c<(Hs ops.size).size:=by
   have:=Y.fh u;rw[an]at this;exact this
  have bT:(if c=d then j+1 else q c)<=ops.size:=by have:=i.Ju c;split<;>omega
  rw[g.xM (q:=λc=>if c=d then j+1 else q c) bT N];by_cases p:c=d
  ·subst p;rw[ar rfl,ap,show max (j+1) (vd Hs c ops.size)=j+1 by omega]
  ·rw[aq p,av c p,g.xM (i.Ju _) N]
 ·rcases cp.2.1 c u with h|h
  ·exact h
  omega
 ·have⟨I,aA⟩:=Option.ne_none_iff_exists'.1 u;have⟨c4,aE,_⟩:=D.ext.mu c I aA;rw[aE];simp
def Inv.step(c:Dr P cx cf base mask m ops E Hs ws oa)(d:Inv cx base mask m ops E Hs ws oa listed a w μ q)(z:j∈Region.ready .any ops listed):
 wpOp P ops Q j (λx i=>∃B A,Inv cx base mask m ops E Hs ws oa (listed.setIfInBounds j true) x i B A) a w:=by
 have⟨o,b⟩:=rdy d.cl z;unfold wpOp;simp only[b.op];rcases m9 (c.tr.step j o b.op)with⟨e,f,y⟩|⟨e,C,p,f⟩
 ·simp only[d.want c b e,cr,bw];exact⟨μ,q,d.skip c b e f y⟩
 ·simp only[d.want c b e,bA];left;cases g:iF o.op with
  |false=>exact Aj.wp (d.quiet c b e g p f) λr i k=>by grind
  |true=>
   cases n:o8 o.op with
   |true=>exact Aj.wp (d.abB c b e n p f) λr i k=>k
   |false=>
    refine Aj.wp (d.ae2 c b e g (λu v t s=>⟨λl=>?_,λl=>?_⟩) p f) λr i k=>by grind
    ·rcases c.Fv u j v o t b.op l with⟨_,h⟩|h
     ·have:=(h s g).2;rw[n]at this;grind
     omega
    ·rcases c.Fv j u o v b.op t l with⟨_,h⟩|h
     ·have:=(h g s).1;rw[n]at this;grind
     omega
def ZG(listed:af Bool):Nat:=(listed.toList.filter λb=> !b).length
def KH:∀(b:List Bool) (j:Nat),b[j]? =some false->((b.set j true).filter λc=> !c).length+1=(b.filter λc=> !c).length:=by
 intro b;induction b with
 |nil=>simp
 |cons f b e=>
  intro j d;cases j with
  |zero=>grind
  |succ j=>
   simp at d;have:=e j d;cases f<;>simp[cw]<;>omega
def Ll(b:listed.getD j true=false):ZG (listed.setIfInBounds j true)+1=ZG listed:=by
 have c:j<listed.size:=by
  grind
 unfold ZG;rw[Array.toList_setIfInBounds];simp_all[KH]
def K6(d:Dr P cx cf base mask m ops E Hs ws oa)(e:Cl ops listed)(hr:Region.ready .any ops listed=[]):∀b,b<ops.size->listed.getD b false=true:=by
 intro b;induction b using Nat.strongRecOn with
 |_ b n=>
  intro i;cases k:listed.getD b false with
  |true=>rfl
  |false=>
   have c:ops[b]? =some ops[b]:=dy;have:b∈Region.ready .any ops listed:=by
    refine mem_ready.2 ⟨?_,ops[b],c,λf h g=>?_⟩
    ·have:b<listed.size:=by rw[e.size];exact i
     grind
    ·have l:=d.back b _ c f h g
     grind
   rw[hr]at this
   grind
def Inv.ace(c:Dr P cx cf base mask m ops E Hs ws oa)(f:Inv cx base mask m ops E Hs ws oa listed a w μ q)(p:∀g,g<ops.size->listed.getD g false=true):
 St cx base w.heap μ (Hs ops.size)/\kA w.heap μ mask (E ops.size) a.tmps/\yJ oa μ (Hs 0).size (Hs ops.size).size:=by
 refine⟨f.st.congr (c.wf _ (aw _)) λd N r=>?_,λs h K=>f.ON s h ?_,?_⟩
 ·have u:=f.lt c r;rw[c.xM (f.Ju _) u];have R:=He Hs d ops.size;have:=f.Ju d;refine mr c.mono J λg T y=>?_;have t:d<(Hs g).size:=(lj c.mono u J).2 J;refine c.same y t λF I=>?_;have:=(f.lf g d F t I).1 (p g y);omega
 ·
  have M:∀b,sP ops listed s ops.size+b<=ops.size->(E (sP ops listed s ops.size+b)).get mask s=(E (sP ops listed s ops.size)).get mask s:=by
   intro b;induction b with
   |zero=>simp
   |succ b L=>
    intro S;have x:sP ops listed s ops.size+b<ops.size:=J;have z:ops[sP ops listed s ops.size+b]? =some ops[sP ops listed s ops.size+b]:=dy;rw[<-L J];have A:ops[sP ops listed s ops.size+b].dst≠some s:=by
     intro D;have:=Ko (n:=ops.size) x (p _ x) (by rw[z];exact D);omega
    have V:∀h i,(E (sP ops listed s ops.size+b)).dst mask ops[sP ops listed s ops.size+b].dst h=some i->i.get mask s=(E (sP ops listed s ops.size+b)).get mask s:=by
     intro h i e;cases v:ops[sP ops listed s ops.size+b].dst with
     |none=>rw[v]at e;have e:some _=some i:=e;simp only[au]at e;rw[e]
     |some B=>
      rw[v]at e A;have G:s≠B:=λC=>A (by rw[C]);rw[Env.Cs (show Env.set mask _ B h=some i from e) s,aq G]
    rcases m9 (c.tr.step _ _ z)with⟨_,e,_⟩|⟨_,h,_,e⟩
    ·grind
    grind
  have U:=Xd (ops:=ops) (listed:=listed) (s:=s) ops.size;have:=M (ops.size-sP ops listed s ops.size) J;rw[show sP ops listed s ops.size+(ops.size-sP ops listed s ops.size)=ops.size by omega]at this;rw[<-this];exact K
 ·refine⟨nz c.mono (ax _) (aw _),λd r=>?_,λd k l=>?_⟩
  ·rcases(f.TR d).1 r with O|⟨k,l,_⟩
   ·grind
   omega
  ·refine(f.TR d).2 (.inr ⟨k,l,p _ ?_⟩);have:=c.cr0 l k;have:=He Hs d ops.size;omega
def Ob(f:Dr P cx cf base mask m ops E Hs ws oa)
 (p:∀a w μ,St cx base w.heap μ (Hs ops.size)->kA w.heap μ mask (E ops.size) a.tmps->yJ oa μ (Hs 0).size (Hs ops.size).size->p7 ws oa w μ->a.tmps.size=m->a.defers=[]->Q .normal a w):
 ∀(c:Nat) (listed:af Bool) (a:Act) (w:World),ZG listed<=c->(∃μ q,Inv cx base mask m ops E Hs ws oa listed a w μ q)->wpAny P .any ops Q c listed a w:=by
 have fin:∀(listed:af Bool) (a:Act) (w:World),(∃μ q,Inv cx base mask m ops E Hs ws oa listed a w μ q)->Region.ready .any ops listed=[]->Q .normal a w:=by
  rintro listed a w ⟨μ,q,b⟩ hr;have⟨k,l,n⟩:=b.ace f (K6 f b.cl hr);exact p a w μ k l n b.ext b.size b.NY
 intro c;induction c with
 |zero=>
  intro listed a w r d;have hr:Region.ready .any ops listed=[]:=by
   cases hr:Region.ready .any ops listed with
   |nil=>rfl
   |cons g u=>
    have e:g∈Region.ready .any ops listed:=by rw[hr];simp
    have:=Ll (mem_ready.1 e).1;omega
  exact⟨hr,fin listed a w d hr⟩
 |succ c s=>
  intro listed a w r d;refine⟨λhr=>fin listed a w d hr,λg e=>?_⟩;obtain⟨μ,q,b⟩:=d;have:=Ll (mem_ready.1 e).1;exact wpOp_mono (λh t i=>s _ h t J i) (b.step f e)
theorem chain{n:World}{p:Mu}{h:H}{u:Env}{g c:H}{f:Env}(jq:jg P cx)(t:nR P cx cf)(v:Ga m ops){l:Nat}(y:ops[l]? =some o)(K:lH cx cf mask ops u g o=some (f,c))
 (r:t7 cx base mask m n p h u g a w):(∃B e,t7 cx base mask m n p h f c B e)/\lr g c:=by
 have A:=r;obtain⟨μ,b,d,M,C,D,x,O⟩:=A;rcases m9 K with⟨L,k,rfl⟩|⟨L,R,z,k⟩
 ·exact⟨⟨_,w,μ,b,kA.put d .undef (λb i=>by rw[x];exact v l o b y i) k,M,C,D,by rw[Act.qu];exact x,by rw[Act.qv];omega⟩,lr.refl b.wf⟩
 ·have hr:=Eg (P:=P) jq t b d z;have⟨s,e,G⟩:=hr.some;have F:Aj P (λs e=>t7 cx base mask m n p h f c (a.put o.dst s) e) ((execOp a.eval o).run P w):=
   r.after (λb i=>v l o b y i) k λbase μ b d=>Eg jq t b d z
  have⟨N,S,I⟩:=F.some;exact⟨⟨_,_,I⟩,G.2⟩
def KN(b8:P.follows .mixedOrders=true)(jq:jg P cx)(U:nR P cx cf):Sa P cx cf ph:=by
 intro base mask m dn ds dk ops e bu h bC a w Q id W Y ca bi bN;have⟨E,Hs,c1,c6,a6,R,c7,_,_,c9,dd,_,c4⟩:=EQ ops.toList 0 ⟨[],[]⟩ e bu h bC (λt=>by simp) ca;simp only[cA,cC]at a6 R;have a7:Trace cx cf mask ops E Hs:=⟨λb o k=>c7 b o (ax _) k,λb B c u v A=>c9 b B c (ax _) u v A,λb B c u v A=>dd b B c (ax _) u v A,λb B c u v A=>c4 b B c (ax _) u v A⟩;obtain⟨oa,p,r,x,bs,g,an,ae⟩:=bi;subst c1 c6;have K:∀b,b<=ops.size->∃L G,t7 cx base mask m w oa (Hs 0) (E b) (Hs b) L G:=by
  intro b;induction b with
  |zero=>intro _;exact⟨a,w,oa,p,r,p7.refl _ _,yJ.refl _ _,lr.refl p.wf,an,ae⟩
  |succ b O=>
   intro f;have⟨a1,I,T⟩:=O J;have k:ops[b]? =some ops[b]:=dy;exact(chain jq U Y k (a7.step b _ k) T).1
 have V:∀b,b<ops.size->lr (Hs b) (Hs (b+1)):=by
  intro b f;have⟨a1,I,T⟩:=K b J;have k:ops[b]? =some ops[b]:=dy
  grind [chain]
 have D:Dr P cx cf base mask m ops E Hs {w with drawn:=w.drawn+1} oa:=by
  refine⟨jq,U,Y,a7,p,λi j dm cL bS b7 bT=>IZ W bS b7 bT,λj o k=>KO W k,λb f sl C n=>?_,λb f c y d av C n=>?_,V,λb f=>?_⟩
  ·have⟨a1,I,S,s,r1,_⟩:=K b f;exact(r1 sl C n).low λc l d=>s.fh d
  ·have⟨a1,I,S,s,r1,de,bn,_⟩:=K b f;have b6:S c≠none:=by
    rcases d with d|d
    ·have⟨l,M⟩:=Option.ne_none_iff_exists'.1 d;have⟨di,bH,_⟩:=de.ext.mu c l M;rw[bH];simp
    ·exact bn.2.2 c d (H.fh av)
   have⟨l,M⟩:=Option.ne_none_iff_exists'.1 b6;have⟨z,N,b9⟩:=s.box c l M;rw[av]at N;simp only[au]at N;subst N;exact b9.low (λc l d=>s.fh d) C n
  ·have⟨a1,I,S,s,_⟩:=K b f;exact s.wf
 have bB:∀b,b<=ops.size->lr (Hs 0) (Hs b):=by
  intro b;induction b with
  |zero=>intro _;exact lr.refl p.wf
  |succ b O=>intro f;exact(O J).trans (V b J)
 refine wp_region_any b8 (Ob D (λL G a8 aA aE aN F cb cp=>?_) ops.size _ a _ (by simp[ZG]) ⟨oa,λ_=>0,?_⟩)
 ·rw[a6]at aE;rw[R]at aA aN;have aX:p7 w oa G a8:=⟨F.ext,F.os,F.tape,F.output⟩;exact bN L G ⟨a8,aA,aE,x.trans aX,bs.trans (hp:=w.heap) aN aX.ext,by have:=bB ops.size (aw _);rw[R]at this;exact g.trans this,cb,cp⟩
 ·have ap:∀b,(Array.replicate ops.size false).getD b false=false:=by
   intro b;rcases aR b ops.size with h|h<;>simp[h]
  refine⟨⟨dy,λj cL _ hl=>?_⟩,an,ae,λ_=>ax _,λb c _ _ _=>?_,?_,λsl C n=>?_,λc=>?_,⟨Ext.refl _ _,rfl,rfl,rfl⟩⟩
  ·rw[ap]at hl;grind
  ·rw[ap];simp
  ·refine p.congr (F9 _ _ _) λc l d=>?_;have al:=p.fh d;have X:c<(Hs ops.size).size:=bD al (nz D.mono (ax _) (aw _));rw[D.xM (q:=λ_=>0) (ax _) X];have:vd Hs c ops.size<=0:=(lj D.mono X (ax _)).1 al;rw[show max 0 (vd Hs c ops.size)=0 by omega]
  ·have:sP ops (Array.replicate ops.size false) sl ops.size=0:=by
    grind [Array.replicate,zr]
   rw[this]at n;exact r sl C n
  grind
end
end
section
section
variable {P:ai}{cx:Ctx}{cf:jd}{base mask m:Nat}{w0 w:World}{μ0 μ:Mu}{h0 h h':H}{e e':Env}{a:Act}
def AC{d:List T}{cs:af ao}{g:af Obj}(b:gU g μ d cs.toList):fI g μ (jP d) (if h:cs.size=1 then cs[0]else .tuple cs):=by
 have c:∀(j:cs.size≠1),fI g μ (.tuple d) (if h:cs.size=1 then cs[0]else .tuple cs):=by
  intro j;rw[dif_neg j];exact .tuple d cs (by simpa using b.1.symm) λn i l=>by simpa[bP,List.getD]using b.2 n i l
 have f:=b.1
 match d,b,f,c with
 | [],b,f,c=>exact c (by grind)
 | [i],b,f,c=>
  have k:cs.size=1:=by grind
  rw[dif_pos k];have:=b.2 0 i dy
  grind [List.getD,jP]
 |o::p::d,b,f,c=>exact c (by grind)
def qq(c:af ao):ResultVar->Sem ao
 | .tmp b=>pure (c.getD b Go.undef)
 | .cell d b=>do loadVar b (<-asAddr (c.getD d Go.undef))
def CY(c:Func)(d:af ao):results c d=(do let b<-c.results.mapM (qq d);pure (if h:b.size=1 then b[0]else .tuple b)):=by
 unfold results;congr 1
def Gf(jq:jg P cx)(E:St cx base w.heap μ h)(r:kA w.heap μ mask e a.tmps):∀(g:List ResultVar) (k:List T),ng cx mask e h g=some k->
 ∃d:List ao,gU w.heap μ k d/\(g.mapM (qq a.tmps)).run P w= .ok d w:=by
 intro g;induction g with
 |nil=>
  intro k b;have b:some []=some k:=b;simp_all[au,gU.nil]
 |cons n g D=>
  intro k b;unfold ng at b;rw[jK]at b;replace b:=dI.1 b;obtain⟨j,c,b⟩:=b;replace b:=dI.1 b;obtain⟨s,C,b⟩:=b;simp only[au]at b;subst b;have⟨d,x,A⟩:=D s C;have q:∀f,(qq a.tmps n).run P w= .ok f w->fI w.heap μ j f->∃d:List ao,gU w.heap μ (j::s) d/\((n::g).mapM (qq a.tmps)).run P w= .ok d w:=by
   intro f y hr;refine⟨f::d,gU.cons hr x,?_⟩;rw[List.mapM_cons,Sem.run_bind,y,Result.andThen_ok,Sem.run_bind,A,Result.andThen_ok,Sem.run_pure]
  cases n with
  |tmp i=>
   have c:e.get mask i=some j:=c;exact q _ (by rfl) (r i j c)
  |cell p i=>
   have c:(dV (e.get mask p) λl=>dV (cx.ty i) λo=>h.load o l)=some j:=c;replace c:=dI.1 c;obtain⟨l,z,c⟩:=c;replace c:=dI.1 c;obtain⟨o,B,c⟩:=c;have⟨F,f,t,u,v⟩:=DE (jq.ty i o B) E (r p l z) c;exact q f (by simp only[qq,t,asAddr,Sem.run_bind,Sem.run_pure,Result.andThen_ok,u]) v
def ER(jq:jg P cx)(j:St cx base w.heap μ h)(i:kA w.heap μ mask e a.tmps){b:Func}{d:List T}(f:ng cx mask e h b.results.toList=some d):
 ∃c,(results b a.tmps).run P w= .ok c w/\fI w.heap μ (jP d) c:=by
 have⟨cs,k,g⟩:=Gf (P:=P) jq j i _ _ f;refine⟨_,?_,AC (cs:=cs.toArray) J⟩;rw[CY];have:b.results.mapM (qq a.tmps)=List.toArray<$>b.results.toList.mapM (qq a.tmps):=by
  rw[<-List.mapM_toArray]
 rw[this,Sem.run_bind,Sem.run_map,g];rfl
def EZ:∀(f d:Nat) (k:List T) (o:fW),mK mask f d k=some o->∀n j,dM o n=some j->(∃c,n=d+c/\c<f/\(k[c]? =some j\/(k.length<=c/\j= .undef))):=by
 intro f;induction f with
 |zero=>
  intro d k o b n j g;have b:some fW.nil=some o:=b;simp only[au]at b;subst b
  grind [dM]
 |succ f u=>
  intro d k o b n j g;have b:(dV (ir (Nat.succ d)) λp=> @List.rec T (λ_=>aa fW)
   (@Bool.rec (λ_=>aa fW) (mK mask f p []) (dV (mK mask f p []) λi=>some (.cons d .undef i)) (ks mask d))
   (λa l _=>dV (mK mask f p l) λi=>some (.cons d a i)) k)=some o:=b
  simp only[iO,ed]at b;have q:∀{l:List T} {i:fW},mK mask f (d+1) l=some i->dM i n=some j->∃c,n=d+(c+1)/\c<f/\(l[c]? =some j\/(l.length<=c/\j= .undef)):=by
   grind
  cases k with
  |nil=>
   simp only at b;cases hl:ks mask d with
   |false=>
    rw[hl]at b;have⟨c,r,s,t⟩:=q b g;simp_all
   |true=>
    rw[hl]at b;replace b:=dI.1 b;obtain⟨i,ht,b⟩:=b;simp only[au]at b;subst b;rw[nI]at g;split at g
    ·simp_all
    ·have⟨c,r,s,t⟩:=q ht g;simp_all
  |cons v l=>
   simp only at b;replace b:=dI.1 b;obtain⟨i,ht,b⟩:=b;simp only[au]at b;subst b;rw[nI]at g;split at g
   ·simp_all
   ·have⟨c,r,s,t⟩:=q ht g;simp_all
def Kz{n:Nat}{d:List T}{i:fW}{l:af Obj}{c:af ao}(k:gU l μ d c.toList)(o:mK mask n 0 d=some i):
 kA l μ mask ⟨i,.nil⟩ (c++Array.replicate (n-c.size) Go.undef):=by
 intro b j f;have f: @Bool.rec (λ_=>aa T) (dM .nil b) (dM i b) (ks mask b)=some j:=f;cases hl:ks mask b with
 |false=>rw[hl]at f;grind [dM]
 |true=>
  rw[hl]at f;have⟨q,r,s,g⟩:=EZ n 0 d i o b j f;have p:b=q:=J;subst p;have t:d.length=c.size:=by simpa using k.1
  rcases g with g|⟨g,rfl⟩
  ·have u:b<d.length:=by
    grind
   have hr:=k.2 b j g;have:(c++Array.replicate (n-c.size) Go.undef).getD b Go.undef=c.toList.getD b Go.undef:=by
    rw[bP,Array.getElem?_append_left J];simp
   rw[this];exact hr
  ·have:(c++Array.replicate (n-c.size) Go.undef).getD b Go.undef=Go.undef:=by
    rw[bP,Array.getElem?_append_right J]
    grind
   rw[this];exact .undef
def Ip{m g:Nat}{f:af Oper->Bool}(p:m<=g):∀(b:Code),mQ m f b=true->mQ g f b=true:=by
 intro b;induction b with
 |region id q o=>
  intro h;simp only[mQ,aB]at h|-;refine⟨?_,h.2⟩;have d:=h.1;unfold TQ at d|-;rw[cD]at d|-;intro i j;have:=d i j
  grind [aJ]
 |seq a c l n=>simp_all[aB,mQ]
 |cond i a c l n=>simp_all[aB,mQ]
 |block id c k=>grind [mQ]
 |loop c k=>grind [mQ]
 |_=>intro _;rfl
def EG(P:ai)(cx:Ctx)(f:aj)(g:Prim):Prop:=
 ∀b h d h',Df g b h=some (d,h')->∀base w μ (c:af ao),St cx base w.heap μ h->gU w.heap μ b c.toList->Aj P (rh cx base w μ h d h') ((callFunc f c).run P w)
def xQ(b:Fun):Bool:= !(b.fn.name== "runtime.NumGoroutine")&&match b.fn.body with
 |none=>false
 |some c=>mQ b.fn.ntmps ph c
def ou{c:aj}{b:Func}{f:Code}(i:P.funcs[c]? =some b)(k:(b.name== "runtime.NumGoroutine")=false)(g:b.body=some f)(d:af ao)(w:World):
 (callFunc c d).run P w= .ok (.enter c d) w:=by
 have j:¬b.name= "runtime.NumGoroutine" :=by grind
 simp[callFunc,i,j,g]
theorem K1(V:P.follows .mixedOrders=true)(jq:jg P cx)(z:nR P cx cf){r:aj}{b:Fun}(C:P.funcs[r]? =some b.fn)(g:xQ b=true){B:Nat}{x:List T}{o:T}
 (c:tL cx cf B b.fn b.mask b.kT x h=some (o,h')) (F:St cx base w.heap μ h) {f:af ao} (S:gU w.heap μ x f.toList):
 Aj P (rh cx base w μ h o h') ((callFunc r f).run P w):=by
 unfold xQ at g;simp only[aB,cg]at g;obtain⟨W,g⟩:=g;unfold tL at c;cases l:b.fn.body with
 |none=>rw[l]at g;grind
 |some y=>
  rw[l]at g c;simp only at g;obtain⟨d,t,k⟩:=h;simp only at c;replace c:=dI.1 c;obtain⟨a6,al,c⟩:=c;replace c:=dI.1 c;obtain⟨⟨q,A,s⟩,U,c⟩:=c;simp only[lY]at c;have j:(q= .normal\/q= .ret)/\(dV (ng cx b.mask A s b.fn.results.toList) λI=>DF b.kT d t (jP I) s)=some (o,h'):=by
   cases q with
   |normal=>grind
   |exit i=>grind
   |ret=>grind
  obtain⟨ap,j⟩:=j;replace j:=dI.1 j;obtain⟨I,an,j⟩:=j;rw[ou C W l];show Calls P r f w _;refine calls_of_wp C l ?_;have G:St cx base w.heap μ ⟨d,d,k⟩:=F.Ls d;have X:=Kz (mask:=b.mask) (n:=b.fn.ntmps) S al;have K:t7 cx base b.mask (f.size+(b.fn.ntmps-f.size)) w μ ⟨d,d,k⟩ ⟨a6,.nil⟩ ⟨d,d,k⟩ {tmps:=f++Array.replicate (b.fn.ntmps-f.size) Go.undef,defers:=[]} w:=
   ⟨μ,G,X,p7.refl _ _,yJ.refl _ _,lr.refl G.wf,dy,rfl⟩
  refine KT (m:=f.size+(b.fn.ntmps-f.size)) (w0:=w) (μ0:=μ) (h0:=⟨d,d,k⟩) (base:=base) (mask:=b.mask) jq z (KN V jq z) B y (Ip J y g) _ _ q A s U _ _ _ K λv u L=>?_;have E:v.defers=[]/\∃p,(results b.fn v.tmps).run P u= .ok p u/\rh cx base w μ ⟨d,t,k⟩ o h' p u:=by
   obtain⟨bi,D,av,aA,aE,aN,a8,aX⟩:=L;have⟨p,Y,ae⟩:=ER (P:=P) jq D av an;have⟨⟨a7,M,N,O,Q⟩,R⟩:=IA (low0:=t) F D aN aA aE ae j;exact⟨aX,p,Y,⟨a7,M,N,O,Q⟩,R⟩
  rcases ap with rfl|rfl
  ·exact E
  ·exact E
