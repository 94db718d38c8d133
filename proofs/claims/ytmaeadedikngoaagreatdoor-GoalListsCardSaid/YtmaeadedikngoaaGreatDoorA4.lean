/- Texts TiEnv to TiDraw2. -/
import Derived.Test.YtmaeadedikngoaaGreatDoorA3
import Derived.Orders
set_option linter.all false
namespace Go.TI
noncomputable section
def nh(b:Nat)(d:T)(c:fX)(a:Nat):dO (.cons b d c) a=if b=a then some d else dO c a:=by
 show @Bool.rec (λ_=>aa T) (dO c a) (some d) (Nat.beq b a)=_;cases e:Nat.beq b a with
 |true=>have:=aD e;simp[this]
 |false=>have:=cP e;simp[this]
def GR{l e:fX}{c:Nat}{g:T}(a:lK l c g=some e)(f:Nat):dO e f=if f=c then some g else dO l f:=by
 induction l generalizing e with
 |nil=>
  have a:some (fX.cons c g .nil)=some e:=a;simp only[ar]at a;subst a;rw[nh];by_cases b:c=f
  ·simp[b]
  ·simp[b,bm b]
 |cons d m i o=>
  have a: @Bool.rec (λ_=>aa fX) (dV (lK i c g) λj=>some (.cons d m j)) (some (.cons d g i)) (Nat.beq d c)=some e:=a;cases h:Nat.beq d c with
  |true=>
   rw[h]at a;have k:=aD h;have a:some (fX.cons d g i)=some e:=a;simp only[ar]at a;subst a;rw[nh,nh,k];by_cases b:c=f
   ·simp[b]
   ·simp[b,bm b]
  |false=>
   rw[h]at a;have k:=cP h;have a:(dV (lK i c g) λj=>some (fX.cons d m j))=some e:=a;obtain⟨j,ht,a⟩:=dL.1 a;simp only[ar]at a;subst a;rw[nh,nh,o ht];by_cases b:d=f
   ·have:f≠c:=λn=>k (b.trans n);simp[b,this]
   ·simp[b]
def Env.Bm{d:Nat}{m g:Env}{c:Nat}{f:T}(a:m.set d c f=some g)(b:Nat):g.get d b=if b=c then some f else m.get d b:=by
 obtain⟨l,k⟩:=m;have a: @Bool.rec (λ_=>aa Env) (some ⟨l,.cons c f k⟩) (dV (lK l c f) λj=>some ⟨j,k⟩) (km d c)=some g:=a;have get:∀(h i:fX),(⟨h,i⟩:Env).get d b=if km d b=true then dO h b else dO i b:=by
  intro h i;show @Bool.rec (λ_=>aa T) (dO i b) (dO h b) (km d b)=_;cases km d b<;>rfl
 cases hl:km d c with
 |false=>
  rw[hl]at a;have a:some (⟨l,.cons c f k⟩:Env)=some g:=a;simp only[ar]at a;subst a;rw[get,get,nh];by_cases e:b=c
  ·subst e;simp[hl]
  ·simp[e,bm e]
 |true=>
  rw[hl]at a;have a:(dV (lK l c f) λj=>some (⟨j,k⟩:Env))=some g:=a;obtain⟨j,n,a⟩:=dL.1 a;simp only[ar]at a;subst a;rw[get,get,GR n];by_cases e:b=c
  ·subst e;simp[hl]
  ·simp[e]
def kt.put{k:af Obj}{m:Mu}{h:Nat}{f g:Env}{i:Act}{e:aa Tmp}{l:T}{c:am}(o:kt k m h f i.tmps)(s:fD k m l c)(q:∀b,e=some b->b<i.tmps.size)
 (a:f.dst h e l=some g):kt k m h g (i.put e c).tmps:=by
 cases e with
 |none=>
  have a:some f=some g:=a;simp only[ar]at a;subst a;exact o
 |some b=>
  have a:f.set h b l=some g:=a;intro p t d;rw[Env.Bm a]at d;have r:=q b rfl;by_cases j:p=b
  ·subst j;simp only[bg,ar]at d;subst d;simpa[Act.put,aZ,r]using s
  ·simp only[j,bo]at d;have:=o p t d;simpa[Act.put,aZ,Array.getElem?_setIfInBounds_ne (bm j)]using this
def Act.pW(a:Act)(b:aa Tmp)(c:am):(a.put b c).tmps.size=a.tmps.size:=by cases b<;>simp[Act.put]
def Act.pX(a:Act)(b:aa Tmp)(c:am):(a.put b c).defers=a.defers:=by cases b<;>rfl
def BB{x:af Obj}{A:Mu}{l:Nat}{j:Env}{c:Act}{g:af Oper}{i:Oper}{d:Bool}(z:kt x A l j c.tmps)(v:∀(f:Nat) (b:Oper) t,g[f]? =some b->b.dst=some t->t<c.tmps.size)
 (a:kv g l j i.guard=some d):Region.wanted i (yielded g c.tmps)=d:=by
 unfold Region.wanted;cases o:i.guard with
 |none=>
  rw[o]at a;have a:some true=some d:=a;simpa using a
 |some b=>
  obtain⟨f,n⟩:=b;rw[o]at a;have a:(dV (dV (dV (md g.toList f) λi=>i.dst) λe=>j.get l e) λm=>
   match m with
   | .bool d=>some (@Bool.rec (λ_=>Bool) (@Bool.rec (λ_=>Bool) true false n) n d)
   |_=>some false)=some d:=a
  replace a:=dL.1 a;obtain⟨m,h,a⟩:=a;replace h:=dL.1 h;obtain⟨e,k,h⟩:=h;replace k:=dL.1 k;obtain⟨b,p,r⟩:=k;rw[kA]at p;have q:g[f]? =some b:=by simpa using p
  have w:=v f b e q r;have s:=z e m h;have y:((g[f]?).bind (·.dst)).bind (c.tmps[·]?)=some (c.tmps.getD e Go.undef):=by
   simp[q,r,aZ,w]
  simp only[yielded,y];generalize c.tmps.getD e Go.undef=B at s;cases s<;>simp only[ar]at a<;>first
   |(subst a;rfl)
   |skip
  rename_i u;subst a;cases u<;>cases n<;>rfl
def qB(cx:Ctx)(base:Nat)(w:World)(f:Mu)(h:H)(c:T)(h':H)(b:am)(d:World):Prop:=UY cx base w f h.size c h' b d/\kW h h'
def nH(P:ai)(cx:Ctx)(cf:iX):Prop:=
 ∀f c h g h',cf f c h=some (g,h')->∀base w b (d:af am),St cx base w.heap b h->gJ w.heap b c d.toList->ze P (qB cx base w b h g h') ((callFunc f d).run P w)
def tF(cx:Ctx)(base mask m:Nat)(w0:World)(μ0:Mu)(h0:H)(e:Env)(h:H)(a:Act)(w:World):Prop:=
 ∃b,St cx base w.heap b h/\kt w.heap b mask e a.tmps/\pI w0 μ0 w b/\ye μ0 b h0.size h.size/\kW h0 h/\a.tmps.size=m/\a.defers=[]
section
variable {P:ai}{cx:Ctx}{cf:iX}{base mask m:Nat}{w0 w:World}{μ0:Mu}{h0 h h':H}{e e':Env}{a:Act}{ops:af Oper}{Q:Exit->Act->World->Prop}
def E2(m:Nat)(ops:af Oper):Prop:=∀(d:Nat) (b:Oper) c,ops[d]? =some b->b.dst=some c->c<m
def tF.after(H:tF cx base mask m w0 μ0 h0 e h a w){d:aa Tmp}(r:∀b,d=some b->b<m){l:T}(u:e.dst mask d l=some e')
 {g:Result Next} (hr:∀base c,St cx base w.heap c h->kt w.heap c mask e a.tmps->ze P (qB cx base w c h l h') g):ze P (λi n=>tF cx base mask m w0 μ0 h0 e' h' (a.put d i) n) g:=by
 obtain⟨c,b,k,A,o,p,j,s⟩:=H;refine(hr base c b k).mono λi n q=> ?_;obtain⟨⟨B,v,x,f,y⟩,z⟩:=q;refine⟨B,x,?_,A.trans f,o.trans (hp:=w.heap) y f.ext,p.trans z,by rw[Act.pW];exact j,by rw[Act.pX];exact s⟩;exact kt.put (k.ext f.ext) v (λb t=>by rw[j];exact r b t) u
def IU(iZ:jd P cx)(G:nH P cx cf){n:Nat}{d:Oper}(s:ops[n]? =some d)(r:E2 m ops)(b:ls cx cf mask ops e h d=some (e',h'))
 (H:tF cx base mask m w0 μ0 h0 e h a w) {z:Act->World->Prop} (v:∀A o,tF cx base mask m w0 μ0 h0 e' h' A o->z A o):wpOp P ops Q n z a w:=by
 have E:=H;obtain⟨t,c,f,V,I,J,x,M⟩:=E;unfold wpOp;simp only[s];replace b:=dL.1 b;obtain⟨U,R,b⟩:=b;have D:=BB f (λS T c N i=>by rw[x];exact r S T c N i) R;cases U with
 |false=>
  have b:(dV (e.dst mask d.dst .undef) λe'=>some (e',h))=some (e',h'):=b;replace b:=dL.1 b;obtain⟨C,l,b⟩:=b;simp only[ar,az]at b;obtain⟨rfl,rfl⟩:=b;simp only[D,cq,bo];refine v _ _ ⟨t,c,kt.put f .undef (λc i=>by rw[x];exact r n d c s i) l,V,I,J,by rw[Act.pW];exact x,by rw[Act.pX];exact M⟩
 |true=>
  simp only[D,bg];left;have b:(dV (jn d.op cx mask e h) λu=> @lH.rec (λ_=>aa (Env×TI.H))
   (λg h'=>dV (e.dst mask d.dst g) λe'=>some (e',h'))
   (λq p=>dV (cf q p h) λf=>two f λg h'=>dV (e.dst mask d.dst g) λe'=>some (e',h')) u)=some (e',h'):=b
  replace b:=dL.1 b;obtain⟨u,y,b⟩:=b;rcases u with⟨g,j⟩|⟨q,p⟩
  ·skip
   have b:(dV (e.dst mask d.dst g) λe'=>some (e',j))=some (e',h'):=b;replace b:=dL.1 b;obtain⟨C,l,b⟩:=b;simp only[ar,az]at b;obtain⟨rfl,rfl⟩:=b;refine ze.wp (H.after (λc i=>r n d c s i) l (h':=j) λbase t c f=> ?_) (λB o k=>v _ _ k);exact((yx iZ c f y).ZT).mono λB o k=>⟨k,Pt c.wf g j y⟩
  ·skip
   have b:(dV (cf q p h) λf=>two f λg h'=>dV (e.dst mask d.dst g) λe'=>some (e',h'))=some (e',h'):=b;replace b:=dL.1 b;obtain⟨⟨g,j⟩,L,b⟩:=b;simp only[kC]at b;replace b:=dL.1 b;obtain⟨C,l,b⟩:=b;simp only[ar,az]at b;obtain⟨rfl,rfl⟩:=b;refine ze.wp (H.after (λc i=>r n d c s i) l (h':=j) λbase t c f=> ?_) (λB o k=>v _ _ k);obtain⟨_,F,K,O⟩:=Hf (P:=P) c f y;rw[O];exact G q p h g j L base w t F c K
def E6(iZ:jd P cx)(n:nH P cx cf)(q:E2 m ops):∀(c:List Oper) (d:Nat) (e:Env) (h:H) (a:Act) (w:World),(∀g,c[g]? =ops[d+g]?)->
 ky cx cf mask ops c e h=some (e',h')->tF cx base mask m w0 μ0 h0 e h a w->(∀f i,tF cx base mask m w0 μ0 h0 e' h' f i->Q .normal f i)->wpOps P ops Q (List.range' d c.length) a w:=by
 intro c;induction c with
 |nil=>
  intro d e h a w _ b H j;have b:some (e,h)=some (e',h'):=b;simp only[ar,az]at b;obtain⟨rfl,rfl⟩:=b;exact j a w H
 |cons k c t=>
  intro d e h a w hl b H j;have b:(dV (ls cx cf mask ops e h k) λu=>two u λe' h'=>ky cx cf mask ops c e' h')=some (e',h'):=b;replace b:=dL.1 b;obtain⟨⟨o,p⟩,s,b⟩:=b;simp only[kC]at b;simp only[bh,List.range'_succ];rw[wpOps_cons];have r:ops[d]? =some k:=by have:=hl 0;simpa using this.symm
  refine IU iZ n r q s H λf i l=>t (d+1) o p f i (λg=> ?_) b l j;have:=hl (g+1);simp only[dq]at this;rw[this];congr 1;omega
def SB(m:Nat)(ops:af Oper):Bool:=ops.toList.all λb=>match b.dst with|some c=>Nat.blt c m|none=>true
def SA(b:SB m ops=true):E2 m ops:=by
 intro g f i c d;unfold SB at b;rw[cv]at b;have:=b f (by simpa using Array.mem_of_getElem? c);rw[d]at this;simpa[aH]using this
def mB(m:Nat)(oQ:af Oper->Bool):Code->Bool
 | .region _ ops c=>SB m ops&&(!c||oQ ops)
 | .seq a b=>mB m oQ a&&mB m oQ b
 | .cond _ a b=>mB m oQ a&&mB m oQ b
 | .block _ b=>mB m oQ b
 | .loop b=>mB m oQ b
 |_=>true
def abj:Ex->Exit
 | .normal=> .normal
 | .exit b=> .exit b
 | .ret=> .ret
def Ra(P:ai)(cx:Ctx)(cf:iX)(oQ:af Oper->Bool):Prop:=
 ∀(base mask m:Nat) (w0:World) (μ0:Mu) (h0:H) (ops:af Oper) (e e':Env) (h h':H) (a:Act) (w:World) (Q:Exit->Act->World->Prop) (id:Nat),oQ ops=true->E2 m ops->
  j3 cx cf mask ops ops.toList 0 ⟨[],[]⟩ e h=some (e',h')->tF cx base mask m w0 μ0 h0 e h a w->(∀b c,tF cx base mask m w0 μ0 h0 e' h' b c->Q .normal b c)->(Code.region id ops true).wp P Q a w
def tF.drop(H:tF cx base mask m w0 μ0 h0 e h a w):tF cx base mask m w0 μ0 h0 ⟨e.vars,.nil⟩ h a w:=by
 obtain⟨q,n,l,p,g,i,k,j⟩:=H;refine⟨q,n,λb d c=>l b d ?_,p,g,i,k,j⟩;obtain⟨f,o⟩:=e;have c: @Bool.rec (λ_=>aa T) (dO .nil b) (dO f b) (km mask b)=some d:=c;show @Bool.rec (λ_=>aa T) (dO o b) (dO f b) (km mask b)=some d;cases hl:km mask b with
 |true=>rw[hl]at c;exact c
 |false=>rw[hl]at c;simp[dO]at c
def wpL(P:ai)(d:Code)(Q:Exit->Act->World->Prop)(a:Act)(w:World):Prop:=
 ∀(c:Frame) (g:List Item) (f:List Frame),∃e b i,Q e b i/\Arrives P (lone (c.at a (.code d:: .inLoop d::g)) f w) c g f e b i
def LM{b:Code}(h:b.wp P (Exit.then (wpL P b Q) Q) a w):wpL P b Q a w:=by
 intro i k j;obtain⟨e,f,g,d,c⟩:=h i (.inLoop b::k) j;cases e with
 |normal=>
  obtain⟨n,l,q,p,o⟩:=d i k j;exact⟨n,l,q,p,.of_steps (Steps.trans c (.one step_inLoop)) o⟩
 |exit id=>exact⟨_,f,g,d,.pass (x:= .inLoop b) rfl (λ_ _=> .inl dC) c⟩
 |goto s=>exact⟨_,f,g,d,.pass (x:= .inLoop b) rfl (λ_ _=> .inl dC) c⟩
 |ret=>exact⟨_,f,g,d,.pass (x:= .inLoop b) rfl (λ_ _=> .inl dC) c⟩
 |panic r=>exact⟨_,f,g,d,.pass (x:= .inLoop b) rfl (λ_ _=> .inl dC) c⟩
 |outgrown=>exact⟨_,f,g,d,.pass (x:= .inLoop b) rfl (λ_ _=> .inl dC) c⟩
def LL{b:Code}(h:wpL P b Q a w):(Code.loop b).wp P Q a w:=by
 intro d j f;obtain⟨e,c,k,i,g⟩:=h d j f;exact⟨e,c,k,i,.of_steps (.one step_loop) g⟩
def abJ(P:ai)(cx:Ctx)(base mask m:Nat)(w0:World)(μ0:Mu)(h0:H)(f:Code)(g:Env->H->Out):Prop:=
 ∀e h d e' h',g e h=some (d,e',h')->∀a w Q,tF cx base mask m w0 μ0 h0 e h a w->(∀b c,tF cx base mask m w0 μ0 h0 e' h' b c->Q (abj d) b c)->f.wp P Q a w
def JB{p:Code}{j:Env->H->Out}(s:abJ P cx base mask m w0 μ0 h0 p j):∀(f:Nat) (e:Env) (h:H) (c:Ex) (e':Env) (h':H),oo j f e h=some (c,e',h')->
 ∀a w Q,tF cx base mask m w0 μ0 h0 e h a w->(∀d g,tF cx base mask m w0 μ0 h0 e' h' d g->Q (abj c) d g)->wpL P p Q a w:=by
 intro f;induction f with
 |zero=>intro e h c e' h' b;simp[oo]at b
 |succ f t=>
  intro e h c e' h' b a w Q H n;have b:(dV (j e h) λu=>three u λc e' h'=> @Ex.rec (λ_=>Out) (oo j f e' h') (λo=>some (.exit o,e',h')) (some (.ret,e',h')) c)=some (c,e',h'):=b;replace b:=dL.1 b;obtain⟨⟨q,i,k⟩,r,b⟩:=b;refine LM (s e h q i k r a w _ H λd g l=> ?_);cases q with
  |normal=>
   have b:oo j f i k=some (c,e',h'):=b;exact t i k c e' h' b d g Q l n
  |exit o=>
   have b:some (Ex.exit o,i,k)=some (c,e',h'):=b;simp only[ar,az]at b;obtain⟨rfl,rfl,rfl⟩:=b;exact n d g l
  |ret=>
   have b:some (Ex.ret,i,k)=some (c,e',h'):=b;simp only[ar,az]at b;obtain⟨rfl,rfl,rfl⟩:=b;exact n d g l
def Ka(iZ:jd P cx)(I:nH P cx cf){oQ:af Oper->Bool}(J:Ra P cx cf oQ)(p:Nat):∀(s:Code),mB m oQ s=true->abJ P cx base mask m w0 μ0 h0 s (j8 cx cf p mask s):=by
 intro s;induction s with
 |skip=>
  intro _ e h c e' h' b a w Q H d;have b:some (Ex.normal,e,h)=some (c,e',h'):=b;simp only[ar,az]at b;obtain⟨rfl,rfl,rfl⟩:=b;exact wp_skip (d a w H)
 |exit id=>
  intro _ e h c e' h' b a w Q H d;have b:some (Ex.exit id,e,h)=some (c,e',h'):=b;simp only[ar,az]at b;obtain⟨rfl,rfl,rfl⟩:=b;exact wp_exit (d a w H)
 |ret=>
  intro _ e h c e' h' b a w Q H d;have b:some (Ex.ret,e,h)=some (c,e',h'):=b;simp only[ar,az]at b;obtain⟨rfl,rfl,rfl⟩:=b;exact wp_ret (d a w H)
 |region id ops K=>
  intro f e h c e' h' b a w Q H d;simp only[mB,ay]at f;have F:=SA f.1;have n:=H.drop;obtain⟨D,O⟩:=e;cases K with
  |false=>
   have b:(dV (ky cx cf mask ops ops.toList ⟨D,.nil⟩ h) λo=>two o λe' h'=>some (Ex.normal,(⟨e'.vars,.nil⟩:Env),h'))=some (c,e',h'):=b;replace b:=dL.1 b;obtain⟨⟨k,j⟩,q,b⟩:=b;simp only[kC,ar,az]at b;obtain⟨rfl,rfl,rfl⟩:=b;refine wp_region ?_;rw[List.range_eq_range'];have:=E6 (Q:=Q) iZ I F ops.toList 0 ⟨D,.nil⟩ h a w (λN=>by simp) q n λg i x=>d g i x.drop;simpa using this
  |true=>
   have b:(dV (j3 cx cf mask ops ops.toList 0 ⟨[],[]⟩ ⟨D,.nil⟩ h) λo=>two o λe' h'=>some (Ex.normal,(⟨e'.vars,.nil⟩:Env),h'))=some (c,e',h'):=b;replace b:=dL.1 b;obtain⟨⟨k,j⟩,q,b⟩:=b;simp only[kC,ar,az]at b;obtain⟨rfl,rfl,rfl⟩:=b;exact J base mask m w0 μ0 h0 ops _ _ h j a w Q id (by simpa using f.2) F q n λg i x=>d g i x.drop
 |seq r y A B=>
  intro f e h c e' h' b a w Q H d;simp only[mB,ay]at f;have b:(dV (j8 cx cf p mask r e h) λo=>three o λc e' h'=> @Ex.rec (λ_=>Out) (j8 cx cf p mask y e' h') (λl=>some (.exit l,e',h')) (some (.ret,e',h')) c)=some (c,e',h'):=b;replace b:=dL.1 b;obtain⟨⟨t,k,j⟩,q,b⟩:=b;refine wp_seq (A f.1 e h t k j q a w _ H λg i n=> ?_);cases t with
  |normal=>exact B f.2 k j c e' h' b g i Q n d
  |exit l=>
   have b:some (Ex.exit l,k,j)=some (c,e',h'):=b;simp only[ar,az]at b;obtain⟨rfl,rfl,rfl⟩:=b;exact d g i n
  |ret=>
   have b:some (Ex.ret,k,j)=some (c,e',h'):=b;simp only[ar,az]at b;obtain⟨rfl,rfl,rfl⟩:=b;exact d g i n
 |cond G r y A B=>
  intro f e h c e' h' b a w Q H d;simp only[mB,ay]at f;have b:(dV (fR cx mask e G) λC=>match C with
   | .bool v=> @Bool.rec (λ_=>Out) (j8 cx cf p mask y e h) (j8 cx cf p mask r e h) v
   |_=>none)=some (c,e',h'):=b
  replace b:=dL.1 b;obtain⟨C,L,b⟩:=b;cases C<;>simp only[reduceCtorEq]at b;rename_i v;have E:a.eval G= .bool v:=by
   obtain⟨R,M,o,_⟩:=H;exact(gU M o L).qj
  cases v with
  |true=>exact wp_cond_true E (A f.1 e h c e' h' b a w Q H d)
  |false=>exact wp_cond_false E (B f.2 e h c e' h' b a w Q H d)
 |block id r z=>
  intro f e h c e' h' b a w Q H d;have b:(dV (j8 cx cf p mask r e h) λo=>three o λc e' h'=> @Ex.rec (λ_=>Out) (some (.normal,e',h')) (λl=> @Bool.rec (λ_=>Out) (some (.exit l,e',h')) (some (.normal,e',h')) (Nat.beq l id)) (some (.ret,e',h')) c)=some (c,e',h'):=b;replace b:=dL.1 b;obtain⟨⟨t,k,j⟩,q,b⟩:=b;refine wp_block (z f e h t k j q a w _ H λg i n=> ?_);cases t with
  |normal=>
   have b:some (Ex.normal,k,j)=some (c,e',h'):=b;simp only[ar,az]at b;obtain⟨rfl,rfl,rfl⟩:=b;exact d g i n
  |exit l=>
   have b: @Bool.rec (λ_=>Out) (some (.exit l,k,j)) (some (.normal,k,j)) (Nat.beq l id)=some (c,e',h'):=b;show(if l=id then Q .normal g i else Q (.exit l) g i);cases u:Nat.beq l id with
   |true=>
    rw[u]at b;simp only[ar,az]at b;obtain⟨rfl,rfl,rfl⟩:=b;rw[aq (aD u)];exact d g i n
   |false=>
    rw[u]at b;simp only[ar,az]at b;obtain⟨rfl,rfl,rfl⟩:=b;rw[ao (cP u)];exact d g i n
  |ret=>
   have b:some (Ex.ret,k,j)=some (c,e',h'):=b;simp only[ar,az]at b;obtain⟨rfl,rfl,rfl⟩:=b;exact d g i n
 |loop r z=>
  intro f e h c e' h' b a w Q H d;exact LL (JB (z f) p e h c e' h' b a w Q H d)
 |_=>intro _ e h c e' h' b;exact absurd b (by simp[j8])
end
end
noncomputable section
def ng{d i:Type}{b c:d->aa i}:∀{a:List d},(∀x∈a,b x=c x)->fP b a=fP c a
 | [],_=>rfl
 |x::a,h=>by
  rw[jK,jK,h x dC,ng λg f=>h g (by simp[f])]
section
variable {cx:Ctx}{mask:Nat}{e e':Env}{h h1 h2:H}
def AF{a:List ah}(c:∀b∈a,fR cx mask e b=fR cx mask e' b):pZ cx mask e a=pZ cx mask e' a:=ng c
def xd{b:List (Nat×ah)}(d:∀a∈b,fR cx mask e a.2=fR cx mask e' a.2):partsOf cx mask e b=partsOf cx mask e' b:=by
 unfold partsOf;refine ng λa c=> ?_;obtain⟨f,g⟩:=a;simp only[kC];rw[d (f,g) c]
def uI{b:aa ah}(f:∀a,b=some a->fR cx mask e a=fR cx mask e' a):jQ cx mask e b=jQ cx mask e' b:=by
 cases b with
 |none=>rfl
 |some a=>
  show(dV (fR cx mask e a) λd=>dV (pR d) λc=>some (some c))=(dV (fR cx mask e' a) λd=>dV (pR d) λc=>some (some c));rw[f a rfl]
def zK{f:Op}(b:∀a∈f.operands,fR cx mask e a=fR cx mask e' a):jn f cx mask e h=jn f cx mask e' h:=by
 by_cases s:∃d,f= .call d
 ·obtain⟨d,rfl⟩:=s;have h1:pZ cx mask e d.args.toList=pZ cx mask e' d.args.toList:=AF λa q=>b a (by simp only[Op.operands,Call.operands,Array.mem_append];right;simpa using q);simp only[jn,CD,h1];cases x:d.callee with
  |builtin i=>rfl
  |invoke a D=>rfl
  |value o=>
   have h2:=b o (by simp only[Op.operands,Call.operands,x];simp);simp only[h2]
 cases f with
 |move a=>have h1:=b a (by simp[Op.operands]);simp only[jn,CA,h1]
 |assign a=>have h1:=b a (by simp[Op.operands]);simp only[jn,CA,h1]
 |pick d g i=>
  have h1:=b d (by simp[Op.operands]);have h2:=b g (by simp[Op.operands]);have p:=b i (by simp[Op.operands]);simp only[jn,EP,h1,h2,p]
 |alloc c=>rfl
 |box c a=>have h1:=b a (by simp[Op.operands]);simp only[jn,MP,h1]
 |build c m=>
  have h1:partsOf cx mask e m.toList=partsOf cx mask e' m.toList:=xd λl r=>b l.2 (by simp only[Op.operands,List.mem_toArray,cu];exact⟨l,r,rfl⟩);simp only[jn,Aj,h1]
 |buildSlice c E m=>
  have h1:partsOf cx mask e m.toList=partsOf cx mask e' m.toList:=xd λl r=>b l.2 (by simp only[Op.operands,List.mem_toArray,cu];exact⟨l,r,rfl⟩);simp only[jn,ot,h1]
 |load c g=>have h1:=b g (by simp[Op.operands]);simp only[jn,HY,h1]
 |store c g a=>have h1:=b g (by simp[Op.operands]);have h2:=b a (by simp[Op.operands]);simp only[jn,Cx,h1,h2]
 |nilCheck a=>have h1:=b a (by simp[Op.operands]);simp only[jn,rk,h1]
 |binOp f c a A G=>
  have h1:=b a (by simp[Op.operands]);have h2:=b A (by simp[Op.operands]);cases f<;>simp only[jn,V7,MQ,h1,h2]
 |unOp f c a=>have h1:=b a (by simp[Op.operands]);simp only[jn,hUn,h1]
 |convert z B a=>have h1:=b a (by simp[Op.operands]);simp only[jn,K5,h1]
 |makeInterface c a=>have h1:=b a (by simp[Op.operands]);simp only[jn,Ag,h1]
 |makeFunc C g i=>
  have h1:pZ cx mask e i.toList=pZ cx mask e' i.toList:=AF λa q=>b a (by simp only[Op.operands,Array.mem_append];right;simpa using q);simp only[jn,CB,h1]
 |makeSlice c y d=>have h1:=b y (by simp[Op.operands]);have h2:=b d (by simp[Op.operands]);simp only[jn,pA,h1,h2]
 |slice c a u t v=>
  have h1:=b a (by simp[Op.operands]);have h2:jQ cx mask e u=jQ cx mask e' u:=uI λk j=>b k (by subst j;simp[Op.operands]);have p:jQ cx mask e t=jQ cx mask e' t:=uI λk j=>b k (by subst j;simp[Op.operands]);have w:jQ cx mask e v=jQ cx mask e' v:=uI λk j=>b k (by subst j;simp[Op.operands]);simp only[jn,Cy,h1,h2,p,w]
 |fieldAddr c a o=>have h1:=b a (by simp[Op.operands]);simp only[jn,pF,h1]
 |field c a o=>have h1:=b a (by simp[Op.operands]);simp only[jn,Ai,h1]
 |indexAddr c a n=>have h1:=b a (by simp[Op.operands]);have h2:=b n (by simp[Op.operands]);simp only[jn,pB,h1,h2]
 |index c a n=>have h1:=b a (by simp[Op.operands]);have h2:=b n (by simp[Op.operands]);simp only[jn,Af,h1,h2]
 |extract a n=>have h1:=b a (by simp[Op.operands]);simp only[jn,un,h1]
 |makeMap c F=>rfl
 |lookup=>rfl
 |mapUpdate=>rfl
 |range c a=>have h1:=b a (by simp[Op.operands]);simp only[jn,yK,Cz,h1]
 |next it z=>have h1:=b it (by simp[Op.operands]);simp only[jn,HW,Ab,h1]
 |entry=>rfl
 |_=>first|rfl|exact(s ⟨_,rfl⟩).elim
def vQ{c:Op}(b:∀a∈c.operands,fR cx mask e a=fR cx mask e' a):gG cx mask e h c=gG cx mask e' h c:=by
 cases c with
 |load d a=>have h1:=b a (by simp[Op.operands]);simp only[gG,h1]
 |indexAddr d a f=>have h1:=b a (by simp[Op.operands]);simp only[gG,h1]
 |slice d a j i k=>have h1:=b a (by simp[Op.operands]);simp only[gG,h1]
 |convert m g a=>have h1:=b a (by simp[Op.operands]);simp only[gG,h1]
 |lookup d a f l=>have h1:=b a (by simp[Op.operands]);simp only[gG,h1]
 |_=>rfl
def jE(h1 h2:H)(c d:aa lH):Prop:=∀b a,c=some (.val b a)->a=h1/\d=some (.val b h2)
def jE.none:jE h1 h2 none none:=λ_ _ a=>by simp at a
def jE.val{a:aa T}:jE h1 h2 (val h1 a) (val h2 a):=λd c b=>by
 obtain⟨rfl,rfl⟩:=fW.1 b;exact⟨rfl,fW.2 ⟨rfl,rfl⟩⟩
def jE.some{a:T}:jE h1 h2 (some (.val a h1)) (some (.val a h2)):=λa c b=>by
 simp only[ar,lH.val.injEq]at b;obtain⟨rfl,rfl⟩:=b;exact⟨rfl,rfl⟩
def jE.dV{f:Type}{b:aa f}{c d:f->aa lH}(g:∀a,b=Option.some a->jE h1 h2 (c a) (d a)):jE h1 h2 (dV b c) (dV b d):=by
 cases b with
 |none=>exact jE.none
 |some a=>exact g a rfl
def jE.gh{a:Bool}{b c:aa lH}(d:jE h1 h2 b c):jE h1 h2 (gh a b) (gh a c):=by
 cases a with
 |false=>exact jE.none
 |true=>exact d
def jE.bool{a:Bool}{b d c f:aa lH}(g:jE h1 h2 b c)(i:jE h1 h2 d f):jE h1 h2 (Bool.casesOn a b d) (Bool.casesOn a c f):=by
 cases a<;>assumption
def LH(b:Nat->T):Prop:=(∀a,b a= .ptr a 0 0 0)\/(∃c,∀a,b a= .arr a 0 0 c false)\/(∀a,b a= .iter a)\/(∀a,b a= .map a)
def Mk(h1 h2:H)(f g:aa lH):Prop:=∀c b,f=some (.val c b)->∃a d,LH a/\c=a h1.size/\b=h1.cons d/\g=some (.val (a h2.size) (h2.cons d))
def Mk.none:Mk h1 h2 none none:=λ_ _ a=>by simp at a
def Mk.new{f:Nat->T}{c:iY}(d:LH f):Mk h1 h2 (jz (h1.new f c)) (jz (h2.new f c)):=λi g a=>by
 rw[jw,H.kF]at a;simp only[ar,az]at a;obtain⟨rfl,rfl⟩:=a;exact⟨f,c,d,rfl,rfl,by rw[jw,H.kF]⟩
def Mk.dV{f:Type}{b:aa f}{c d:f->aa lH}(g:∀a,b=Option.some a->Mk h1 h2 (c a) (d a)):Mk h1 h2 (dV b c) (dV b d):=by
 cases b with
 |none=>exact Mk.none
 |some a=>exact g a rfl
def Mk.gh{a:Bool}{b c:aa lH}(d:Mk h1 h2 b c):Mk h1 h2 (gh a b) (gh a c):=by
 cases a with
 |false=>exact Mk.none
 |true=>exact d
def Pu{a:ab}:Mk h1 h2 (jn (.alloc a) cx mask e h1) (jn (.alloc a) cx mask e h2):=by
 simp only[jn,CE];refine Mk.dV λb _=> ?_;cases wH cx b<;>exact Mk.new (.inl λ_=>rfl)
def VR{a:ab}{b:ah}:Mk h1 h2 (jn (.box a b) cx mask e h1) (jn (.box a b) cx mask e h2):=by
 simp only[jn,MP];exact Mk.dV λc _=>Mk.gh (Mk.new (.inl λ_=>rfl))
def Dx{c:ab}{b:Nat}{a:af (Nat×ah)}:Mk h1 h2 (jn (.buildSlice c b a) cx mask e h1) (jn (.buildSlice c b a) cx mask e h2):=by
 simp only[jn,ot];refine Mk.dV λd _=> ?_;cases d.u<;>first
  |exact Mk.none
  |exact Mk.dV λg _=>Mk.dV λa _=>Mk.gh (Mk.gh (Mk.dV λf _=>Mk.new (.inr (.inl ⟨_,λ_=>rfl⟩))))
def Ft{c:ab}{b a:ah}:Mk h1 h2 (jn (.makeSlice c b a) cx mask e h1) (jn (.makeSlice c b a) cx mask e h2):=by
 simp only[jn,pA];refine Mk.dV λd _=> ?_;cases d.u<;>first
  |exact Mk.none
  |exact Mk.dV λf _=>Mk.dV λ_ _=>Mk.dV λ_ _=>Mk.dV λ_ _=>Mk.dV λ_ _=>Mk.gh (Mk.gh (Mk.gh (Mk.gh (Mk.new (.inr (.inl ⟨_,λ_=>rfl⟩))))))
def Jx{b:ab}{a:aa ah}:Mk h1 h2 (jn (.makeMap b a) cx mask e h1) (jn (.makeMap b a) cx mask e h2):=Mk.none
def MD{f:Ty}{c g:T}(hl:∀a,dU c=some a->a<h1.size->h2.get a=h1.get a)(b:h1.load f c=some g):h2.load f c=some g:=by
 cases c with
 |ptr a j k m=>
  have b:(dV (h1.elem a j k) λe=>dV (jX m e.cells) λi=>ko f i)=some g:=b;show(dV (h2.elem a j k) λe=>dV (jX m e.cells) λi=>ko f i)=some g;replace b:=dL.1 b;obtain⟨n,l,b⟩:=b;have o:h2.elem a j k=some n:=by
   have d:=l;unfold H.elem at d|-;replace d:=dL.1 d;obtain⟨q,p,_⟩:=d;rw[hl a rfl (H.eJ p)];exact l
  rw[o];exact b
 |_=>exact b
def DC{g:Ty}{j:T}{b:Nat}(hl:∀a,dU j=some a->a<h1.size->h2.get a=h1.get a):jE h1 h2 (kH h1 g j b) (kH h2 g j b):=by
 cases j with
 |dN s m=>exact jE.dV λ_ _=>jE.gh jE.some
 |arr a d l k m=>
  intro o n f;have q:=f;have f:gh (Nat.blt b k) (dV (h1.get a) λc=>gh (Nat.beq c.sz g.size)<|gh (Nat.beq c.ep d) (dV (hU (Nat.add l b)) λi=>some (lH.val (.ptr a d i 0) h1)))=some (.val o n):=f;obtain⟨_,f⟩:=dT.1 f;obtain⟨j,r,_⟩:=dL.1 f;have p:=hl a rfl (H.eJ r);have:kH h2 g (.arr a d l k m) b=gh (Nat.blt b k) (dV (h1.get a) λc=>gh (Nat.beq c.sz g.size)<|gh (Nat.beq c.ep d) (dV (hU (Nat.add l b)) λi=>some (lH.val (.ptr a d i 0) h2))):=by
   rw[<-p];rfl
  rw[this];exact(jE.gh (jE.dV λ_ _=>jE.gh (jE.gh (jE.dV λ_ _=>jE.some))):jE h1 h2 (gh (Nat.blt b k) (dV (h1.get a) λc=>gh (Nat.beq c.sz g.size)<|gh (Nat.beq c.ep d) (dV (hU (Nat.add l b)) λi=>some (lH.val (.ptr a d i 0) h1)))) _) o n q
 |_=>exact jE.none
def DD{f:Nat}{g:Ty}{b:T}{d:Nat}(hl:∀a,dU b=some a->a<h1.size->h2.get a=h1.get a):jE h1 h2 (oO h1 f g b d) (oO h2 f g b d):=by
 unfold oO;refine jE.gh ?_;cases b<;>first
  |exact jE.none
  |exact jE.dV λ_ _=>jE.some
  |skip
 rename_i a k m n;simp only;cases c:h1.get a with
 |none=>intro o l i;simp at i
 |some j=>
  rw[hl a rfl (H.eJ c),c];simp only[dY];exact jE.bool (jE.dV λ_ _=>jE.some) (jE.gh (jE.dV λ_ _=>jE.some))
def JH{b:T}{f:List T}(hl:∀a,dU b=some a->a<h1.size->h2.get a=h1.get a)(c:h1.ji b=some f):h2.ji b=some f:=by
 cases b with
 |arr a j m l k=>
  have d:=c;unfold H.ji at d|-;simp only at d|-;obtain⟨i,g,_⟩:=dL.1 d;rw[hl a rfl (H.eJ g)];exact c
 |_=>exact c
def BN{g:U}{f:T}(hl:∀b,dU f=some b->b<h1.size->h2.get b=h1.get b)(a:jp cx h1 g f=true):jp cx h2 g f=true:=by
 cases g with
 |slice e=>
  unfold jp at a|-;simp only at a|-;cases d:cx.ty e with
  |none=>rw[d]at a;exact a
  |some k=>
   rw[d]at a;cases f with
   |arr b j q o l=>
    simp only at a|-;cases c:h1.get b with
    |none=>rw[c]at a;simp at a
    |some i=>rw[hl b rfl (H.eJ c),c];rw[c]at a;exact a
   |_=>exact a
 |array p e=>
  unfold jp at a|-;simp only at a|-;cases d:cx.ty e with
  |none=>rw[d]at a;exact a
  |some k=>
   rw[d]at a;cases f with
   |ptr b j m n=>
    simp only at a|-;cases c:h1.get b with
    |none=>rw[c]at a;simp at a
    |some i=>rw[hl b rfl (H.eJ c),c];rw[c]at a;exact a
   |_=>exact a
 |_=>exact a
def He{k:Op}(A:iB k=false)(hl:∀f,gG cx mask e h1 k=some f->f<h1.size->h2.get f=h1.get f){c:T}{g:H}(b:jn k cx mask e h1=some (.val c g)):
 (g=h1/\jn k cx mask e h2=some (.val c h2))\/
 (∃m a,LH m/\gG cx mask e h1 k=some h1.size/\c=m h1.size/\g=h1.cons a/\jn k cx mask e h2=some (.val (m h2.size) (h2.cons a))):=by
 have F:Mk h1 h2 (jn k cx mask e h1) (jn k cx mask e h2)->gG cx mask e h1 k=some h1.size->(g=h1/\jn k cx mask e h2=some (.val c h2))\/
  (∃m a,LH m/\gG cx mask e h1 k=some h1.size/\c=m h1.size/\g=h1.cons a/\jn k cx mask e h2=some (.val (m h2.size) (h2.cons a))):=λV x=>by
  obtain⟨m,a,L,M,aX,a6⟩:=V c g b;exact Or.inr ⟨m,a,L,x,M,aX,a6⟩
 by_cases S:∃w,k= .call w
 ·obtain⟨w,rfl⟩:=S;left;have:jE h1 h2 (jn (.call w) cx mask e h1) (jn (.call w) cx mask e h2):=by
   simp only[jn,CD];refine jE.dV λQ _=> ?_;cases R:w.callee with
   |invoke a V=>exact jE.none
   |value m=>simp[iB,R]at A
   |builtin f=>
    cases f<;>simp[iB,R]at A<;>simp only[lm]
    case len=>
     match Q with
     | []=>exact jE.none
     | [a]=>
      simp only[M7];refine jE.dV λ_ _=>jE.dV λj _=> ?_;cases j.u<;>first
       |exact jE.none
       |exact jE.val
       |(cases a<;>first|exact jE.none|exact jE.val)
     |_::_::_=>exact jE.none
    all_goals
     match Q with
     | []=>exact jE.none
     | [a]=>exact jE.none
     | [a,P]=>exact jE.val
     |_::_::_::_=>exact jE.none
  exact this c g b
 cases k with
 |alloc d=>exact F Pu rfl
 |box d a=>exact F VR rfl
 |buildSlice d n N=>exact F Dx rfl
 |makeSlice d l w=>exact F Ft rfl
 |range=>simp[iB]at A
 |entry=>simp[iB]at A
 |store=>simp[iB]at A
 |next=>simp[iB]at A
 |load d i=>
  left;have b:(dV (cx.ty d) λj=>dV (fR cx mask e i) λi=>val h1 (h1.load j i))=some (.val c g):=b;replace b:=dL.1 b;obtain⟨j,J,b⟩:=b;replace b:=dL.1 b;obtain⟨q,t,b⟩:=b;obtain⟨B,rfl⟩:=fW.1 b;refine⟨rfl,?_⟩;show(dV (cx.ty d) λj=>dV (fR cx mask e i) λi=>val h2 (h2.load j i))=some (.val c h2);rw[J,t];exact fW.2 ⟨MD (λf x z=>hl f (by show dV (fR cx mask e i) dU=some f;rw[t];exact x) z) B,rfl⟩
 |indexAddr d a E=>
  left;have U:∀q,fR cx mask e a=some q->∀f,dU q=some f->f<h1.size->h2.get f=h1.get f:=λq t f x z=>
   hl f (by show dV (fR cx mask e a) dU=some f;rw[t];exact x) z
  have:jE h1 h2 (jn (.indexAddr d a E) cx mask e h1) (jn (.indexAddr d a E) cx mask e h2):=by
   simp only[jn,pB];refine jE.dV λj _=>jE.dV λq t=>jE.dV λ_ _=>jE.dV λK _=> ?_;cases j.u<;>first
    |exact jE.none
    |exact jE.dV λO _=>DC (U q t)
    |exact jE.dV λO _=>DD (U q t)
  exact this c g b
 |slice d a v o p=>
  left;have b:(dV (cx.ty d) λj=>dV (fR cx mask e a) λa=>gh (jp cx h1 j.u a)<|dV (jQ cx mask e v) λv=>dV (jQ cx mask e o) λo=>dV (jQ cx mask e p) λp=>
   gh (yD o p) (val h1 (o9 (asSlice j.u a) v o p)))=some (.val c g):=b
  replace b:=dL.1 b;obtain⟨j,J,b⟩:=b;replace b:=dL.1 b;obtain⟨q,t,b⟩:=b;obtain⟨Y,b⟩:=dT.1 b;have Z:jp cx h2 j.u q=true:=BN (λf x z=>hl f (by show dV (fR cx mask e a) dU=some f;rw[t];exact x) z) Y;have:jE h1 h2 (dV (jQ cx mask e v) λv=>dV (jQ cx mask e o) λo=>dV (jQ cx mask e p) λp=>gh (yD o p) (val h1 (o9 (asSlice j.u q) v o p)))
   (dV (jQ cx mask e v) λv=>dV (jQ cx mask e o) λo=>dV (jQ cx mask e p) λp=>gh (yD o p) (val h2 (o9 (asSlice j.u q) v o p))):=
   jE.dV λ_ _=>jE.dV λ_ _=>jE.dV λ_ _=>jE.gh jE.val
  obtain⟨L,M⟩:=this c g b;refine⟨L,?_⟩;show(dV (cx.ty d) λj=>dV (fR cx mask e a) λa=>gh (jp cx h2 j.u a)<|dV (jQ cx mask e v) λv=>dV (jQ cx mask e o) λo=>dV (jQ cx mask e p) λp=>
   gh (yD o p) (val h2 (o9 (asSlice j.u a) v o p)))=some (.val c h2)
  rw[J,t];simp only[dY,Z,ir];exact M
 |binOp k d a P D=>
  left;have:jE h1 h2 (jn (.binOp k d a P D) cx mask e h1) (jn (.binOp k d a P D) cx mask e h2):=by
   cases k<;>simp only[jn,V7,MQ]<;>first
    |exact jE.dV λ_ _=>jE.dV λ_ _=>jE.dV λ_ _=>jE.gh (jE.dV λ_ _=>jE.val)
    |exact jE.dV λ_ _=>jE.dV λ_ _=>jE.val
  exact this c g b
 |move a=>left;exact(show jE h1 h2 (jn (.move a) cx mask e h1) (jn (.move a) cx mask e h2)from jE.val) c g b
 |assign a=>left;exact(show jE h1 h2 (jn (.assign a) cx mask e h1) (jn (.assign a) cx mask e h2)from jE.val) c g b
 |pick w i f=>
  left;have:jE h1 h2 (jn (.pick w i f) cx mask e h1) (jn (.pick w i f) cx mask e h2):=by
   simp only[jn,EP];refine jE.dV λc _=> ?_;cases c<;>first|exact jE.none|exact jE.bool jE.val jE.val
  exact this c g b
 |build d N=>
  left;have:jE h1 h2 (jn (.build d N) cx mask e h1) (jn (.build d N) cx mask e h2):=by
   simp only[jn,Aj];refine jE.dV λj _=>jE.dV λ_ _=> ?_;cases j.u<;>first|exact jE.none|exact jE.dV λ_ _=>jE.val|exact jE.dV λ_ _=>jE.dV λ_ _=>jE.val
  exact this c g b
 |nilCheck a=>
  left;have:jE h1 h2 (jn (.nilCheck a) cx mask e h1) (jn (.nilCheck a) cx mask e h2):=by
   simp only[jn,rk];refine jE.dV λc _=> ?_;cases c<;>first|exact jE.none|exact jE.some
  exact this c g b
 |unOp k d a=>left;exact(show jE h1 h2 (jn (.unOp k d a) cx mask e h1) (jn (.unOp k d a) cx mask e h2)from jE.dV λ_ _=>jE.val) c g b
 |convert C y a=>
  left;have b:(dV (cx.ty C) λ_=>dV (fR cx mask e a) λi=>dV (cx.ty y) λG=>match G.u with
   | .slice _=>val h1 (C4 cx y i)
   | .str=>(match i with
    | .str _=>val h1 (conv cx y i)
    |_=>val h1 (GM cx h1 C i))
   |_=>val h1 (conv cx y i))=some (.val c g):=b
  show g=h1/\(dV (cx.ty C) λ_=>dV (fR cx mask e a) λi=>dV (cx.ty y) λG=>match G.u with
   | .slice _=>val h2 (C4 cx y i)
   | .str=>(match i with
    | .str _=>val h2 (conv cx y i)
    |_=>val h2 (GM cx h2 C i))
   |_=>val h2 (conv cx y i))=some (.val c h2)
  obtain⟨bi,av,b⟩:=dL.1 b;obtain⟨q,t,b⟩:=dL.1 b;obtain⟨a7,an,b⟩:=dL.1 b;rw[av,t,an];simp only[dY];have ae:∀{D:T},GM cx h1 C q=some D->GM cx h2 C q=some D:=by
   intro D s;unfold GM at s|-;obtain⟨t2,al,s⟩:=dL.1 s;rw[al];simp only[dY];cases aE:t2.u<;>rw[aE]at s<;>simp only[reduceCtorEq]at s|-;obtain⟨O,ap,s⟩:=dL.1 s;rw[ap];simp only[dY];cases aN:O.u<;>rw[aN]at s<;>simp only[reduceCtorEq]at s|-;obtain⟨W,s⟩:=dT.1 s;rw[W,ir];obtain⟨a8,X,s⟩:=dL.1 s;rw[JH (λf x z=>hl f (by show dV (fR cx mask e a) dU=some f;rw[t];exact x) z) X];exact s
  cases aA:a7.u<;>rw[aA]at b<;>simp only at b|-
  case str=>
   cases q<;>simp only at b|- <;>(obtain⟨B,rfl⟩:=fW.1 b)<;>first
    |exact⟨rfl,fW.2 ⟨ae B,rfl⟩⟩
    |exact⟨rfl,fW.2 ⟨B,rfl⟩⟩
  all_goals
   obtain⟨B,rfl⟩:=fW.1 b;exact⟨rfl,fW.2 ⟨B,rfl⟩⟩
 |lookup=>exact .inl ((jE.none:jE h1 h2 _ _) c g b)
 |makeMap d r=>exact F Jx rfl
 |mapUpdate=>simp[iB]at A
 |makeInterface d a=>
  left;have:jE h1 h2 (jn (.makeInterface d a) cx mask e h1) (jn (.makeInterface d a) cx mask e h2):=by
   simp only[jn,Ag];refine jE.dV λj _=> ?_;cases j.u<;>first|exact jE.none|exact jE.dV λ_ _=>jE.gh jE.val
  exact this c g b
 |makeFunc I i f=>
  left;have:jE h1 h2 (jn (.makeFunc I i f) cx mask e h1) (jn (.makeFunc I i f) cx mask e h2):=by
   simp only[jn,CB];cases I<;>first
    |exact jE.none
    |(cases i.toList<;>first|exact jE.none|exact jE.dV λ_ _=>jE.val)
  exact this c g b
 |fieldAddr d a m=>
  left;have:jE h1 h2 (jn (.fieldAddr d a m) cx mask e h1) (jn (.fieldAddr d a m) cx mask e h2):=by
   simp only[jn,pF];refine jE.dV λ_ _=>jE.dV λc _=> ?_;cases c<;>first|exact jE.none|exact jE.dV λ_ _=>jE.some
  exact this c g b
 |field d a m=>
  left;have:jE h1 h2 (jn (.field d a m) cx mask e h1) (jn (.field d a m) cx mask e h2):=by
   simp only[jn,Ai];refine jE.dV λ_ _=>jE.dV λ_ _=>jE.dV λc _=> ?_;cases c<;>first|exact jE.none|exact jE.dV λ_ _=>jE.val
  exact this c g b
 |index d a E=>
  left;have:jE h1 h2 (jn (.index d a E) cx mask e h1) (jn (.index d a E) cx mask e h2):=by
   simp only[jn,Af];refine jE.dV λj _=>jE.dV λc _=>jE.dV λ_ _=>jE.dV λ_ _=> ?_;cases j.u<;>first
    |exact jE.none
    |(cases c<;>first|exact jE.none|exact jE.dV λ_ _=>jE.val|exact jE.dV λ_ _=>jE.gh (jE.dV λ_ _=>jE.val))
  exact this c g b
 |extract a K=>
  left;have:jE h1 h2 (jn (.extract a K) cx mask e h1) (jn (.extract a K) cx mask e h2):=by
   simp only[jn,un];refine jE.dV λc _=> ?_;cases c<;>first|exact jE.none|exact jE.val
  exact this c g b
 |_=>first|exact(S ⟨_,rfl⟩).elim|exact absurd b (by simp[jn])
end
end
noncomputable section
def It{c:List Nat}{b:List Edge}{e:Nat}(h:(wO c b).testBit e=true):
 ∃a∈b,Region.binds .any a=true/\(e=a.on\/(c.getD a.on 0).testBit e=true):=by
 induction b with
 |nil=>simp[wO]at h
 |cons a b j=>
  have h:(@Bool.rec (λ_=>Nat) (wO c b) ((wO c b)|||((1<<<a.on)|||(c.getD a.on 0))) (Region.binds .any a)).testBit e=true:=h;cases d:Region.binds .any a with
  |false=>
   rw[d]at h;obtain⟨f,g,i⟩:=j h;exact⟨f,by simp[g],i⟩
  |true=>
   rw[d]at h;simp only[Nat.testBit_or,cm]at h;rcases h with h|h|h
   ·obtain⟨f,g,i⟩:=j h;exact⟨f,by simp[g],i⟩
   ·refine⟨a,dC,d,.inl ?_⟩;rw[Nat.one_shiftLeft,Nat.testBit_two_pow]at h;exact(of_decide_eq_true h).symm
   ·exact⟨a,dC,d,.inr h⟩
structure Cl(ops:af Oper)(listed:af Bool):Prop where
 size:listed.size=ops.size
 closed:∀j oj,ops[j]? =some oj->listed.getD j false=true->∀e∈oj.after,Region.binds .any e=true->listed.getD e.on false=true
def Tf{ops:af Oper}{g:af Bool}(q:Cl ops g):∀(k:List Oper) (d:List Nat),(∀n:Nat,k[n]? =ops[d.length+n]?)->
 (∀(b c:Nat),d[b]? =some c->∀f,c.testBit f=true->∀i,ops[b]? =some i->(∀a∈i.after,Region.binds .any a=true->g.getD a.on false=true)->g.getD f false=true)->
 ∀(b c:Nat),(Kj k d)[b]? =some c->∀f,c.testBit f=true->∀i,ops[b]? =some i->(∀a∈i.after,Region.binds .any a=true->g.getD a.on false=true)->g.getD f false=true:=by
 intro k;induction k with
 |nil=>intro d _ l b c e;exact l b c e
 |cons i k B=>
  intro d hl l;refine B (d++[wO d i.after.toList]) (λn=> ?_) ?_
  ·have:=hl (n+1);simp only[dq]at this;rw[this];congr 1;simp;omega
  ·intro b c e f u C m s;by_cases v:b<d.length
   ·rw[bY v]at e;exact l b c e f u C m s
   ·rw[cD dB]at e;have z:b=d.length:=by
     rcases Nat.eq_or_lt_of_le (Nat.le_of_not_lt v)with h|h
     ·exact h.symm
     ·rw[aM dD]at e;simp at e
    subst z;simp at e;subst e;have r:=hl 0;simp at r;rw[<-r]at m;simp at m;subst m;obtain⟨a,x,w,j⟩:=It u;have o:=s a (by simpa using x) w;rcases j with rfl|j
    ·exact o
    ·have y:a.on<g.size:=by
      rcases aF a.on g.size with h|h
      ·exact h
      ·simp[cV h]at o
     have A:a.on<ops.size:=by rw[<-q.size];exact y
     have t:ops[a.on]? =some ops[a.on]:=by simp[A]
     cases p:d[a.on]? with
     |none=>rw[List.getD_eq_getElem?_getD,p]at j;simp at j
     |some c=>
      rw[List.getD_eq_getElem?_getD,p]at j;exact l a.on c p f j ops[a.on] t (q.closed a.on _ t o)
def B6{ops:af Oper}{e:af Bool}(i:Cl ops e){d b:Nat}{f:Oper}(a:jN ops d b=true)(l:ops[b]? =some f)
 (j:∀g∈f.after,Region.binds .any g=true->e.getD g.on false=true):e.getD d false=true:=by
 unfold jN at a;rw[List.getD_eq_getElem?_getD]at a;cases c:(Kj ops.toList [])[b]? with
 |none=>rw[c]at a;simp at a
 |some h=>
  rw[c]at a;exact Tf i ops.toList [] (λn=>by simp) (λm h k=>by simp at k) b h c d a f l j
def oM:Op->Bool
 | .store .. =>true
 |_=>false
def oQ(ops:af Oper):Bool:=
 let e:=Kj ops.toList []
 let d:=ops.toList.zipIdx
 d.all λa=>(a.1.after.toList.all λc=> !Region.binds .any c||Nat.blt c.on a.2)&&
  d.all λb=> !Nat.blt b.2 a.2||(b.1.apart ops a.1&&(!(iB b.1.op&&iB a.1.op)||(oM b.1.op&&oM a.1.op)))||(e.getD a.2 0).testBit b.2
def mem_zipIdx{ops:af Oper}{a:Nat}{b:Oper}(c:ops[a]? =some b):(b,a)∈ops.toList.zipIdx:=by
 rw[List.mem_iff_getElem?];exact⟨a,by simp[c]⟩
def JZ{ops:af Oper}(f:oQ ops=true){b:Nat}{c:Oper}(i:ops[b]? =some c):∀a∈c.after,Region.binds .any a=true->a.on<b:=by
 intro a h g;unfold oQ at f;have d:=List.all_eq_true.1 f (c,b) (mem_zipIdx i);simp only[ay]at d;have e:=List.all_eq_true.1 d.1 a (by simpa using h);simp only[g,cN,Bool.false_or,aH]at e;exact e
def Ic{ops:af Oper}(h:oQ ops=true){c d:Nat}{e f:Oper}(j:ops[c]? =some e)(l:ops[d]? =some f)(k:c<d):
 (e.apart ops f=true/\(iB e.op=true->iB f.op=true->oM e.op=true/\oM f.op=true))\/jN ops c d=true:=by
 unfold oQ at h;have g:=List.all_eq_true.1 h (f,d) (mem_zipIdx l);simp only[ay]at g;have b:=List.all_eq_true.1 g.2 (e,c) (mem_zipIdx j);have i:Nat.blt c d=true:=by rw[aH];exact k
 simp only[i,cN,Bool.false_or,cm,ay,ci,Bool.and_eq_false_iff]at b;rcases b with⟨b,a⟩|b
 ·left;refine⟨b,λm n=> ?_⟩;rcases a with(a|a)|a
  ·rw[m]at a;simp at a
  ·rw[n]at a;simp at a
  ·exact a
 ·right;exact b
section
variable {cx:Ctx}{cf:iX}{mask:Nat}{ops:af Oper}
def oY(mask:Nat)(ops:af Oper)(c:Nat->Env)(b:Nat):Prop:=∃a,ops[b]? =some a/\iB a.op=true/\kv ops mask (c b) a.guard=some true
def xv(cx:Ctx)(mask:Nat)(ops:af Oper)(c:Nat->Env)(d:Nat->H)(a e:Nat):Prop:=
 ∃b,ops[a]? =some b/\iB b.op=false/\kv ops mask (c a) b.guard=some true/\gG cx mask (c a) (d a) b.op=some e
def UR(cx:Ctx)(mask:Nat)(ops:af Oper)(c:Nat->Env)(a e:Nat):Prop:=
 ∃b f d g,ops[a]? =some b/\b.op= .store f d g/\kv ops mask (c a) b.guard=some true/\dV (fR cx mask (c a) d) dU=some e
structure Trace(cx:Ctx)(cf:iX)(mask:Nat)(ops:af Oper)(E:Nat->Env)(Hs:Nat->H):Prop where
 step:∀k o,ops[k]? =some o->ls cx cf mask ops (E k) (Hs k) o=some (E (k+1),Hs (k+1))
 ahead:∀k k' b,xv cx mask ops E Hs k b->oY mask ops E k'->k<k'->ff (Hs k') (Hs (k'+1)) b=true\/jN ops k k'=true
 behind:∀k k' b,xv cx mask ops E Hs k b->oY mask ops E k'->k'<k->ff (Hs k') (Hs (k'+1)) b=true\/jN ops k' k=true
 both:∀k k' b,UR cx mask ops E k b->oY mask ops E k'->k'<k->ff (Hs k') (Hs (k'+1)) b=true\/jN ops k' k=true
def xZ{a b:Bool}(c: @Bool.rec (λ_=>Bool) b true a=true):a=true\/b=true:=by cases a<;>simp_all
def yl{e:Oper}{k:List Oper}{d:Nat}{c:Seen}{g n:Env}{a o:H}(b:j3 cx cf mask ops (e::k) d c g a=some (n,o)):
 ∃h f j,ls cx cf mask ops g a e=some (h,f)/\kv ops mask g e.guard=some j/\
  ∃m,j3 cx cf mask ops k (d+1) m h f=some (n,o)/\(∀l∈c.mn,l∈m.mn)/\(∀l∈c.kT,l∈m.kT)/\
   (j=true->iB e.op=true->xj ops d a f c.mn=true/\(d,a,f)∈m.kT/\qK cx mask ops d g c.kT e.op=true)/\
   (j=true->iB e.op=false->∀i,gG cx mask g a e.op=some i->og ops d i c.kT=true/\(d,i)∈m.mn):=by
 have b:(dV (ls cx cf mask ops g a e) λl=>two l λh f=>
  dV (kv ops mask g e.guard) λj=> @Bool.rec (λ_=>aa (Env×H)) (j3 cx cf mask ops k (d+1) c h f)
   (@Bool.rec (λ_=>aa (Env×H))
     (@Option.rec Nat (λ_=>aa (Env×H)) (j3 cx cf mask ops k (d+1) c h f)
       (λi=>gh (og ops d i c.kT) (j3 cx cf mask ops k (d+1) ⟨(d,i)::c.mn,c.kT⟩ h f)) (gG cx mask g a e.op))
     (gh (xj ops d a f c.mn) (gh (qK cx mask ops d g c.kT e.op) (j3 cx cf mask ops k (d+1) ⟨c.mn,(d,a,f)::c.kT⟩ h f))) (iB e.op)) j)=some (n,o):=b
 replace b:=dL.1 b;obtain⟨⟨h,f⟩,t,b⟩:=b;simp only[kC]at b;replace b:=dL.1 b;obtain⟨j,u,b⟩:=b;refine⟨h,f,j,t,u,?_⟩;cases j with
 |false=>exact⟨c,b,λ_ a=>a,λ_ a=>a,λa=>by simp at a,λa=>by simp at a⟩
 |true=>
  cases r:iB e.op with
  |true=>
   rw[r]at b;obtain⟨p,b⟩:=dT.1 b;obtain⟨s,b⟩:=dT.1 b;exact⟨_,b,λ_ a=>a,λ_ a=>by simp[a],λ_ _=>⟨p,dC,s⟩,λ_ a=>by simp at a⟩
  |false=>
   rw[r]at b;cases q:gG cx mask g a e.op with
   |none=>
    rw[q]at b;exact⟨c,b,λ_ a=>a,λ_ a=>a,λ_ a=>by simp at a,λ_ _ i a=>by simp at a⟩
   |some i=>
    rw[q]at b;obtain⟨p,b⟩:=dT.1 b;exact⟨_,b,λ_ a=>by simp[a],λ_ a=>a,λ_ a=>by simp at a,λ_ _ v a=>by simp only[ar]at a;subst a;exact⟨p,dC⟩⟩
def Dp:∀(C:List Oper) (c:Nat) (u:Seen) (w D:Env) (q E:H),(∀M,C[M]? =ops[c+M]?)->j3 cx cf mask ops C c u w q=some (D,E)->
 ∃(i:Nat->Env) (j:Nat->H),i c=w/\j c=q/\i (c+C.length)=D/\j (c+C.length)=E/\
  (∀a h,c<=a->ops[a]? =some h->ls cx cf mask ops (i a) (j a) h=some (i (a+1),j (a+1)))/\
  (∀a b,c<=a->xv cx mask ops i j a b->∀g∈u.kT,ff g.2.1 g.2.2 b=true\/jN ops g.1 a=true)/\
  (∀a,c<=a->oY mask ops i a->∀g∈u.mn,ff (j a) (j (a+1)) g.2=true\/jN ops g.1 a=true)/\
  (∀a d b,c<=a->xv cx mask ops i j a b->oY mask ops i d->a<d->ff (j d) (j (d+1)) b=true\/jN ops a d=true)/\
  (∀a d b,c<=d->xv cx mask ops i j a b->oY mask ops i d->d<a->ff (j d) (j (d+1)) b=true\/jN ops d a=true)/\
  (∀a b,c<=a->UR cx mask ops i a b->∀g∈u.kT,ff g.2.1 g.2.2 b=true\/jN ops g.1 a=true)/\
  (∀a d b,c<=d->UR cx mask ops i a b->oY mask ops i d->d<a->ff (j d) (j (d+1)) b=true\/jN ops d a=true):=by
 intro C;induction C with
 |nil=>
  intro c u w D q E hl I;have I:some (w,q)=some (D,E):=I;simp only[ar,az]at I;obtain⟨rfl,rfl⟩:=I;have B:∀a h,c<=a->ops[a]? =some h->False:=λa h e m=>by
   have:=hl (a-c);rw[show c+(a-c)=a by omega,m]at this;simp at this
  refine⟨λ_=>w,λ_=>q,rfl,rfl,rfl,rfl,λa h e m=>(B a h e m).elim,?_,?_,?_,?_,?_,?_⟩
  ·rintro a b e ⟨h,m,_⟩;exact(B a h e m).elim
  ·rintro a e ⟨h,m,_⟩;exact(B a h e m).elim
  ·rintro a d b e ⟨h,m,_⟩;exact(B a h e m).elim
  ·rintro a d b e _ ⟨h,m,_⟩;exact(B d h e m).elim
  ·rintro a b e ⟨h,_,_,_,m,_⟩;exact(B a h e m).elim
  ·rintro a d b e _ ⟨h,m,_⟩;exact(B d h e m).elim
 |cons h C aN=>
  intro c u w D q E hl I;obtain⟨W,F,bu,aE,T,U,aA,ap,X,S,av⟩:=yl I;have O:ops[c]? =some h:=by have:=hl 0;simpa using this.symm
  obtain⟨i,j,aX,a7,a8,bi,bk,ae,al,bn,bp,Z,a6⟩:=aN (c+1) U W D F E (λM=>by
   have:=hl (M+1);simp only[dq]at this;rw[this];congr 1;omega) aA
  let p:Nat->Env:=λa=>if a=c then w else i a
  let y:Nat->H:=λa=>if a=c then q else j a
  have hE:∀a,a≠c->p a=i a:=λa e=>by simp[p,e]
  have o:∀a,a≠c->y a=j a:=λa e=>by simp[y,e]
  have A:p c=w:=by simp[p]
  have G:y c=q:=by simp[y]
  have an:p (c+1)=W:=by rw[hE _ dB,aX]
  have N:y (c+1)=F:=by rw[o _ dB,a7]
  have J:∀a,a≠c->oY mask ops p a->oY mask ops i a:=λa e=>by unfold oY;rw[hE a e];exact id
  have P:∀a b,a≠c->xv cx mask ops p y a b->xv cx mask ops i j a b:=λa b e=>by unfold xv;rw[hE a e,o a e];exact id
  have V:∀a b,a≠c->UR cx mask ops p a b->UR cx mask ops i a b:=λa b e=>by unfold UR;rw[hE a e];exact id
  have bs:∀b,UR cx mask ops p c b->og ops c b u.kT=true:=by
   rintro b ⟨Q,M,x,v,l,t,k,L⟩;rw[O]at l;simp only[ar]at l;subst l;rw[A,T]at k;rw[A]at L;simp only[ar]at k;have:=(S k (by rw[t];rfl)).2.2;rw[t]at this;have this: @Option.rec Nat (λ_=>Bool) true (λb=>og ops c b u.kT) (dV (fR cx mask w x) dU)=true:=this;rw[L]at this;exact this
  have R:oY mask ops p c->xj ops c q F u.mn=true/\(c,q,F)∈U.kT:=by
   rintro⟨Q,l,t,k⟩;rw[O]at l;simp only[ar]at l;subst l;rw[A,T]at k;simp only[ar]at k;exact⟨(S k t).1,(S k t).2.1⟩
  have Y:∀b,xv cx mask ops p y c b->og ops c b u.kT=true/\(c,b)∈U.mn:=by
   rintro b ⟨Q,l,t,k,L⟩;rw[O]at l;simp only[ar]at l;subst l;rw[A,T]at k;rw[A,G]at L;simp only[ar]at k;exact av k t b L
  refine⟨p,y,A,G,?_,?_,?_,?_,?_,?_,?_,?_,?_⟩
  ·rw[hE _ dC,<-a8];congr 1;simp;omega
  ·rw[o _ dC,<-bi];congr 1;simp;omega
  ·intro a Q e l;by_cases f:a=c
   ·subst f;rw[O]at l;simp only[ar]at l;subst l;rw[A,G,an,N];exact aE
   ·rw[hE a f,o a f,hE (a+1) dB,o (a+1) dB];exact bk a Q dB l
  ·intro a b e n g z;by_cases f:a=c
   ·subst f;obtain⟨t,_⟩:=Y b n;exact xZ (ql t g z)
   ·exact ae a b dB (P a b f n) g (X g z)
  ·intro a e r g z;by_cases f:a=c
   ·subst f;obtain⟨t,_⟩:=R r;rw[G,N];exact xZ (ql t g z)
   ·rw[o a f,o (a+1) dB];exact al a dB (J a f r) g (ap g z)
  ·intro a d b e n r K;have s:d≠c:=dB;rw[o d s,o (d+1) dB];by_cases f:a=c
   ·subst f;obtain⟨_,k⟩:=Y b n;exact al d dB (J d s r) (a,b) k
   ·exact bn a d b dB (P a b f n) (J d s r) K
  ·intro a d b e n r K;have f:a≠c:=dB;by_cases s:d=c
   ·subst s;obtain⟨_,k⟩:=R r;rw[G,N];exact ae a b dB (P a b f n) (d,q,F) k
   ·rw[o d s,o (d+1) dB];exact bp a d b dB (P a b f n) (J d s r) K
  ·intro a b e n g z;by_cases f:a=c
   ·subst f;exact xZ (ql (bs b n) g z)
   ·exact Z a b dB (V a b f n) g (X g z)
  ·intro a d b e n r K;have f:a≠c:=dB;by_cases s:d=c
   ·subst s;obtain⟨_,k⟩:=R r;rw[G,N];exact Z a b dB (V a b f n) (d,q,F) k
   ·rw[o d s,o (d+1) dB];exact a6 a d b dB (V a b f n) (J d s r) K
def Ec(cx:Ctx)(cf:iX)(mask:Nat)(c:Env)(a:H)(f:Op)(g:T)(e:H):Prop:=
 jn f cx mask c a=some (.val g e)\/∃d b,jn f cx mask c a=some (.call d b)/\cf d b a=some (g,e)
def mQ{e b:Env}{g c:H}{f:Oper}(a:ls cx cf mask ops e g f=some (b,c)):
 (kv ops mask e f.guard=some false/\e.dst mask f.dst .undef=some b/\c=g)\/
 (kv ops mask e f.guard=some true/\∃d,Ec cx cf mask e g f.op d c/\e.dst mask f.dst d=some b):=by
 replace a:=dL.1 a;obtain⟨r,p,a⟩:=a;cases r with
 |false=>
  left;have a:(dV (e.dst mask f.dst .undef) λb=>some (b,g))=some (b,c):=a;replace a:=dL.1 a;obtain⟨m,h,a⟩:=a;simp only[ar,az]at a;obtain⟨rfl,rfl⟩:=a;exact⟨p,h,rfl⟩
 |true=>
  right;refine⟨p,?_⟩;have a:(dV (jn f.op cx mask e g) λk=> @lH.rec (λ_=>aa (Env×TI.H))
   (λd c=>dV (e.dst mask f.dst d) λb=>some (b,c))
   (λj i=>dV (cf j i g) λl=>two l λd c=>dV (e.dst mask f.dst d) λb=>some (b,c)) k)=some (b,c):=a
  replace a:=dL.1 a;obtain⟨k,o,a⟩:=a;rcases k with⟨d,n⟩|⟨j,i⟩
  ·skip
   have a:(dV (e.dst mask f.dst d) λb=>some (b,n))=some (b,c):=a;replace a:=dL.1 a;obtain⟨m,h,a⟩:=a;simp only[ar,az]at a;obtain⟨rfl,rfl⟩:=a;exact⟨d,.inl o,h⟩
  ·skip
   have a:(dV (cf j i g) λl=>two l λd c=>dV (e.dst mask f.dst d) λb=>some (b,c))=some (b,c):=a;replace a:=dL.1 a;obtain⟨⟨d,n⟩,q,a⟩:=a;simp only[kC]at a;replace a:=dL.1 a;obtain⟨m,h,a⟩:=a;simp only[ar,az]at a;obtain⟨rfl,rfl⟩:=a;exact⟨d,.inr ⟨j,i,o,q⟩,h⟩
def CQ{P:ai}{h:Nat}{a:World}{g:Mu}{j:Env}{b c:H}{i:Act}{k:Oper}{f:T}(iZ:jd P cx)(o:nH P cx cf)
 (e:St cx h a.heap g b) (l:kt a.heap g mask j i.tmps) (u:Ec cx cf mask j b k.op f c):ze P (qB cx h a g b f c) ((execOp i.eval k).run P a):=by
 rcases u with d|⟨p,m,d,s⟩
 ·exact((yx iZ e l d).ZT).mono λv w r=>⟨r,Pt e.wf f c d⟩
 ·obtain⟨_,n,q,t⟩:=Hf (P:=P) e l d;rw[t];exact o p m b f c s h a g n e q
def Ec.congr{b e':Env}{c d:H}{a:Op}{f:T}(h:∀g∈a.operands,fR cx mask b g=fR cx mask e' g)(e:Ec cx cf mask b c a f d):Ec cx cf mask e' c a f d:=by
 unfold Ec at*
 rw[zK h]at e;exact e
def JI{b:Call}{e:Env}{g:H}{f:aj}{d:List T}(a:jn (.call b) cx mask e g=some (.call f d)):iB (.call b)=true:=by
 have a:CD b cx mask e g=some (.call f d):=a;replace a:=dL.1 a;obtain⟨j,hl,a⟩:=a;cases c:b.callee with
 |builtin h=>rw[c]at a;exact(u9 a).elim
 |invoke l k=>rw[c]at a;simp at a
 |value i=>simp[iB,c]
def H9{d:Env}{e f:H}{c:Op}{i:T}(h:iB c=false)(l:Ec cx cf mask d e c i f):jn c cx mask d e=some (.val i f):=by
 rcases l with b|⟨k,j,b,_⟩
 ·exact b
 ·by_cases g:∃a,c= .call a
  ·obtain⟨a,rfl⟩:=g;rw[JI b]at h;simp at h
  ·exact absurd b (Ch (λa m=>g ⟨a,m⟩) k j)
def yp(mask:Nat)(a:Env):List Nat->fX
 | []=> .nil
 |s::b=>match a.get mask s with
  |some c=> .cons s c (yp mask a b)
  |none=>yp mask a b
def JC{d:Env}{c:Nat}:∀(b:List Nat),dO (yp mask d b) c=if c∈b then d.get mask c else none:=by
 intro b;induction b with
 |nil=>simp[yp,dO]
 |cons e b g=>
  unfold yp;cases f:d.get mask e with
  |none=>
   simp only[g,cw];by_cases a:c=e
   ·subst a;simp[f]
   ·simp[a]
  |some h=>
   simp only[nh,g,cw];by_cases a:e=c
   ·subst a;simp[f]
   ·simp[a,bm a]
def BX(mask:Nat)(a:Env)(b:List Nat):Env:=⟨yp mask a b,yp mask a b⟩
def yq{b:Env}{a:Nat}{c:List Nat}:(BX mask b c).get mask a=if a∈c then b.get mask a else none:=by
 show @Bool.rec (λ_=>aa T) (dO (yp mask b c) a) (dO (yp mask b c) a) (km mask a)=_;rw[JC];cases km mask a<;>rfl
def zJ{a:Env}{c:Oper}{b:ah}(e:b∈c.op.operands):fR cx mask a b=fR cx mask (BX mask a (c.looksAt ops)) b:=by
 cases b with
 |tmp d=>
  show a.get mask d=(BX mask a (c.looksAt ops)).get mask d;rw[yq,aq];unfold Oper.looksAt;exact dc _ (List.mem_filterMap.2 ⟨.tmp d,by simpa using e,rfl⟩)
 |const f=>rfl
 |global h=>rfl
 |func g=>rfl
def IJ{c:Env}{a:Oper}:kv ops mask (BX mask c (a.looksAt ops)) a.guard=kv ops mask c a.guard:=by
 cases h:a.guard with
 |none=>rfl
 |some f=>
  obtain⟨d,k⟩:=f;show(dV (dV (dV (md ops.toList d) λa=>a.dst) λb=>(BX mask c (a.looksAt ops)).get mask b) λj=>_)=(dV (dV (dV (md ops.toList d) λa=>a.dst) λb=>c.get mask b) λj=>_);cases e:(dV (md ops.toList d) λa=>a.dst)with
  |none=>rfl
  |some b=>
   simp only[dY];rw[yq,aq];unfold Oper.looksAt;refine dA _ ?_;replace e:=dL.1 e;obtain⟨f,g,i⟩:=e;rw[kA]at g;have:ops[d]? =some f:=by simpa using g
   simp[h,this,i]
end
end
noncomputable section
def fD.conv{E:af Obj}{B C:Mu}{b:T}{r:am}(a:fD E B b r){n:Nat}(hl:pP n b)(s:∀c e,c<n->B c=some e->C c=some e)
 (D:∀k,nz C k->nz B k):fD E C b r:=by
 induction a with
 |undef=>exact .undef
 |bool c=>exact .bool c
 |int d Q=>exact .int d Q
 |str S a=>exact .str S a
 |kw=>exact .kw
 |ptr c w k O e h j x L=>cases hl with|ptr _ _ _ _ a=>exact .ptr c w k O e h (s c e a j) x L
 |jB v t off arr q fz A y i p hr g=>
  cases hl with|jB _ a=>exact .jB v t off arr q fz (λd=>A (D _ d)) y i p λd b f=>g d b f (a b (ax f))
 |nM m h=>exact .nM m h
 |dN I J m t off u U arr q fz A y z M N i p hr g=>
  cases hl with|dN _ _ a=>exact .dN I J m t off u U arr q fz (λd=>A (D _ d)) y z M N i p λd b f=>g d b f (a b (ax f))
 |gu h u=>exact .gu h u
 |arr c w R P m e h G j x z o=>cases hl with|arr _ _ _ _ _ a=>exact .arr c w R P m e h G (s c e a j) x z o
 |func K F l i hr g=>cases hl with|func _ _ a=>exact .func K F l i λd b f=>g d b f (a b (ax f))
 |kK=>exact .kK
 |kM=>exact .kM
 |iface q b r a g=>cases hl with|iface _ _ a=>exact .iface q b r (g a)
 |iter c e h j o=>cases hl with|iter _ a=>exact .iter c e h (s c e a j) o
 |map c e k j o=>cases hl with|map _ a=>exact .map c e k (s c e a j) o
 |nR=>exact .nR
 |agg v l i p hr g=>cases hl with|agg _ a=>exact .agg v l i p λd b f=>g d b f (a b (ax f))
 |tuple V l i hr g=>cases hl with|tuple _ a=>exact .tuple V l i λd b f=>g d b f (a b (ax f))
def qI.conv{u:af Obj}{s t:Mu}{e:Loc}{q:iY}(i:qI u s e q){n:Nat}(hl:∀c∈fx q.eZ,pP n c)(k:∀m e,m<n->s m=some e->t m=some e)
 (j:∀l,nz t l->nz s l):qI u t e q:=by
 refine⟨i.ep,i.sz,λb=> ?_,λb=> ?_⟩
 ·have h:=i.plain b;obtain⟨x,L,a,f,d⟩:=h.row;exact⟨⟨x,L,a,f,d.1,λb c v=>(d.2 b c v).conv (hl c (ax v)) k j⟩,h.room,h.tz,h.size,h.scalar⟩
 ·obtain⟨p,a|⟨z,a,f,d⟩|⟨G,F,J,K,y,a,f,d,E⟩⟩:=i.iter b
  ·exact⟨p,.inl a⟩
  rotate_left
  ·exact⟨p,.inr (.inr ⟨G,F,J,K,y,a,f.conv (hl _ (by rw[a];simp[fx,T.cells])) k j,d,E⟩)⟩
  ·refine⟨p,.inr (.inl ⟨z,a,f,λl r w=> ?_⟩)⟩;obtain⟨b,c,I,o,A,B,C,D⟩:=d l r w;have g:=hl r (List.mem_flatMap.2 ⟨r,ax w,by rw[o];simp[T.cells]⟩);rw[o]at g;cases g with|tuple _ g=>exact⟨b,c,I,o,A,B,C.conv (g b dC) k j,D.conv (g c dC) k j⟩
def pP.mono{n c:Nat}{d:T}(a:pP n d)(g:n<=c):pP c d:=by
 induction a with
 |ptr b e h i a=>exact .ptr _ _ _ _ dB
 |arr b e k j f a=>exact .arr _ _ _ _ _ dB
 |iter b a=>exact .iter _ dB
 |map b a=>exact .map _ dB
 |_=>constructor<;>assumption
def St.congr{cx:Ctx}{f:Nat}{i:af Obj}{e:Mu}{g d:H}(a:St cx f i e g)(m:d.fy.length=d.size)(k:∀b c,e b=some c->d.get b=g.get b):St cx f i e d:=
 ⟨m,a.fit,λb c h=>by obtain⟨o,j,l⟩:=a.box b c h;exact⟨o,by rw[k b c h];exact j,l⟩,a.inj,a.low,a.apart,a.qF,a.yM⟩
def H.get_some{a:H}(e:a.fy.length=a.size){b:Nat}(c:b<a.size):∃d,a.get b=some d:=by
 rw[H.get_eq,aq c];exact⟨a.fy[a.size-1-b]' dB,dC⟩
def uu(Hs:Nat->H)(a:Nat):Nat->Nat
 |0=>0
 |k+1=>if a<(Hs k).size then uu Hs a k else k+1
def Gg(Hs:Nat->H)(a n:Nat):uu Hs a n<=n:=by
 induction n with
 |zero=>simp[uu]
 |succ n b=>unfold uu;split<;>omega
def WE{Hs:Nat->H}{b:Nat}{n:Nat}(e:∀a,a<n->(Hs a).size<=(Hs (a+1)).size)(c:b<(Hs n).size):b<(Hs (uu Hs b n)).size:=by
 induction n with
 |zero=>exact c
 |succ n f=>
  unfold uu;split
  ·rename_i d;exact f (λa g=>e a dB) d
  ·exact c
def ST{Hs:Nat->H}{d:Nat}:∀{n p:Nat},p<uu Hs d n->(∀b,b<n->(Hs b).size<=(Hs (b+1)).size)->(Hs p).size<=d:=by
 intro n;induction n with
 |zero=>intro p a;simp[uu]at a
 |succ n g=>
  intro p a e;unfold uu at a;split at a
  ·exact g a λb j=>e b dB
  ·rename_i i;have:∀c,p+c=n->(Hs p).size<=(Hs n).size:=by
    intro c;induction c generalizing p with
    |zero=>intro f;rw[show p=n by omega];exact au _
    |succ c h=>
     intro f;have:=e p dB;have:=h (p:=p+1) dB dB;omega
   have:=this (n-p) dB;omega
section
variable {Hs:Nat->H}{n:Nat}
def nc(f:∀c,c<n->(Hs c).size<=(Hs (c+1)).size){b d:Nat}(e:b<=d)(j:d<=n):(Hs b).size<=(Hs d).size:=by
 obtain⟨a,rfl⟩:=Nat.exists_eq_add_of_le e;clear e;induction a with
 |zero=>exact au _
 |succ a g=>
  have h:=g dB;have i:=f (b+a) dB;have:b+(a+1)=b+a+1:=dB;rw[this];omega
def kV(c:∀a,a<n->(Hs a).size<=(Hs (a+1)).size){b a:Nat}(e:b<(Hs n).size)(g:a<=n):b<(Hs a).size↔uu Hs b n<=a:=by
 constructor
 ·intro d;rcases aF a (uu Hs b n)with h|f
  ·have:=ST h c;omega
  ·exact f
 ·intro d;have:=WE c e;have:=nc c d g;omega
def lZ(l:∀a,a<n->(Hs a).size<=(Hs (a+1)).size){c b e:Nat}(g:b<=e)(f:∀a,b<=a->a<e->(Hs (a+1)).get c=(Hs a).get c):(Hs e).get c=(Hs b).get c:=by
 obtain⟨d,rfl⟩:=Nat.exists_eq_add_of_le g;clear g;induction d with
 |zero=>rfl
 |succ d k=>
  have i:=k λa h c=>f a h dB;have j:=f (b+d) dB dB;have:b+(d+1)=b+d+1:=dB;rw[this,j,i]
end
def PH(Hs:Nat->H)(n:Nat)(b:Nat->Nat):H:=
 ⟨(Hs n).size,0,(List.range (Hs n).size).reverse.map λa=>((Hs (max (b a) (uu Hs a n))).get a).getD default⟩
def E1(Hs:Nat->H)(n:Nat)(a:Nat->Nat):(PH Hs n a).fy.length=(PH Hs n a).size:=by simp[PH]
def Xn{Hs:Nat->H}{n a:Nat}{c:Nat->Nat}(g:∀b,b<n->(Hs b).size<=(Hs (b+1)).size)(i:∀b,b<=n->(Hs b).fy.length=(Hs b).size)(k:c a<=n)(d:a<(Hs n).size):
 (PH Hs n c).get a=(Hs (max (c a) (uu Hs a n))).get a:=by
 have e:max (c a) (uu Hs a n)<=n:=by have:=Gg Hs a n;omega
 have f:a<(Hs (max (c a) (uu Hs a n))).size:=(kV g d e).2 dB;obtain⟨l,j⟩:=H.get_some (i _ e) f;rw[H.get_eq];have h:(PH Hs n c).size=(Hs n).size:=rfl;rw[h,aq d];show((List.range (Hs n).size).reverse.map λa=>((Hs (max (c a) (uu Hs a n))).get a).getD default)[(Hs n).size-1-a]? =_;rw[aQ,List.getElem?_reverse dD];have:(List.range (Hs n).size).length-1-((Hs n).size-1-a)=a:=dD;rw[this];simp[d,j]
def sh(b:af Oper)(a:af Bool)(c:Nat):Nat->Nat
 |0=>0
 |k+1=>if a.getD k false=true/\(b[k]?).bind (·.dst)=some c then k+1 else sh b a c k
def yF{ops:af Oper}{listed:af Bool}{s:Nat}:∀(n:Nat),sh ops listed s n=0\/∃a,sh ops listed s n=a+1/\a<n/\listed.getD a false=true/\(ops[a]?).bind (·.dst)=some s:=by
 intro n;induction n with
 |zero=>left;rfl
 |succ n e=>
  unfold sh;split
  ·rename_i b;right;exact⟨n,rfl,dB,b.1,b.2⟩
  ·rcases e with b|⟨a,c,f,d⟩
   ·left;exact b
   ·right;exact⟨a,c,dB,d⟩
def Jz{ops:af Oper}{listed:af Bool}{s:Nat}:∀{n a:Nat},a<n->listed.getD a false=true->(ops[a]?).bind (·.dst)=some s->a+1<=sh ops listed s n:=by
 intro n;induction n with
 |zero=>intro a d;omega
 |succ n g=>
  intro a d b c;unfold sh;split
  ·omega
  ·rename_i e;rcases Nat.eq_or_lt_of_le (Nat.le_of_lt_succ d)with rfl|f
   ·exact absurd ⟨b,c⟩ e
   ·exact g f b c
def VV{ops:af Oper}{listed:af Bool}{s:Nat}(n:Nat):sh ops listed s n<=n:=by
 rcases yF (ops:=ops) (listed:=listed) (s:=s) n with a|⟨d,b,c,_⟩<;>omega
def MB{c:af Oper}{g h:af Bool}{d:Nat}:∀{n:Nat},(∀a,a<n->(c[a]?).bind (·.dst)=some d->h.getD a false=g.getD a false)->sh c h d n=sh c g d n:=by
 intro n;induction n with
 |zero=>intro _;rfl
 |succ n b=>
  intro e;have b:=b λa i=>e a dB;unfold sh;by_cases f:(c[n]?).bind (·.dst)=some d
  ·rw[e n dB f,b]
  ·simp[f,b]
end
end Go.TI
