/- Texts TiEnv to TiDraw2. -/
import Derived.Test.YtmaeadedikngoaaGreatDoorA4
import Derived.Orders
set_option linter.all false
namespace Go.TI
noncomputable section
def mN(b:Nat)(d:T)(c:fN)(a:Nat):dH (.cons b d c) a=if b=a then some d else dH c a:=by
 show @Bool.rec (λ_=>aa T) (dH c a) (some d) (Nat.beq b a)=_;cases e:Nat.beq b a with
 |true=>have:=aC e;simp[this]
 |false=>have:=cK e;simp[this]
def FQ{l e:fN}{c:Nat}{g:T}(a:lr l c g=some e)(f:Nat):dH e f=if f=c then some g else dH l f:=by
 induction l generalizing e with
 |nil=>
  have a:some (fN.cons c g .nil)=some e:=a;simp only[ar]at a;subst a;rw[mN];by_cases b:c=f
  ·simp[b]
  ·simp[b,bg b]
 |cons d m i o=>
  have a: @Bool.rec (λ_=>aa fN) (dM (lr i c g) λj=>some (.cons d m j)) (some (.cons d g i)) (Nat.beq d c)=some e:=a;cases h:Nat.beq d c with
  |true=>
   rw[h]at a;have k:=aC h;have a:some (fN.cons d g i)=some e:=a;simp only[ar]at a;subst a;rw[mN,mN,k];by_cases b:c=f
   ·simp[b]
   ·simp[b,bg b]
  |false=>
   rw[h]at a;have k:=cK h;have a:(dM (lr i c g) λj=>some (fN.cons d m j))=some e:=a;obtain⟨j,ht,a⟩:=dD.1 a;simp only[ar]at a;subst a;rw[mN,mN,o ht];by_cases b:d=f
   ·have:f≠c:=λn=>k (b.trans n);simp[b,this]
   ·simp[b]
def Env.AU{d:Nat}{m g:Env}{c:Nat}{f:T}(a:m.set d c f=some g)(b:Nat):g.get d b=if b=c then some f else m.get d b:=by
 obtain⟨l,k⟩:=m;have a: @Bool.rec (λ_=>aa Env) (some ⟨l,.cons c f k⟩) (dM (lr l c f) λj=>some ⟨j,k⟩) (jW d c)=some g:=a;have get:∀(h i:fN),(⟨h,i⟩:Env).get d b=if jW d b=true then dH h b else dH i b:=by
  intro h i;show @Bool.rec (λ_=>aa T) (dH i b) (dH h b) (jW d b)=_;cases jW d b<;>rfl
 cases hl:jW d c with
 |false=>
  rw[hl]at a;have a:some (⟨l,.cons c f k⟩:Env)=some g:=a;simp only[ar]at a;subst a;rw[get,get,mN];by_cases e:b=c
  ·subst e;simp[hl]
  ·simp[e,bg e]
 |true=>
  rw[hl]at a;have a:(dM (lr l c f) λj=>some (⟨j,k⟩:Env))=some g:=a;obtain⟨j,n,a⟩:=dD.1 a;simp only[ar]at a;subst a;rw[get,get,FQ n];by_cases e:b=c
  ·subst e;simp[hl]
  ·simp[e]
def j7.put{k:af Obj}{m:Mu}{h:Nat}{f g:Env}{i:Act}{e:aa Tmp}{l:T}{c:am}(o:j7 k m h f i.tmps)(s:fg k m l c)(q:∀b,e=some b->b<i.tmps.size)
 (a:f.dst h e l=some g):j7 k m h g (i.put e c).tmps:=by
 cases e with
 |none=>
  have a:some f=some g:=a;simp only[ar]at a;subst a;exact o
 |some b=>
  have a:f.set h b l=some g:=a;intro p t d;rw[Env.AU a]at d;have r:=q b rfl;by_cases j:p=b
  ·subst j;simp only[bo,ar]at d;subst d;simpa[Act.put,aV,r]using s
  ·simp only[j,br]at d;have:=o p t d;simpa[Act.put,aV,Array.getElem?_setIfInBounds_ne (bg j)]using this
def Act.pj(a:Act)(b:aa Tmp)(c:am):(a.put b c).tmps.size=a.tmps.size:=by cases b<;>simp[Act.put]
def Act.pk(a:Act)(b:aa Tmp)(c:am):(a.put b c).defers=a.defers:=by cases b<;>rfl
def A7{x:af Obj}{A:Mu}{l:Nat}{j:Env}{c:Act}{g:af Oper}{i:Oper}{d:Bool}(z:j7 x A l j c.tmps)(v:∀(f:Nat) (b:Oper) t,g[f]? =some b->b.dst=some t->t<c.tmps.size)
 (a:j9 g l j i.guard=some d):Region.wanted i (yielded g c.tmps)=d:=by
 unfold Region.wanted;cases o:i.guard with
 |none=>
  rw[o]at a;have a:some true=some d:=a;simpa using a
 |some b=>
  obtain⟨f,n⟩:=b;rw[o]at a;have a:(dM (dM (dM (lM g.toList f) λi=>i.dst) λe=>j.get l e) λm=>
   match m with
   | .bool d=>some (@Bool.rec (λ_=>Bool) (@Bool.rec (λ_=>Bool) true false n) n d)
   |_=>some false)=some d:=a
  replace a:=dD.1 a;obtain⟨m,h,a⟩:=a;replace h:=dD.1 h;obtain⟨e,k,h⟩:=h;replace k:=dD.1 k;obtain⟨b,p,r⟩:=k;rw[ks]at p;have q:g[f]? =some b:=by simpa using p
  have w:=v f b e q r;have s:=z e m h;have y:((g[f]?).bind (·.dst)).bind (c.tmps[·]?)=some (c.tmps.getD e Go.undef):=by
   simp[q,r,aV,w]
  simp only[yielded,y];generalize c.tmps.getD e Go.undef=B at s;cases s<;>simp only[ar]at a<;>first
   |(subst a;rfl)
   |skip
  rename_i u;subst a;cases u<;>cases n<;>rfl
def pU(cx:Ctx)(base:Nat)(w:World)(f:Mu)(h:H)(c:T)(h':H)(b:am)(d:World):Prop:=TQ cx base w f h.size c h' b d/\kJ h h'
def mX(P:ai)(cx:Ctx)(cf:iL):Prop:=
 ∀f c h g h',cf f c h=some (g,h')->∀base w b (d:af am),St cx base w.heap b h->fV w.heap b c d.toList->yE P (pU cx base w b h g h') ((callFunc f d).run P w)
def sH(cx:Ctx)(base mask m:Nat)(w0:World)(μ0:Mu)(h0:H)(e:Env)(h:H)(a:Act)(w:World):Prop:=
 ∃b,St cx base w.heap b h/\j7 w.heap b mask e a.tmps/\oU w0 μ0 w b/\xE μ0 b h0.size h.size/\kJ h0 h/\a.tmps.size=m/\a.defers=[]
section
variable {P:ai}{cx:Ctx}{cf:iL}{base mask m:Nat}{w0 w:World}{μ0:Mu}{h0 h h':H}{e e':Env}{a:Act}{ops:af Oper}{Q:Exit->Act->World->Prop}
def D5(m:Nat)(ops:af Oper):Prop:=∀(d:Nat) (b:Oper) c,ops[d]? =some b->b.dst=some c->c<m
def sH.after(H:sH cx base mask m w0 μ0 h0 e h a w){d:aa Tmp}(r:∀b,d=some b->b<m){l:T}(u:e.dst mask d l=some e')
 {g:Result Next} (hr:∀base c,St cx base w.heap c h->j7 w.heap c mask e a.tmps->yE P (pU cx base w c h l h') g):yE P (λi n=>sH cx base mask m w0 μ0 h0 e' h' (a.put d i) n) g:=by
 obtain⟨c,b,k,A,o,p,j,s⟩:=H;refine(hr base c b k).mono λi n q=> ?_;obtain⟨⟨B,v,x,f,y⟩,z⟩:=q;refine⟨B,x,?_,A.trans f,o.trans (hp:=w.heap) y f.ext,p.trans z,by rw[Act.pj];exact j,by rw[Act.pk];exact s⟩;exact j7.put (k.ext f.ext) v (λb t=>by rw[j];exact r b t) u
def H4(iG:iP P cx)(G:mX P cx cf){n:Nat}{d:Oper}(s:ops[n]? =some d)(r:D5 m ops)(b:kV cx cf mask ops e h d=some (e',h'))
 (H:sH cx base mask m w0 μ0 h0 e h a w) {z:Act->World->Prop} (v:∀A o,sH cx base mask m w0 μ0 h0 e' h' A o->z A o):wpOp P ops Q n z a w:=by
 have E:=H;obtain⟨t,c,f,V,I,J,x,M⟩:=E;unfold wpOp;simp only[s];replace b:=dD.1 b;obtain⟨U,R,b⟩:=b;have D:=A7 f (λS T c N i=>by rw[x];exact r S T c N i) R;cases U with
 |false=>
  have b:(dM (e.dst mask d.dst .undef) λe'=>some (e',h))=some (e',h'):=b;replace b:=dD.1 b;obtain⟨C,l,b⟩:=b;simp only[ar,ay]at b;obtain⟨rfl,rfl⟩:=b;simp only[D,cd,br];refine v _ _ ⟨t,c,j7.put f .undef (λc i=>by rw[x];exact r n d c s i) l,V,I,J,by rw[Act.pj];exact x,by rw[Act.pk];exact M⟩
 |true=>
  simp only[D,bo];left;have b:(dM (ja d.op cx mask e h) λu=> @lh.rec (λ_=>aa (Env×TI.H))
   (λg h'=>dM (e.dst mask d.dst g) λe'=>some (e',h'))
   (λq p=>dM (cf q p h) λf=>two f λg h'=>dM (e.dst mask d.dst g) λe'=>some (e',h')) u)=some (e',h'):=b
  replace b:=dD.1 b;obtain⟨u,y,b⟩:=b;rcases u with⟨g,j⟩|⟨q,p⟩
  ·skip
   have b:(dM (e.dst mask d.dst g) λe'=>some (e',j))=some (e',h'):=b;replace b:=dD.1 b;obtain⟨C,l,b⟩:=b;simp only[ar,ay]at b;obtain⟨rfl,rfl⟩:=b;refine yE.wp (H.after (λc i=>r n d c s i) l (h':=j) λbase t c f=> ?_) (λB o k=>v _ _ k);exact((xV iG c f y).Yv).mono λB o k=>⟨k,Oo c.wf g j y⟩
  ·skip
   have b:(dM (cf q p h) λf=>two f λg h'=>dM (e.dst mask d.dst g) λe'=>some (e',h'))=some (e',h'):=b;replace b:=dD.1 b;obtain⟨⟨g,j⟩,L,b⟩:=b;simp only[kf]at b;replace b:=dD.1 b;obtain⟨C,l,b⟩:=b;simp only[ar,ay]at b;obtain⟨rfl,rfl⟩:=b;refine yE.wp (H.after (λc i=>r n d c s i) l (h':=j) λbase t c f=> ?_) (λB o k=>v _ _ k);obtain⟨_,F,K,O⟩:=F9 (P:=P) c f y;rw[O];exact G q p h g j L base w t F c K
def D9(iG:iP P cx)(n:mX P cx cf)(q:D5 m ops):∀(c:List Oper) (d:Nat) (e:Env) (h:H) (a:Act) (w:World),(∀g,c[g]? =ops[d+g]?)->
 ke cx cf mask ops c e h=some (e',h')->sH cx base mask m w0 μ0 h0 e h a w->(∀f i,sH cx base mask m w0 μ0 h0 e' h' f i->Q .normal f i)->wpOps P ops Q (List.range' d c.length) a w:=by
 intro c;induction c with
 |nil=>
  intro d e h a w _ b H j;have b:some (e,h)=some (e',h'):=b;simp only[ar,ay]at b;obtain⟨rfl,rfl⟩:=b;exact j a w H
 |cons k c t=>
  intro d e h a w hl b H j;have b:(dM (kV cx cf mask ops e h k) λu=>two u λe' h'=>ke cx cf mask ops c e' h')=some (e',h'):=b;replace b:=dD.1 b;obtain⟨⟨o,p⟩,s,b⟩:=b;simp only[kf]at b;simp only[aZ,List.range'_succ];rw[wpOps_cons];have r:ops[d]? =some k:=by have:=hl 0;simpa using this.symm
  refine H4 iG n r q s H λf i l=>t (d+1) o p f i (λg=> ?_) b l j;have:=hl (g+1);simp only[dc]at this;rw[this];congr 1;omega
def Rm(m:Nat)(ops:af Oper):Bool:=ops.toList.all λb=>match b.dst with|some c=>Nat.blt c m|none=>true
def Rl(b:Rm m ops=true):D5 m ops:=by
 intro g f i c d;unfold Rm at b;rw[cF]at b;have:=b f (by simpa using Array.mem_of_getElem? c);rw[d]at this;simpa[aG]using this
def mg(m:Nat)(om:af Oper->Bool):Code->Bool
 | .region _ ops c=>Rm m ops&&(!c||om ops)
 | .seq a b=>mg m om a&&mg m om b
 | .cond _ a b=>mg m om a&&mg m om b
 | .block _ b=>mg m om b
 | .loop b=>mg m om b
 |_=>true
def ZX:Ex->Exit
 | .normal=> .normal
 | .exit b=> .exit b
 | .ret=> .ret
def P5(P:ai)(cx:Ctx)(cf:iL)(om:af Oper->Bool):Prop:=
 ∀(base mask m:Nat) (w0:World) (μ0:Mu) (h0:H) (ops:af Oper) (e e':Env) (h h':H) (a:Act) (w:World) (Q:Exit->Act->World->Prop) (id:Nat),om ops=true->D5 m ops->
  jN cx cf mask ops ops.toList 0 ⟨[],[]⟩ e h=some (e',h')->sH cx base mask m w0 μ0 h0 e h a w->(∀b c,sH cx base mask m w0 μ0 h0 e' h' b c->Q .normal b c)->(Code.region id ops true).wp P Q a w
def sH.drop(H:sH cx base mask m w0 μ0 h0 e h a w):sH cx base mask m w0 μ0 h0 ⟨e.vars,.nil⟩ h a w:=by
 obtain⟨q,n,l,p,g,i,k,j⟩:=H;refine⟨q,n,λb d c=>l b d ?_,p,g,i,k,j⟩;obtain⟨f,o⟩:=e;have c: @Bool.rec (λ_=>aa T) (dH .nil b) (dH f b) (jW mask b)=some d:=c;show @Bool.rec (λ_=>aa T) (dH o b) (dH f b) (jW mask b)=some d;cases hl:jW mask b with
 |true=>rw[hl]at c;exact c
 |false=>rw[hl]at c;simp[dH]at c
def wpL(P:ai)(d:Code)(Q:Exit->Act->World->Prop)(a:Act)(w:World):Prop:=
 ∀(c:Frame) (g:List Item) (f:List Frame),∃e b i,Q e b i/\Arrives P (lone (c.at a (.code d:: .inLoop d::g)) f w) c g f e b i
def KN{b:Code}(h:b.wp P (Exit.then (wpL P b Q) Q) a w):wpL P b Q a w:=by
 intro i k j;obtain⟨e,f,g,d,c⟩:=h i (.inLoop b::k) j;cases e with
 |normal=>
  obtain⟨n,l,q,p,o⟩:=d i k j;exact⟨n,l,q,p,.of_steps (Steps.trans c (.one step_inLoop)) o⟩
 |exit id=>exact⟨_,f,g,d,.pass (x:= .inLoop b) rfl (λ_ _=> .inl dt) c⟩
 |goto s=>exact⟨_,f,g,d,.pass (x:= .inLoop b) rfl (λ_ _=> .inl dt) c⟩
 |ret=>exact⟨_,f,g,d,.pass (x:= .inLoop b) rfl (λ_ _=> .inl dt) c⟩
 |panic r=>exact⟨_,f,g,d,.pass (x:= .inLoop b) rfl (λ_ _=> .inl dt) c⟩
 |outgrown=>exact⟨_,f,g,d,.pass (x:= .inLoop b) rfl (λ_ _=> .inl dt) c⟩
def KM{b:Code}(h:wpL P b Q a w):(Code.loop b).wp P Q a w:=by
 intro d j f;obtain⟨e,c,k,i,g⟩:=h d j f;exact⟨e,c,k,i,.of_steps (.one step_loop) g⟩
def aan(P:ai)(cx:Ctx)(base mask m:Nat)(w0:World)(μ0:Mu)(h0:H)(f:Code)(g:Env->H->Out):Prop:=
 ∀e h d e' h',g e h=some (d,e',h')->∀a w Q,sH cx base mask m w0 μ0 h0 e h a w->(∀b c,sH cx base mask m w0 μ0 h0 e' h' b c->Q (ZX d) b c)->f.wp P Q a w
def IH{p:Code}{j:Env->H->Out}(s:aan P cx base mask m w0 μ0 h0 p j):∀(f:Nat) (e:Env) (h:H) (c:Ex) (e':Env) (h':H),nL j f e h=some (c,e',h')->
 ∀a w Q,sH cx base mask m w0 μ0 h0 e h a w->(∀d g,sH cx base mask m w0 μ0 h0 e' h' d g->Q (ZX c) d g)->wpL P p Q a w:=by
 intro f;induction f with
 |zero=>intro e h c e' h' b;simp[nL]at b
 |succ f t=>
  intro e h c e' h' b a w Q H n;have b:(dM (j e h) λu=>three u λc e' h'=> @Ex.rec (λ_=>Out) (nL j f e' h') (λo=>some (.exit o,e',h')) (some (.ret,e',h')) c)=some (c,e',h'):=b;replace b:=dD.1 b;obtain⟨⟨q,i,k⟩,r,b⟩:=b;refine KN (s e h q i k r a w _ H λd g l=> ?_);cases q with
  |normal=>
   have b:nL j f i k=some (c,e',h'):=b;exact t i k c e' h' b d g Q l n
  |exit o=>
   have b:some (Ex.exit o,i,k)=some (c,e',h'):=b;simp only[ar,ay]at b;obtain⟨rfl,rfl,rfl⟩:=b;exact n d g l
  |ret=>
   have b:some (Ex.ret,i,k)=some (c,e',h'):=b;simp only[ar,ay]at b;obtain⟨rfl,rfl,rfl⟩:=b;exact n d g l
def Jc(iG:iP P cx)(I:mX P cx cf){om:af Oper->Bool}(J:P5 P cx cf om)(p:Nat):∀(s:Code),mg m om s=true->aan P cx base mask m w0 μ0 h0 s (jP cx cf p mask s):=by
 intro s;induction s with
 |skip=>
  intro _ e h c e' h' b a w Q H d;have b:some (Ex.normal,e,h)=some (c,e',h'):=b;simp only[ar,ay]at b;obtain⟨rfl,rfl,rfl⟩:=b;exact wp_skip (d a w H)
 |exit id=>
  intro _ e h c e' h' b a w Q H d;have b:some (Ex.exit id,e,h)=some (c,e',h'):=b;simp only[ar,ay]at b;obtain⟨rfl,rfl,rfl⟩:=b;exact wp_exit (d a w H)
 |ret=>
  intro _ e h c e' h' b a w Q H d;have b:some (Ex.ret,e,h)=some (c,e',h'):=b;simp only[ar,ay]at b;obtain⟨rfl,rfl,rfl⟩:=b;exact wp_ret (d a w H)
 |region id ops K=>
  intro f e h c e' h' b a w Q H d;simp only[mg,aB]at f;have F:=Rl f.1;have n:=H.drop;obtain⟨D,O⟩:=e;cases K with
  |false=>
   have b:(dM (ke cx cf mask ops ops.toList ⟨D,.nil⟩ h) λo=>two o λe' h'=>some (Ex.normal,(⟨e'.vars,.nil⟩:Env),h'))=some (c,e',h'):=b;replace b:=dD.1 b;obtain⟨⟨k,j⟩,q,b⟩:=b;simp only[kf,ar,ay]at b;obtain⟨rfl,rfl,rfl⟩:=b;refine wp_region ?_;rw[List.range_eq_range'];have:=D9 (Q:=Q) iG I F ops.toList 0 ⟨D,.nil⟩ h a w (λN=>by simp) q n λg i x=>d g i x.drop;simpa using this
  |true=>
   have b:(dM (jN cx cf mask ops ops.toList 0 ⟨[],[]⟩ ⟨D,.nil⟩ h) λo=>two o λe' h'=>some (Ex.normal,(⟨e'.vars,.nil⟩:Env),h'))=some (c,e',h'):=b;replace b:=dD.1 b;obtain⟨⟨k,j⟩,q,b⟩:=b;simp only[kf,ar,ay]at b;obtain⟨rfl,rfl,rfl⟩:=b;exact J base mask m w0 μ0 h0 ops _ _ h j a w Q id (by simpa using f.2) F q n λg i x=>d g i x.drop
 |seq r y A B=>
  intro f e h c e' h' b a w Q H d;simp only[mg,aB]at f;have b:(dM (jP cx cf p mask r e h) λo=>three o λc e' h'=> @Ex.rec (λ_=>Out) (jP cx cf p mask y e' h') (λl=>some (.exit l,e',h')) (some (.ret,e',h')) c)=some (c,e',h'):=b;replace b:=dD.1 b;obtain⟨⟨t,k,j⟩,q,b⟩:=b;refine wp_seq (A f.1 e h t k j q a w _ H λg i n=> ?_);cases t with
  |normal=>exact B f.2 k j c e' h' b g i Q n d
  |exit l=>
   have b:some (Ex.exit l,k,j)=some (c,e',h'):=b;simp only[ar,ay]at b;obtain⟨rfl,rfl,rfl⟩:=b;exact d g i n
  |ret=>
   have b:some (Ex.ret,k,j)=some (c,e',h'):=b;simp only[ar,ay]at b;obtain⟨rfl,rfl,rfl⟩:=b;exact d g i n
 |cond G r y A B=>
  intro f e h c e' h' b a w Q H d;simp only[mg,aB]at f;have b:(dM (fG cx mask e G) λC=>match C with
   | .bool v=> @Bool.rec (λ_=>Out) (jP cx cf p mask y e h) (jP cx cf p mask r e h) v
   |_=>none)=some (c,e',h'):=b
  replace b:=dD.1 b;obtain⟨C,L,b⟩:=b;cases C<;>simp only[reduceCtorEq]at b;rename_i v;have E:a.eval G= .bool v:=by
   obtain⟨R,M,o,_⟩:=H;exact(fX M o L).pG
  cases v with
  |true=>exact wp_cond_true E (A f.1 e h c e' h' b a w Q H d)
  |false=>exact wp_cond_false E (B f.2 e h c e' h' b a w Q H d)
 |block id r z=>
  intro f e h c e' h' b a w Q H d;have b:(dM (jP cx cf p mask r e h) λo=>three o λc e' h'=> @Ex.rec (λ_=>Out) (some (.normal,e',h')) (λl=> @Bool.rec (λ_=>Out) (some (.exit l,e',h')) (some (.normal,e',h')) (Nat.beq l id)) (some (.ret,e',h')) c)=some (c,e',h'):=b;replace b:=dD.1 b;obtain⟨⟨t,k,j⟩,q,b⟩:=b;refine wp_block (z f e h t k j q a w _ H λg i n=> ?_);cases t with
  |normal=>
   have b:some (Ex.normal,k,j)=some (c,e',h'):=b;simp only[ar,ay]at b;obtain⟨rfl,rfl,rfl⟩:=b;exact d g i n
  |exit l=>
   have b: @Bool.rec (λ_=>Out) (some (.exit l,k,j)) (some (.normal,k,j)) (Nat.beq l id)=some (c,e',h'):=b;show(if l=id then Q .normal g i else Q (.exit l) g i);cases u:Nat.beq l id with
   |true=>
    rw[u]at b;simp only[ar,ay]at b;obtain⟨rfl,rfl,rfl⟩:=b;rw[aq (aC u)];exact d g i n
   |false=>
    rw[u]at b;simp only[ar,ay]at b;obtain⟨rfl,rfl,rfl⟩:=b;rw[ao (cK u)];exact d g i n
  |ret=>
   have b:some (Ex.ret,k,j)=some (c,e',h'):=b;simp only[ar,ay]at b;obtain⟨rfl,rfl,rfl⟩:=b;exact d g i n
 |loop r z=>
  intro f e h c e' h' b a w Q H d;exact KM (IH (z f) p e h c e' h' b a w Q H d)
 |_=>intro _ e h c e' h' b;exact absurd b (by simp[jP])
end
end
noncomputable section
def mM{d i:Type}{b c:d->aa i}:∀{a:List d},(∀x∈a,b x=c x)->fD b a=fD c a
 | [],_=>rfl
 |x::a,h=>by
  rw[jr,jr,h x dt,mM λg f=>h g (by simp[f])]
section
variable {cx:Ctx}{mask:Nat}{e e':Env}{h h1 h2:H}
def Ae{a:List ah}(c:∀b∈a,fG cx mask e b=fG cx mask e' b):pq cx mask e a=pq cx mask e' a:=mM c
def wC{b:List (Nat×ah)}(d:∀a∈b,fG cx mask e a.2=fG cx mask e' a.2):partsOf cx mask e b=partsOf cx mask e' b:=by
 unfold partsOf;refine mM λa c=> ?_;obtain⟨f,g⟩:=a;simp only[kf];rw[d (f,g) c]
def ug{b:aa ah}(f:∀a,b=some a->fG cx mask e a=fG cx mask e' a):jB cx mask e b=jB cx mask e' b:=by
 cases b with
 |none=>rfl
 |some a=>
  show(dM (fG cx mask e a) λd=>dM (o9 d) λc=>some (some c))=(dM (fG cx mask e' a) λd=>dM (o9 d) λc=>some (some c));rw[f a rfl]
def y9{f:Op}(b:∀a∈f.operands,fG cx mask e a=fG cx mask e' a):ja f cx mask e h=ja f cx mask e' h:=by
 by_cases s:∃d,f= .call d
 ·obtain⟨d,rfl⟩:=s;have h1:pq cx mask e d.args.toList=pq cx mask e' d.args.toList:=Ae λa q=>b a (by simp only[Op.operands,Call.operands,Array.mem_append];right;simpa using q);simp only[ja,B4,h1];cases x:d.callee with
  |builtin i=>rfl
  |invoke a D=>rfl
  |value o=>
   have h2:=b o (by simp only[Op.operands,Call.operands,x];simp);simp only[h2]
 cases f with
 |move a=>have h1:=b a (by simp[Op.operands]);simp only[ja,B1,h1]
 |assign a=>have h1:=b a (by simp[Op.operands]);simp only[ja,B1,h1]
 |pick d g i=>
  have h1:=b d (by simp[Op.operands]);have h2:=b g (by simp[Op.operands]);have p:=b i (by simp[Op.operands]);simp only[ja,DQ,h1,h2,p]
 |alloc c=>rfl
 |box c a=>have h1:=b a (by simp[Op.operands]);simp only[ja,LP,h1]
 |build c m=>
  have h1:partsOf cx mask e m.toList=partsOf cx mask e' m.toList:=wC λl r=>b l.2 (by simp only[Op.operands,List.mem_toArray,List.mem_map];exact⟨l,r,rfl⟩);simp only[ja,zu,h1]
 |buildSlice c E m=>
  have h1:partsOf cx mask e m.toList=partsOf cx mask e' m.toList:=wC λl r=>b l.2 (by simp only[Op.operands,List.mem_toArray,List.mem_map];exact⟨l,r,rfl⟩);simp only[ja,nN,h1]
 |load c g=>have h1:=b g (by simp[Op.operands]);simp only[ja,GV,h1]
 |store c g a=>have h1:=b g (by simp[Op.operands]);have h2:=b a (by simp[Op.operands]);simp only[ja,BY,h1,h2]
 |nilCheck a=>have h1:=b a (by simp[Op.operands]);simp only[ja,qA,h1]
 |binOp f c a A G=>
  have h1:=b a (by simp[Op.operands]);have h2:=b A (by simp[Op.operands]);cases f<;>simp only[ja,UV,LQ,h1,h2]
 |unOp f c a=>have h1:=b a (by simp[Op.operands]);simp only[ja,ZE,h1]
 |convert z B a=>have h1:=b a (by simp[Op.operands]);simp only[ja,Ka,h1]
 |makeInterface c a=>have h1:=b a (by simp[Op.operands]);simp only[ja,zq,h1]
 |makeFunc C g i=>
  have h1:pq cx mask e i.toList=pq cx mask e' i.toList:=Ae λa q=>b a (by simp only[Op.operands,Array.mem_append];right;simpa using q);simp only[ja,B2,h1]
 |makeSlice c y d=>have h1:=b y (by simp[Op.operands]);have h2:=b d (by simp[Op.operands]);simp only[ja,oN,h1,h2]
 |slice c a u t v=>
  have h1:=b a (by simp[Op.operands]);have h2:jB cx mask e u=jB cx mask e' u:=ug λk j=>b k (by subst j;simp[Op.operands]);have p:jB cx mask e t=jB cx mask e' t:=ug λk j=>b k (by subst j;simp[Op.operands]);have w:jB cx mask e v=jB cx mask e' v:=ug λk j=>b k (by subst j;simp[Op.operands]);simp only[ja,BZ,h1,h2,p,w]
 |fieldAddr c a o=>have h1:=b a (by simp[Op.operands]);simp only[ja,oP,h1]
 |field c a o=>have h1:=b a (by simp[Op.operands]);simp only[ja,zt,h1]
 |indexAddr c a n=>have h1:=b a (by simp[Op.operands]);have h2:=b n (by simp[Op.operands]);simp only[ja,oO,h1,h2]
 |index c a n=>have h1:=b a (by simp[Op.operands]);have h2:=b n (by simp[Op.operands]);simp only[ja,zp,h1,h2]
 |extract a n=>have h1:=b a (by simp[Op.operands]);simp only[ja,tO,h1]
 |makeMap c F=>rfl
 |lookup=>rfl
 |mapUpdate=>rfl
 |range c a=>have h1:=b a (by simp[Op.operands]);simp only[ja,yf,B0,h1]
 |next it z=>have h1:=b it (by simp[Op.operands]);simp only[ja,GT,zl,h1]
 |entry=>rfl
 |_=>first|rfl|exact(s ⟨_,rfl⟩).elim
def u0{c:Op}(b:∀a∈c.operands,fG cx mask e a=fG cx mask e' a):fU cx mask e h c=fU cx mask e' h c:=by
 cases c with
 |load d a=>have h1:=b a (by simp[Op.operands]);simp only[fU,h1]
 |indexAddr d a f=>have h1:=b a (by simp[Op.operands]);simp only[fU,h1]
 |slice d a j i k=>have h1:=b a (by simp[Op.operands]);simp only[fU,h1]
 |convert m g a=>have h1:=b a (by simp[Op.operands]);simp only[fU,h1]
 |lookup d a f l=>have h1:=b a (by simp[Op.operands]);simp only[fU,h1]
 |_=>rfl
def jk(h1 h2:H)(c d:aa lh):Prop:=∀b a,c=some (.val b a)->a=h1/\d=some (.val b h2)
def jk.none:jk h1 h2 none none:=λ_ _ a=>by simp at a
def jk.val{a:aa T}:jk h1 h2 (val h1 a) (val h2 a):=λd c b=>by
 obtain⟨rfl,rfl⟩:=fK.1 b;exact⟨rfl,fK.2 ⟨rfl,rfl⟩⟩
def jk.some{a:T}:jk h1 h2 (some (.val a h1)) (some (.val a h2)):=λa c b=>by
 simp only[ar,lh.val.injEq]at b;obtain⟨rfl,rfl⟩:=b;exact⟨rfl,rfl⟩
def jk.dM{f:Type}{b:aa f}{c d:f->aa lh}(g:∀a,b=Option.some a->jk h1 h2 (c a) (d a)):jk h1 h2 (dM b c) (dM b d):=by
 cases b with
 |none=>exact jk.none
 |some a=>exact g a rfl
def jk.fT{a:Bool}{b c:aa lh}(d:jk h1 h2 b c):jk h1 h2 (fT a b) (fT a c):=by
 cases a with
 |false=>exact jk.none
 |true=>exact d
def jk.bool{a:Bool}{b d c f:aa lh}(g:jk h1 h2 b c)(i:jk h1 h2 d f):jk h1 h2 (Bool.casesOn a b d) (Bool.casesOn a c f):=by
 cases a<;>assumption
def KJ(b:Nat->T):Prop:=(∀a,b a= .ptr a 0 0 0)\/(∃c,∀a,b a= .arr a 0 0 c false)\/(∀a,b a= .iter a)\/(∀a,b a= .map a)
def Mk(h1 h2:H)(f g:aa lh):Prop:=∀c b,f=some (.val c b)->∃a d,KJ a/\c=a h1.size/\b=h1.cons d/\g=some (.val (a h2.size) (h2.cons d))
def Mk.none:Mk h1 h2 none none:=λ_ _ a=>by simp at a
def Mk.new{f:Nat->T}{b:iN}(c:KJ f):Mk h1 h2 (jp (h1.new f b)) (jp (h2.new f b)):=λg d a=>by
 rw[je,H.kz]at a;simp only[ar,ay]at a;obtain⟨rfl,rfl⟩:=a;exact⟨f,b,c,rfl,rfl,by rw[je,H.kz]⟩
def Mk.dM{f:Type}{b:aa f}{c d:f->aa lh}(g:∀a,b=Option.some a->Mk h1 h2 (c a) (d a)):Mk h1 h2 (dM b c) (dM b d):=by
 cases b with
 |none=>exact Mk.none
 |some a=>exact g a rfl
def Mk.fT{a:Bool}{b c:aa lh}(d:Mk h1 h2 b c):Mk h1 h2 (fT a b) (fT a c):=by
 cases a with
 |false=>exact Mk.none
 |true=>exact d
def Oq{a:ab}:Mk h1 h2 (ja (.alloc a) cx mask e h1) (ja (.alloc a) cx mask e h2):=by
 simp only[ja,B5];refine Mk.dM λb _=> ?_;cases wc cx b<;>exact Mk.new (.inl λ_=>rfl)
def UG{a:ab}{b:ah}:Mk h1 h2 (ja (.box a b) cx mask e h1) (ja (.box a b) cx mask e h2):=by
 simp only[ja,LP];exact Mk.dM λc _=>Mk.fT (Mk.new (.inl λ_=>rfl))
def CU{c:ab}{b:Nat}{a:af (Nat×ah)}:Mk h1 h2 (ja (.buildSlice c b a) cx mask e h1) (ja (.buildSlice c b a) cx mask e h2):=by
 simp only[ja,nN];refine Mk.dM λd _=> ?_;cases d.u<;>first
  |exact Mk.none
  |exact Mk.dM λg _=>Mk.dM λa _=>Mk.fT (Mk.fT (Mk.dM λf _=>Mk.new (.inr (.inl ⟨_,λ_=>rfl⟩))))
def Es{c:ab}{b a:ah}:Mk h1 h2 (ja (.makeSlice c b a) cx mask e h1) (ja (.makeSlice c b a) cx mask e h2):=by
 simp only[ja,oN];refine Mk.dM λd _=> ?_;cases d.u<;>first
  |exact Mk.none
  |exact Mk.dM λf _=>Mk.dM λ_ _=>Mk.dM λ_ _=>Mk.dM λ_ _=>Mk.dM λ_ _=>Mk.fT (Mk.fT (Mk.fT (Mk.fT (Mk.new (.inr (.inl ⟨_,λ_=>rfl⟩))))))
def ID{b:ab}{a:aa ah}:Mk h1 h2 (ja (.makeMap b a) cx mask e h1) (ja (.makeMap b a) cx mask e h2):=Mk.none
def LE{f:Ty}{c g:T}(hl:∀a,dO c=some a->a<h1.size->h2.get a=h1.get a)(b:h1.load f c=some g):h2.load f c=some g:=by
 cases c with
 |ptr a j k m=>
  have b:(dM (h1.elem a j k) λe=>dM (jJ m e.cells) λi=>j2 f i)=some g:=b;show(dM (h2.elem a j k) λe=>dM (jJ m e.cells) λi=>j2 f i)=some g;replace b:=dD.1 b;obtain⟨n,l,b⟩:=b;have o:h2.elem a j k=some n:=by
   have d:=l;unfold H.elem at d|-;replace d:=dD.1 d;obtain⟨q,p,_⟩:=d;rw[hl a rfl (H.ez p)];exact l
  rw[o];exact b
 |_=>exact b
def CZ{g:Ty}{j:T}{b:Nat}(hl:∀a,dO j=some a->a<h1.size->h2.get a=h1.get a):jk h1 h2 (km h1 g j b) (km h2 g j b):=by
 cases j with
 |dF s m=>exact jk.dM λ_ _=>jk.fT jk.some
 |arr a d l k m=>
  intro o n f;have q:=f;have f:fT (Nat.blt b k) (dM (h1.get a) λc=>fT (Nat.beq c.sz g.size)<|fT (Nat.beq c.ep d) (dM (gh (Nat.add l b)) λi=>some (lh.val (.ptr a d i 0) h1)))=some (.val o n):=f;obtain⟨_,f⟩:=dL.1 f;obtain⟨j,r,_⟩:=dD.1 f;have p:=hl a rfl (H.ez r);have:km h2 g (.arr a d l k m) b=fT (Nat.blt b k) (dM (h1.get a) λc=>fT (Nat.beq c.sz g.size)<|fT (Nat.beq c.ep d) (dM (gh (Nat.add l b)) λi=>some (lh.val (.ptr a d i 0) h2))):=by
   rw[<-p];rfl
  rw[this];exact(jk.fT (jk.dM λ_ _=>jk.fT (jk.fT (jk.dM λ_ _=>jk.some))):jk h1 h2 (fT (Nat.blt b k) (dM (h1.get a) λc=>fT (Nat.beq c.sz g.size)<|fT (Nat.beq c.ep d) (dM (gh (Nat.add l b)) λi=>some (lh.val (.ptr a d i 0) h1)))) _) o n q
 |_=>exact jk.none
def C0{f:Nat}{g:Ty}{b:T}{d:Nat}(hl:∀a,dO b=some a->a<h1.size->h2.get a=h1.get a):jk h1 h2 (oh h1 f g b d) (oh h2 f g b d):=by
 unfold oh;refine jk.fT ?_;cases b<;>first
  |exact jk.none
  |exact jk.dM λ_ _=>jk.some
  |skip
 rename_i a k m n;simp only;cases c:h1.get a with
 |none=>intro o l i;simp at i
 |some j=>
  rw[hl a rfl (H.ez c),c];simp only[dR];exact jk.bool (jk.dM λ_ _=>jk.some) (jk.fT (jk.dM λ_ _=>jk.some))
def IL{b:T}{f:List T}(hl:∀a,dO b=some a->a<h1.size->h2.get a=h1.get a)(c:h1.jg b=some f):h2.jg b=some f:=by
 cases b with
 |arr a j m l k=>
  have d:=c;unfold H.jg at d|-;simp only at d|-;obtain⟨i,g,_⟩:=dD.1 d;rw[hl a rfl (H.ez g)];exact c
 |_=>exact c
def Bg{g:U}{f:T}(hl:∀b,dO f=some b->b<h1.size->h2.get b=h1.get b)(a:jl cx h1 g f=true):jl cx h2 g f=true:=by
 cases g with
 |slice e=>
  unfold jl at a|-;simp only at a|-;cases d:cx.ty e with
  |none=>rw[d]at a;exact a
  |some k=>
   rw[d]at a;cases f with
   |arr b j q o l=>
    simp only at a|-;cases c:h1.get b with
    |none=>rw[c]at a;simp at a
    |some i=>rw[hl b rfl (H.ez c),c];rw[c]at a;exact a
   |_=>exact a
 |array p e=>
  unfold jl at a|-;simp only at a|-;cases d:cx.ty e with
  |none=>rw[d]at a;exact a
  |some k=>
   rw[d]at a;cases f with
   |ptr b j m n=>
    simp only at a|-;cases c:h1.get b with
    |none=>rw[c]at a;simp at a
    |some i=>rw[hl b rfl (H.ez c),c];rw[c]at a;exact a
   |_=>exact a
 |_=>exact a
def F8{k:Op}(A:ik k=false)(hl:∀f,fU cx mask e h1 k=some f->f<h1.size->h2.get f=h1.get f){c:T}{g:H}(b:ja k cx mask e h1=some (.val c g)):
 (g=h1/\ja k cx mask e h2=some (.val c h2))\/
 (∃m a,KJ m/\fU cx mask e h1 k=some h1.size/\c=m h1.size/\g=h1.cons a/\ja k cx mask e h2=some (.val (m h2.size) (h2.cons a))):=by
 have F:Mk h1 h2 (ja k cx mask e h1) (ja k cx mask e h2)->fU cx mask e h1 k=some h1.size->(g=h1/\ja k cx mask e h2=some (.val c h2))\/
  (∃m a,KJ m/\fU cx mask e h1 k=some h1.size/\c=m h1.size/\g=h1.cons a/\ja k cx mask e h2=some (.val (m h2.size) (h2.cons a))):=λV x=>by
  obtain⟨m,a,L,M,aX,a6⟩:=V c g b;exact Or.inr ⟨m,a,L,x,M,aX,a6⟩
 by_cases S:∃w,k= .call w
 ·obtain⟨w,rfl⟩:=S;left;have:jk h1 h2 (ja (.call w) cx mask e h1) (ja (.call w) cx mask e h2):=by
   simp only[ja,B4];refine jk.dM λQ _=> ?_;cases R:w.callee with
   |invoke a V=>exact jk.none
   |value m=>simp[ik,R]at A
   |builtin f=>
    cases f<;>simp[ik,R]at A<;>simp only[kR]
    case len=>
     match Q with
     | []=>exact jk.none
     | [a]=>
      simp only[L8];refine jk.dM λ_ _=>jk.dM λj _=> ?_;cases j.u<;>first
       |exact jk.none
       |exact jk.val
       |(cases a<;>first|exact jk.none|exact jk.val)
     |_::_::_=>exact jk.none
    all_goals
     match Q with
     | []=>exact jk.none
     | [a]=>exact jk.none
     | [a,P]=>exact jk.val
     |_::_::_::_=>exact jk.none
  exact this c g b
 cases k with
 |alloc d=>exact F Oq rfl
 |box d a=>exact F UG rfl
 |buildSlice d n N=>exact F CU rfl
 |makeSlice d l w=>exact F Es rfl
 |range=>simp[ik]at A
 |entry=>simp[ik]at A
 |store=>simp[ik]at A
 |next=>simp[ik]at A
 |load d i=>
  left;have b:(dM (cx.ty d) λj=>dM (fG cx mask e i) λi=>val h1 (h1.load j i))=some (.val c g):=b;replace b:=dD.1 b;obtain⟨j,J,b⟩:=b;replace b:=dD.1 b;obtain⟨q,t,b⟩:=b;obtain⟨B,rfl⟩:=fK.1 b;refine⟨rfl,?_⟩;show(dM (cx.ty d) λj=>dM (fG cx mask e i) λi=>val h2 (h2.load j i))=some (.val c h2);rw[J,t];exact fK.2 ⟨LE (λf x z=>hl f (by show dM (fG cx mask e i) dO=some f;rw[t];exact x) z) B,rfl⟩
 |indexAddr d a E=>
  left;have U:∀q,fG cx mask e a=some q->∀f,dO q=some f->f<h1.size->h2.get f=h1.get f:=λq t f x z=>
   hl f (by show dM (fG cx mask e a) dO=some f;rw[t];exact x) z
  have:jk h1 h2 (ja (.indexAddr d a E) cx mask e h1) (ja (.indexAddr d a E) cx mask e h2):=by
   simp only[ja,oO];refine jk.dM λj _=>jk.dM λq t=>jk.dM λ_ _=>jk.dM λK _=> ?_;cases j.u<;>first
    |exact jk.none
    |exact jk.dM λO _=>CZ (U q t)
    |exact jk.dM λO _=>C0 (U q t)
  exact this c g b
 |slice d a v o p=>
  left;have b:(dM (cx.ty d) λj=>dM (fG cx mask e a) λa=>fT (jl cx h1 j.u a)<|dM (jB cx mask e v) λv=>dM (jB cx mask e o) λo=>dM (jB cx mask e p) λp=>
   fT (zg o p) (val h1 (oF (asSlice j.u a) v o p)))=some (.val c g):=b
  replace b:=dD.1 b;obtain⟨j,J,b⟩:=b;replace b:=dD.1 b;obtain⟨q,t,b⟩:=b;obtain⟨Y,b⟩:=dL.1 b;have Z:jl cx h2 j.u q=true:=Bg (λf x z=>hl f (by show dM (fG cx mask e a) dO=some f;rw[t];exact x) z) Y;have:jk h1 h2 (dM (jB cx mask e v) λv=>dM (jB cx mask e o) λo=>dM (jB cx mask e p) λp=>fT (zg o p) (val h1 (oF (asSlice j.u q) v o p)))
   (dM (jB cx mask e v) λv=>dM (jB cx mask e o) λo=>dM (jB cx mask e p) λp=>fT (zg o p) (val h2 (oF (asSlice j.u q) v o p))):=
   jk.dM λ_ _=>jk.dM λ_ _=>jk.dM λ_ _=>jk.fT jk.val
  obtain⟨L,M⟩:=this c g b;refine⟨L,?_⟩;show(dM (cx.ty d) λj=>dM (fG cx mask e a) λa=>fT (jl cx h2 j.u a)<|dM (jB cx mask e v) λv=>dM (jB cx mask e o) λo=>dM (jB cx mask e p) λp=>
   fT (zg o p) (val h2 (oF (asSlice j.u a) v o p)))=some (.val c h2)
  rw[J,t];simp only[dR,Z,ij];exact M
 |binOp k d a P D=>
  left;have:jk h1 h2 (ja (.binOp k d a P D) cx mask e h1) (ja (.binOp k d a P D) cx mask e h2):=by
   cases k<;>simp only[ja,UV,LQ]<;>first
    |exact jk.dM λ_ _=>jk.dM λ_ _=>jk.dM λ_ _=>jk.fT (jk.dM λ_ _=>jk.val)
    |exact jk.dM λ_ _=>jk.dM λ_ _=>jk.val
  exact this c g b
 |move a=>left;exact(show jk h1 h2 (ja (.move a) cx mask e h1) (ja (.move a) cx mask e h2)from jk.val) c g b
 |assign a=>left;exact(show jk h1 h2 (ja (.assign a) cx mask e h1) (ja (.assign a) cx mask e h2)from jk.val) c g b
 |pick w i f=>
  left;have:jk h1 h2 (ja (.pick w i f) cx mask e h1) (ja (.pick w i f) cx mask e h2):=by
   simp only[ja,DQ];refine jk.dM λc _=> ?_;cases c<;>first|exact jk.none|exact jk.bool jk.val jk.val
  exact this c g b
 |build d N=>
  left;have:jk h1 h2 (ja (.build d N) cx mask e h1) (ja (.build d N) cx mask e h2):=by
   simp only[ja,zu];refine jk.dM λj _=>jk.dM λ_ _=> ?_;cases j.u<;>first|exact jk.none|exact jk.dM λ_ _=>jk.val|exact jk.dM λ_ _=>jk.dM λ_ _=>jk.val
  exact this c g b
 |nilCheck a=>
  left;have:jk h1 h2 (ja (.nilCheck a) cx mask e h1) (ja (.nilCheck a) cx mask e h2):=by
   simp only[ja,qA];refine jk.dM λc _=> ?_;cases c<;>first|exact jk.none|exact jk.some
  exact this c g b
 |unOp k d a=>left;exact(show jk h1 h2 (ja (.unOp k d a) cx mask e h1) (ja (.unOp k d a) cx mask e h2)from jk.dM λ_ _=>jk.val) c g b
 |convert C y a=>
  left;have b:(dM (cx.ty C) λ_=>dM (fG cx mask e a) λi=>dM (cx.ty y) λG=>match G.u with
   | .slice _=>val h1 (Cx cx y i)
   | .str=>(match i with
    | .str _=>val h1 (conv cx y i)
    |_=>val h1 (FN cx h1 C i))
   |_=>val h1 (conv cx y i))=some (.val c g):=b
  show g=h1/\(dM (cx.ty C) λ_=>dM (fG cx mask e a) λi=>dM (cx.ty y) λG=>match G.u with
   | .slice _=>val h2 (Cx cx y i)
   | .str=>(match i with
    | .str _=>val h2 (conv cx y i)
    |_=>val h2 (FN cx h2 C i))
   |_=>val h2 (conv cx y i))=some (.val c h2)
  obtain⟨bi,av,b⟩:=dD.1 b;obtain⟨q,t,b⟩:=dD.1 b;obtain⟨a7,an,b⟩:=dD.1 b;rw[av,t,an];simp only[dR];have ae:∀{D:T},FN cx h1 C q=some D->FN cx h2 C q=some D:=by
   intro D s;unfold FN at s|-;obtain⟨t2,al,s⟩:=dD.1 s;rw[al];simp only[dR];cases aE:t2.u<;>rw[aE]at s<;>simp only[reduceCtorEq]at s|-;obtain⟨O,ap,s⟩:=dD.1 s;rw[ap];simp only[dR];cases aN:O.u<;>rw[aN]at s<;>simp only[reduceCtorEq]at s|-;obtain⟨W,s⟩:=dL.1 s;rw[W,ij];obtain⟨a8,X,s⟩:=dD.1 s;rw[IL (λf x z=>hl f (by show dM (fG cx mask e a) dO=some f;rw[t];exact x) z) X];exact s
  cases aA:a7.u<;>rw[aA]at b<;>simp only at b|-
  case str=>
   cases q<;>simp only at b|- <;>(obtain⟨B,rfl⟩:=fK.1 b)<;>first
    |exact⟨rfl,fK.2 ⟨ae B,rfl⟩⟩
    |exact⟨rfl,fK.2 ⟨B,rfl⟩⟩
  all_goals
   obtain⟨B,rfl⟩:=fK.1 b;exact⟨rfl,fK.2 ⟨B,rfl⟩⟩
 |lookup=>exact .inl ((jk.none:jk h1 h2 _ _) c g b)
 |makeMap d r=>exact F ID rfl
 |mapUpdate=>simp[ik]at A
 |makeInterface d a=>
  left;have:jk h1 h2 (ja (.makeInterface d a) cx mask e h1) (ja (.makeInterface d a) cx mask e h2):=by
   simp only[ja,zq];refine jk.dM λj _=> ?_;cases j.u<;>first|exact jk.none|exact jk.dM λ_ _=>jk.fT jk.val
  exact this c g b
 |makeFunc I i f=>
  left;have:jk h1 h2 (ja (.makeFunc I i f) cx mask e h1) (ja (.makeFunc I i f) cx mask e h2):=by
   simp only[ja,B2];cases I<;>first
    |exact jk.none
    |(cases i.toList<;>first|exact jk.none|exact jk.dM λ_ _=>jk.val)
  exact this c g b
 |fieldAddr d a m=>
  left;have:jk h1 h2 (ja (.fieldAddr d a m) cx mask e h1) (ja (.fieldAddr d a m) cx mask e h2):=by
   simp only[ja,oP];refine jk.dM λ_ _=>jk.dM λc _=> ?_;cases c<;>first|exact jk.none|exact jk.dM λ_ _=>jk.some
  exact this c g b
 |field d a m=>
  left;have:jk h1 h2 (ja (.field d a m) cx mask e h1) (ja (.field d a m) cx mask e h2):=by
   simp only[ja,zt];refine jk.dM λ_ _=>jk.dM λ_ _=>jk.dM λc _=> ?_;cases c<;>first|exact jk.none|exact jk.dM λ_ _=>jk.val
  exact this c g b
 |index d a E=>
  left;have:jk h1 h2 (ja (.index d a E) cx mask e h1) (ja (.index d a E) cx mask e h2):=by
   simp only[ja,zp];refine jk.dM λj _=>jk.dM λc _=>jk.dM λ_ _=>jk.dM λ_ _=> ?_;cases j.u<;>first
    |exact jk.none
    |(cases c<;>first|exact jk.none|exact jk.dM λ_ _=>jk.val|exact jk.dM λ_ _=>jk.fT (jk.dM λ_ _=>jk.val))
  exact this c g b
 |extract a K=>
  left;have:jk h1 h2 (ja (.extract a K) cx mask e h1) (ja (.extract a K) cx mask e h2):=by
   simp only[ja,tO];refine jk.dM λc _=> ?_;cases c<;>first|exact jk.none|exact jk.val
  exact this c g b
 |_=>first|exact(S ⟨_,rfl⟩).elim|exact absurd b (by simp[ja])
end
end
noncomputable section
def HC{c:List Nat}{b:List Edge}{e:Nat}(h:(wm c b).testBit e=true):
 ∃a∈b,Region.binds .any a=true/\(e=a.on\/(c.getD a.on 0).testBit e=true):=by
 induction b with
 |nil=>simp[wm]at h
 |cons a b j=>
  have h:(@Bool.rec (λ_=>Nat) (wm c b) ((wm c b)|||((1<<<a.on)|||(c.getD a.on 0))) (Region.binds .any a)).testBit e=true:=h;cases d:Region.binds .any a with
  |false=>
   rw[d]at h;obtain⟨f,g,i⟩:=j h;exact⟨f,by simp[g],i⟩
  |true=>
   rw[d]at h;simp only[Nat.testBit_or,bP]at h;rcases h with h|h|h
   ·obtain⟨f,g,i⟩:=j h;exact⟨f,by simp[g],i⟩
   ·refine⟨a,dt,d,.inl ?_⟩;rw[Nat.one_shiftLeft,Nat.testBit_two_pow]at h;exact(of_decide_eq_true h).symm
   ·exact⟨a,dt,d,.inr h⟩
structure Cl(ops:af Oper)(listed:af Bool):Prop where
 size:listed.size=ops.size
 closed:∀j oj,ops[j]? =some oj->listed.getD j false=true->∀e∈oj.after,Region.binds .any e=true->listed.getD e.on false=true
def RR{ops:af Oper}{g:af Bool}(q:Cl ops g):∀(k:List Oper) (d:List Nat),(∀n:Nat,k[n]? =ops[d.length+n]?)->
 (∀(b c:Nat),d[b]? =some c->∀f,c.testBit f=true->∀i,ops[b]? =some i->(∀a∈i.after,Region.binds .any a=true->g.getD a.on false=true)->g.getD f false=true)->
 ∀(b c:Nat),(Jn k d)[b]? =some c->∀f,c.testBit f=true->∀i,ops[b]? =some i->(∀a∈i.after,Region.binds .any a=true->g.getD a.on false=true)->g.getD f false=true:=by
 intro k;induction k with
 |nil=>intro d _ l b c e;exact l b c e
 |cons i k B=>
  intro d hl l;refine B (d++[wm d i.after.toList]) (λn=> ?_) ?_
  ·have:=hl (n+1);simp only[dc]at this;rw[this];congr 1;simp;omega
  ·intro b c e f u C m s;by_cases v:b<d.length
   ·rw[co v]at e;exact l b c e f u C m s
   ·rw[cu dq]at e;have z:b=d.length:=by
     rcases Nat.eq_or_lt_of_le (Nat.le_of_not_lt v)with h|h
     ·exact h.symm
     ·rw[aK du]at e;simp at e
    subst z;simp at e;subst e;have r:=hl 0;simp at r;rw[<-r]at m;simp at m;subst m;obtain⟨a,x,w,j⟩:=HC u;have o:=s a (by simpa using x) w;rcases j with rfl|j
    ·exact o
    ·have y:a.on<g.size:=by
      rcases aD a.on g.size with h|h
      ·exact h
      ·simp[cQ h]at o
     have A:a.on<ops.size:=by rw[<-q.size];exact y
     have t:ops[a.on]? =some ops[a.on]:=by simp[A]
     cases p:d[a.on]? with
     |none=>rw[List.getD_eq_getElem?_getD,p]at j;simp at j
     |some c=>
      rw[List.getD_eq_getElem?_getD,p]at j;exact l a.on c p f j ops[a.on] t (q.closed a.on _ t o)
def BA{ops:af Oper}{e:af Bool}(i:Cl ops e){d b:Nat}{f:Oper}(a:jx ops d b=true)(l:ops[b]? =some f)
 (j:∀g∈f.after,Region.binds .any g=true->e.getD g.on false=true):e.getD d false=true:=by
 unfold jx at a;rw[List.getD_eq_getElem?_getD]at a;cases c:(Jn ops.toList [])[b]? with
 |none=>rw[c]at a;simp at a
 |some h=>
  rw[c]at a;exact RR i ops.toList [] (λn=>by simp) (λm h k=>by simp at k) b h c d a f l j
def oe:Op->Bool
 | .store .. =>true
 |_=>false
def om(ops:af Oper):Bool:=
 let e:=Jn ops.toList []
 let d:=ops.toList.zipIdx
 d.all λa=>(a.1.after.toList.all λc=> !Region.binds .any c||Nat.blt c.on a.2)&&
  d.all λb=> !Nat.blt b.2 a.2||(b.1.apart ops a.1&&(!(ik b.1.op&&ik a.1.op)||(oe b.1.op&&oe a.1.op)))||(e.getD a.2 0).testBit b.2
def mem_zipIdx{ops:af Oper}{a:Nat}{b:Oper}(c:ops[a]? =some b):(b,a)∈ops.toList.zipIdx:=by
 rw[List.mem_iff_getElem?];exact⟨a,by simp[c]⟩
def I9{ops:af Oper}(f:om ops=true){b:Nat}{c:Oper}(i:ops[b]? =some c):∀a∈c.after,Region.binds .any a=true->a.on<b:=by
 intro a h g;unfold om at f;have d:=List.all_eq_true.1 f (c,b) (mem_zipIdx i);simp only[aB]at d;have e:=List.all_eq_true.1 d.1 a (by simpa using h);simp only[g,cI,Bool.false_or,aG]at e;exact e
def Hm{ops:af Oper}(h:om ops=true){c d:Nat}{e f:Oper}(j:ops[c]? =some e)(l:ops[d]? =some f)(k:c<d):
 (e.apart ops f=true/\(ik e.op=true->ik f.op=true->oe e.op=true/\oe f.op=true))\/jx ops c d=true:=by
 unfold om at h;have g:=List.all_eq_true.1 h (f,d) (mem_zipIdx l);simp only[aB]at g;have b:=List.all_eq_true.1 g.2 (e,c) (mem_zipIdx j);have i:Nat.blt c d=true:=by rw[aG];exact k
 simp only[i,cI,Bool.false_or,bP,aB,bL,Bool.and_eq_false_iff]at b;rcases b with⟨b,a⟩|b
 ·left;refine⟨b,λm n=> ?_⟩;rcases a with(a|a)|a
  ·rw[m]at a;simp at a
  ·rw[n]at a;simp at a
  ·exact a
 ·right;exact b
section
variable {cx:Ctx}{cf:iL}{mask:Nat}{ops:af Oper}
def ox(mask:Nat)(ops:af Oper)(c:Nat->Env)(b:Nat):Prop:=∃a,ops[b]? =some a/\ik a.op=true/\j9 ops mask (c b) a.guard=some true
def wS(cx:Ctx)(mask:Nat)(ops:af Oper)(c:Nat->Env)(d:Nat->H)(a e:Nat):Prop:=
 ∃b,ops[a]? =some b/\ik b.op=false/\j9 ops mask (c a) b.guard=some true/\fU cx mask (c a) (d a) b.op=some e
def TK(cx:Ctx)(mask:Nat)(ops:af Oper)(c:Nat->Env)(a e:Nat):Prop:=
 ∃b f d g,ops[a]? =some b/\b.op= .store f d g/\j9 ops mask (c a) b.guard=some true/\dM (fG cx mask (c a) d) dO=some e
structure Trace(cx:Ctx)(cf:iL)(mask:Nat)(ops:af Oper)(E:Nat->Env)(Hs:Nat->H):Prop where
 step:∀k o,ops[k]? =some o->kV cx cf mask ops (E k) (Hs k) o=some (E (k+1),Hs (k+1))
 ahead:∀k k' b,wS cx mask ops E Hs k b->ox mask ops E k'->k<k'->eJ (Hs k') (Hs (k'+1)) b=true\/jx ops k k'=true
 behind:∀k k' b,wS cx mask ops E Hs k b->ox mask ops E k'->k'<k->eJ (Hs k') (Hs (k'+1)) b=true\/jx ops k' k=true
 both:∀k k' b,TK cx mask ops E k b->ox mask ops E k'->k'<k->eJ (Hs k') (Hs (k'+1)) b=true\/jx ops k' k=true
def xw{a b:Bool}(c: @Bool.rec (λ_=>Bool) b true a=true):a=true\/b=true:=by cases a<;>simp_all
def xK{e:Oper}{k:List Oper}{d:Nat}{c:Seen}{g n:Env}{a o:H}(b:jN cx cf mask ops (e::k) d c g a=some (n,o)):
 ∃h f j,kV cx cf mask ops g a e=some (h,f)/\j9 ops mask g e.guard=some j/\
  ∃m,jN cx cf mask ops k (d+1) m h f=some (n,o)/\(∀l∈c.lU,l∈m.lU)/\(∀l∈c.kF,l∈m.kF)/\
   (j=true->ik e.op=true->wI ops d a f c.lU=true/\(d,a,f)∈m.kF/\p9 cx mask ops d g c.kF e.op=true)/\
   (j=true->ik e.op=false->∀i,fU cx mask g a e.op=some i->nI ops d i c.kF=true/\(d,i)∈m.lU):=by
 have b:(dM (kV cx cf mask ops g a e) λl=>two l λh f=>
  dM (j9 ops mask g e.guard) λj=> @Bool.rec (λ_=>aa (Env×H)) (jN cx cf mask ops k (d+1) c h f)
   (@Bool.rec (λ_=>aa (Env×H))
     (@Option.rec Nat (λ_=>aa (Env×H)) (jN cx cf mask ops k (d+1) c h f)
       (λi=>fT (nI ops d i c.kF) (jN cx cf mask ops k (d+1) ⟨(d,i)::c.lU,c.kF⟩ h f)) (fU cx mask g a e.op))
     (fT (wI ops d a f c.lU) (fT (p9 cx mask ops d g c.kF e.op) (jN cx cf mask ops k (d+1) ⟨c.lU,(d,a,f)::c.kF⟩ h f))) (ik e.op)) j)=some (n,o):=b
 replace b:=dD.1 b;obtain⟨⟨h,f⟩,t,b⟩:=b;simp only[kf]at b;replace b:=dD.1 b;obtain⟨j,u,b⟩:=b;refine⟨h,f,j,t,u,?_⟩;cases j with
 |false=>exact⟨c,b,λ_ a=>a,λ_ a=>a,λa=>by simp at a,λa=>by simp at a⟩
 |true=>
  cases r:ik e.op with
  |true=>
   rw[r]at b;obtain⟨p,b⟩:=dL.1 b;obtain⟨s,b⟩:=dL.1 b;exact⟨_,b,λ_ a=>a,λ_ a=>by simp[a],λ_ _=>⟨p,dt,s⟩,λ_ a=>by simp at a⟩
  |false=>
   rw[r]at b;cases q:fU cx mask g a e.op with
   |none=>
    rw[q]at b;exact⟨c,b,λ_ a=>a,λ_ a=>a,λ_ a=>by simp at a,λ_ _ i a=>by simp at a⟩
   |some i=>
    rw[q]at b;obtain⟨p,b⟩:=dL.1 b;exact⟨_,b,λ_ a=>by simp[a],λ_ a=>a,λ_ a=>by simp at a,λ_ _ v a=>by simp only[ar]at a;subst a;exact⟨p,dt⟩⟩
def CQ:∀(C:List Oper) (c:Nat) (u:Seen) (w D:Env) (q E:H),(∀M,C[M]? =ops[c+M]?)->jN cx cf mask ops C c u w q=some (D,E)->
 ∃(i:Nat->Env) (j:Nat->H),i c=w/\j c=q/\i (c+C.length)=D/\j (c+C.length)=E/\
  (∀a h,c<=a->ops[a]? =some h->kV cx cf mask ops (i a) (j a) h=some (i (a+1),j (a+1)))/\
  (∀a b,c<=a->wS cx mask ops i j a b->∀g∈u.kF,eJ g.2.1 g.2.2 b=true\/jx ops g.1 a=true)/\
  (∀a,c<=a->ox mask ops i a->∀g∈u.lU,eJ (j a) (j (a+1)) g.2=true\/jx ops g.1 a=true)/\
  (∀a d b,c<=a->wS cx mask ops i j a b->ox mask ops i d->a<d->eJ (j d) (j (d+1)) b=true\/jx ops a d=true)/\
  (∀a d b,c<=d->wS cx mask ops i j a b->ox mask ops i d->d<a->eJ (j d) (j (d+1)) b=true\/jx ops d a=true)/\
  (∀a b,c<=a->TK cx mask ops i a b->∀g∈u.kF,eJ g.2.1 g.2.2 b=true\/jx ops g.1 a=true)/\
  (∀a d b,c<=d->TK cx mask ops i a b->ox mask ops i d->d<a->eJ (j d) (j (d+1)) b=true\/jx ops d a=true):=by
 intro C;induction C with
 |nil=>
  intro c u w D q E hl I;have I:some (w,q)=some (D,E):=I;simp only[ar,ay]at I;obtain⟨rfl,rfl⟩:=I;have B:∀a h,c<=a->ops[a]? =some h->False:=λa h e m=>by
   have:=hl (a-c);rw[show c+(a-c)=a by omega,m]at this;simp at this
  refine⟨λ_=>w,λ_=>q,rfl,rfl,rfl,rfl,λa h e m=>(B a h e m).elim,?_,?_,?_,?_,?_,?_⟩
  ·rintro a b e ⟨h,m,_⟩;exact(B a h e m).elim
  ·rintro a e ⟨h,m,_⟩;exact(B a h e m).elim
  ·rintro a d b e ⟨h,m,_⟩;exact(B a h e m).elim
  ·rintro a d b e _ ⟨h,m,_⟩;exact(B d h e m).elim
  ·rintro a b e ⟨h,_,_,_,m,_⟩;exact(B a h e m).elim
  ·rintro a d b e _ ⟨h,m,_⟩;exact(B d h e m).elim
 |cons h C aN=>
  intro c u w D q E hl I;obtain⟨W,F,bu,aE,T,U,aA,ap,X,S,av⟩:=xK I;have O:ops[c]? =some h:=by have:=hl 0;simpa using this.symm
  obtain⟨i,j,aX,a7,a8,bi,bk,ae,al,bl,bn,Z,a6⟩:=aN (c+1) U W D F E (λM=>by
   have:=hl (M+1);simp only[dc]at this;rw[this];congr 1;omega) aA
  let p:Nat->Env:=λa=>if a=c then w else i a
  let y:Nat->H:=λa=>if a=c then q else j a
  have hE:∀a,a≠c->p a=i a:=λa e=>by simp[p,e]
  have o:∀a,a≠c->y a=j a:=λa e=>by simp[y,e]
  have A:p c=w:=by simp[p]
  have G:y c=q:=by simp[y]
  have an:p (c+1)=W:=by rw[hE _ dq,aX]
  have N:y (c+1)=F:=by rw[o _ dq,a7]
  have J:∀a,a≠c->ox mask ops p a->ox mask ops i a:=λa e=>by unfold ox;rw[hE a e];exact id
  have P:∀a b,a≠c->wS cx mask ops p y a b->wS cx mask ops i j a b:=λa b e=>by unfold wS;rw[hE a e,o a e];exact id
  have V:∀a b,a≠c->TK cx mask ops p a b->TK cx mask ops i a b:=λa b e=>by unfold TK;rw[hE a e];exact id
  have bs:∀b,TK cx mask ops p c b->nI ops c b u.kF=true:=by
   rintro b ⟨Q,M,x,v,l,t,k,L⟩;rw[O]at l;simp only[ar]at l;subst l;rw[A,T]at k;rw[A]at L;simp only[ar]at k;have:=(S k (by rw[t];rfl)).2.2;rw[t]at this;have this: @Option.rec Nat (λ_=>Bool) true (λb=>nI ops c b u.kF) (dM (fG cx mask w x) dO)=true:=this;rw[L]at this;exact this
  have R:ox mask ops p c->wI ops c q F u.lU=true/\(c,q,F)∈U.kF:=by
   rintro⟨Q,l,t,k⟩;rw[O]at l;simp only[ar]at l;subst l;rw[A,T]at k;simp only[ar]at k;exact⟨(S k t).1,(S k t).2.1⟩
  have Y:∀b,wS cx mask ops p y c b->nI ops c b u.kF=true/\(c,b)∈U.lU:=by
   rintro b ⟨Q,l,t,k,L⟩;rw[O]at l;simp only[ar]at l;subst l;rw[A,T]at k;rw[A,G]at L;simp only[ar]at k;exact av k t b L
  refine⟨p,y,A,G,?_,?_,?_,?_,?_,?_,?_,?_,?_⟩
  ·rw[hE _ dt,<-a8];congr 1;simp;omega
  ·rw[o _ dt,<-bi];congr 1;simp;omega
  ·intro a Q e l;by_cases f:a=c
   ·subst f;rw[O]at l;simp only[ar]at l;subst l;rw[A,G,an,N];exact aE
   ·rw[hE a f,o a f,hE (a+1) dq,o (a+1) dq];exact bk a Q dq l
  ·intro a b e n g z;by_cases f:a=c
   ·subst f;obtain⟨t,_⟩:=Y b n;exact xw (pI t g z)
   ·exact ae a b dq (P a b f n) g (X g z)
  ·intro a e r g z;by_cases f:a=c
   ·subst f;obtain⟨t,_⟩:=R r;rw[G,N];exact xw (pI t g z)
   ·rw[o a f,o (a+1) dq];exact al a dq (J a f r) g (ap g z)
  ·intro a d b e n r K;have s:d≠c:=dq;rw[o d s,o (d+1) dq];by_cases f:a=c
   ·subst f;obtain⟨_,k⟩:=Y b n;exact al d dq (J d s r) (a,b) k
   ·exact bl a d b dq (P a b f n) (J d s r) K
  ·intro a d b e n r K;have f:a≠c:=dq;by_cases s:d=c
   ·subst s;obtain⟨_,k⟩:=R r;rw[G,N];exact ae a b dq (P a b f n) (d,q,F) k
   ·rw[o d s,o (d+1) dq];exact bn a d b dq (P a b f n) (J d s r) K
  ·intro a b e n g z;by_cases f:a=c
   ·subst f;exact xw (pI (bs b n) g z)
   ·exact Z a b dq (V a b f n) g (X g z)
  ·intro a d b e n r K;have f:a≠c:=dq;by_cases s:d=c
   ·subst s;obtain⟨_,k⟩:=R r;rw[G,N];exact Z a b dq (V a b f n) (d,q,F) k
   ·rw[o d s,o (d+1) dq];exact a6 a d b dq (V a b f n) (J d s r) K
def Dc(cx:Ctx)(cf:iL)(mask:Nat)(c:Env)(a:H)(f:Op)(g:T)(e:H):Prop:=
 ja f cx mask c a=some (.val g e)\/∃d b,ja f cx mask c a=some (.call d b)/\cf d b a=some (g,e)
def my{e b:Env}{g c:H}{f:Oper}(a:kV cx cf mask ops e g f=some (b,c)):
 (j9 ops mask e f.guard=some false/\e.dst mask f.dst .undef=some b/\c=g)\/
 (j9 ops mask e f.guard=some true/\∃d,Dc cx cf mask e g f.op d c/\e.dst mask f.dst d=some b):=by
 replace a:=dD.1 a;obtain⟨r,p,a⟩:=a;cases r with
 |false=>
  left;have a:(dM (e.dst mask f.dst .undef) λb=>some (b,g))=some (b,c):=a;replace a:=dD.1 a;obtain⟨m,h,a⟩:=a;simp only[ar,ay]at a;obtain⟨rfl,rfl⟩:=a;exact⟨p,h,rfl⟩
 |true=>
  right;refine⟨p,?_⟩;have a:(dM (ja f.op cx mask e g) λk=> @lh.rec (λ_=>aa (Env×TI.H))
   (λd c=>dM (e.dst mask f.dst d) λb=>some (b,c))
   (λj i=>dM (cf j i g) λl=>two l λd c=>dM (e.dst mask f.dst d) λb=>some (b,c)) k)=some (b,c):=a
  replace a:=dD.1 a;obtain⟨k,o,a⟩:=a;rcases k with⟨d,n⟩|⟨j,i⟩
  ·skip
   have a:(dM (e.dst mask f.dst d) λb=>some (b,n))=some (b,c):=a;replace a:=dD.1 a;obtain⟨m,h,a⟩:=a;simp only[ar,ay]at a;obtain⟨rfl,rfl⟩:=a;exact⟨d,.inl o,h⟩
  ·skip
   have a:(dM (cf j i g) λl=>two l λd c=>dM (e.dst mask f.dst d) λb=>some (b,c))=some (b,c):=a;replace a:=dD.1 a;obtain⟨⟨d,n⟩,q,a⟩:=a;simp only[kf]at a;replace a:=dD.1 a;obtain⟨m,h,a⟩:=a;simp only[ar,ay]at a;obtain⟨rfl,rfl⟩:=a;exact⟨d,.inr ⟨j,i,o,q⟩,h⟩
def Ch{P:ai}{h:Nat}{a:World}{g:Mu}{j:Env}{b c:H}{i:Act}{k:Oper}{f:T}(iG:iP P cx)(o:mX P cx cf)
 (e:St cx h a.heap g b) (l:j7 a.heap g mask j i.tmps) (u:Dc cx cf mask j b k.op f c):yE P (pU cx h a g b f c) ((execOp i.eval k).run P a):=by
 rcases u with d|⟨p,m,d,s⟩
 ·exact((xV iG e l d).Yv).mono λv w r=>⟨r,Oo e.wf f c d⟩
 ·obtain⟨_,n,q,t⟩:=F9 (P:=P) e l d;rw[t];exact o p m b f c s h a g n e q
def Dc.congr{b e':Env}{c d:H}{a:Op}{f:T}(h:∀g∈a.operands,fG cx mask b g=fG cx mask e' g)(e:Dc cx cf mask b c a f d):Dc cx cf mask e' c a f d:=by
 unfold Dc at*
 rw[y9 h]at e;exact e
def IN{b:Call}{e:Env}{g:H}{f:aj}{d:List T}(a:ja (.call b) cx mask e g=some (.call f d)):ik (.call b)=true:=by
 have a:B4 b cx mask e g=some (.call f d):=a;replace a:=dD.1 a;obtain⟨j,hl,a⟩:=a;cases c:b.callee with
 |builtin h=>rw[c]at a;exact(uD a).elim
 |invoke l k=>rw[c]at a;simp at a
 |value i=>simp[ik,c]
def Hj{d:Env}{e f:H}{c:Op}{i:T}(h:ik c=false)(l:Dc cx cf mask d e c i f):ja c cx mask d e=some (.val i f):=by
 rcases l with b|⟨k,j,b,_⟩
 ·exact b
 ·by_cases g:∃a,c= .call a
  ·obtain⟨a,rfl⟩:=g;rw[IN b]at h;simp at h
  ·exact absurd b (BL (λa m=>g ⟨a,m⟩) k j)
def xO(mask:Nat)(a:Env):List Nat->fN
 | []=> .nil
 |s::b=>match a.get mask s with
  |some c=> .cons s c (xO mask a b)
  |none=>xO mask a b
def II{d:Env}{c:Nat}:∀(b:List Nat),dH (xO mask d b) c=if c∈b then d.get mask c else none:=by
 intro b;induction b with
 |nil=>simp[xO,dH]
 |cons e b g=>
  unfold xO;cases f:d.get mask e with
  |none=>
   simp only[g,ci];by_cases a:c=e
   ·subst a;simp[f]
   ·simp[a]
  |some h=>
   simp only[mN,g,ci];by_cases a:e=c
   ·subst a;simp[f]
   ·simp[a,bg a]
def Br(mask:Nat)(a:Env)(b:List Nat):Env:=⟨xO mask a b,xO mask a b⟩
def xP{b:Env}{a:Nat}{c:List Nat}:(Br mask b c).get mask a=if a∈c then b.get mask a else none:=by
 show @Bool.rec (λ_=>aa T) (dH (xO mask b c) a) (dH (xO mask b c) a) (jW mask a)=_;rw[II];cases jW mask a<;>rfl
def y8{a:Env}{c:Oper}{b:ah}(e:b∈c.op.operands):fG cx mask a b=fG cx mask (Br mask a (c.looksAt ops)) b:=by
 cases b with
 |tmp d=>
  show a.get mask d=(Br mask a (c.looksAt ops)).get mask d;rw[xP,aq];unfold Oper.looksAt;exact cW _ (List.mem_filterMap.2 ⟨.tmp d,by simpa using e,rfl⟩)
 |const f=>rfl
 |global h=>rfl
 |func g=>rfl
def HS{c:Env}{a:Oper}:j9 ops mask (Br mask c (a.looksAt ops)) a.guard=j9 ops mask c a.guard:=by
 cases h:a.guard with
 |none=>rfl
 |some f=>
  obtain⟨d,k⟩:=f;show(dM (dM (dM (lM ops.toList d) λa=>a.dst) λb=>(Br mask c (a.looksAt ops)).get mask b) λj=>_)=(dM (dM (dM (lM ops.toList d) λa=>a.dst) λb=>c.get mask b) λj=>_);cases e:(dM (lM ops.toList d) λa=>a.dst)with
  |none=>rfl
  |some b=>
   simp only[dR];rw[xP,aq];unfold Oper.looksAt;refine dp _ ?_;replace e:=dD.1 e;obtain⟨f,g,i⟩:=e;rw[ks]at g;have:ops[d]? =some f:=by simpa using g
   simp[h,this,i]
end
end
noncomputable section
def fg.conv{E:af Obj}{B C:Mu}{b:T}{r:am}(a:fg E B b r){n:Nat}(hl:o8 n b)(s:∀c e,c<n->B c=some e->C c=some e)
 (D:∀k,mR C k->mR B k):fg E C b r:=by
 induction a with
 |undef=>exact .undef
 |bool c=>exact .bool c
 |int d Q=>exact .int d Q
 |str S a=>exact .str S a
 |ka=>exact .ka
 |ptr c w k O e h j x L=>cases hl with|ptr _ _ _ _ a=>exact .ptr c w k O e h (s c e a j) x L
 |ji v t off arr q fz A y i p hr g=>
  cases hl with|ji _ a=>exact .ji v t off arr q fz (λd=>A (D _ d)) y i p λd b f=>g d b f (a b (ax f))
 |m7 m h=>exact .m7 m h
 |dF I J m t off u U arr q fz A y z M N i p hr g=>
  cases hl with|dF _ _ a=>exact .dF I J m t off u U arr q fz (λd=>A (D _ d)) y z M N i p λd b f=>g d b f (a b (ax f))
 |fR h u=>exact .fR h u
 |arr c w R P m e h G j x z o=>cases hl with|arr _ _ _ _ _ a=>exact .arr c w R P m e h G (s c e a j) x z o
 |func K F l i hr g=>cases hl with|func _ _ a=>exact .func K F l i λd b f=>g d b f (a b (ax f))
 |kv=>exact .kv
 |ku=>exact .ku
 |iface q b r a g=>cases hl with|iface _ _ a=>exact .iface q b r (g a)
 |iter c e h j o=>cases hl with|iter _ a=>exact .iter c e h (s c e a j) o
 |map c e k j o=>cases hl with|map _ a=>exact .map c e k (s c e a j) o
 |nh=>exact .nh
 |agg v l i p hr g=>cases hl with|agg _ a=>exact .agg v l i p λd b f=>g d b f (a b (ax f))
 |tuple V l i hr g=>cases hl with|tuple _ a=>exact .tuple V l i λd b f=>g d b f (a b (ax f))
def pZ.conv{u:af Obj}{s t:Mu}{e:Loc}{q:iN}(i:pZ u s e q){n:Nat}(hl:∀c∈fa q.em,o8 n c)(k:∀m e,m<n->s m=some e->t m=some e)
 (j:∀l,mR t l->mR s l):pZ u t e q:=by
 refine⟨i.ep,i.sz,λb=> ?_,λb=> ?_⟩
 ·have h:=i.plain b;obtain⟨x,L,a,f,d⟩:=h.row;exact⟨⟨x,L,a,f,d.1,λb c v=>(d.2 b c v).conv (hl c (ax v)) k j⟩,h.room,h.sx,h.size,h.scalar⟩
 ·obtain⟨p,a|⟨z,a,f,d⟩|⟨G,F,J,K,y,a,f,d,E⟩⟩:=i.iter b
  ·exact⟨p,.inl a⟩
  rotate_left
  ·exact⟨p,.inr (.inr ⟨G,F,J,K,y,a,f.conv (hl _ (by rw[a];simp[fa,T.cells])) k j,d,E⟩)⟩
  ·refine⟨p,.inr (.inl ⟨z,a,f,λl r w=> ?_⟩)⟩;obtain⟨b,c,I,o,A,B,C,D⟩:=d l r w;have g:=hl r (List.mem_flatMap.2 ⟨r,ax w,by rw[o];simp[T.cells]⟩);rw[o]at g;cases g with|tuple _ g=>exact⟨b,c,I,o,A,B,C.conv (g b dt) k j,D.conv (g c dt) k j⟩
def o8.mono{n c:Nat}{d:T}(a:o8 n d)(g:n<=c):o8 c d:=by
 induction a with
 |ptr b e h i a=>exact .ptr _ _ _ _ dq
 |arr b e k j f a=>exact .arr _ _ _ _ _ dq
 |iter b a=>exact .iter _ dq
 |map b a=>exact .map _ dq
 |_=>constructor<;>assumption
def St.congr{cx:Ctx}{f:Nat}{i:af Obj}{e:Mu}{g d:H}(a:St cx f i e g)(m:d.fc.length=d.size)(k:∀b c,e b=some c->d.get b=g.get b):St cx f i e d:=
 ⟨m,a.fit,λb c h=>by obtain⟨o,j,l⟩:=a.box b c h;exact⟨o,by rw[k b c h];exact j,l⟩,a.inj,a.low,a.apart,a.pW,a.yh⟩
def H.get_some{a:H}(e:a.fc.length=a.size){b:Nat}(c:b<a.size):∃d,a.get b=some d:=by
 rw[H.get_eq,aq c];exact⟨a.fc[a.size-1-b]' dq,dt⟩
def tT(Hs:Nat->H)(a:Nat):Nat->Nat
 |0=>0
 |k+1=>if a<(Hs k).size then tT Hs a k else k+1
def Ff(Hs:Nat->H)(a n:Nat):tT Hs a n<=n:=by
 induction n with
 |zero=>simp[tT]
 |succ n b=>unfold tT;split<;>omega
def Vn{Hs:Nat->H}{b:Nat}{n:Nat}(e:∀a,a<n->(Hs a).size<=(Hs (a+1)).size)(c:b<(Hs n).size):b<(Hs (tT Hs b n)).size:=by
 induction n with
 |zero=>exact c
 |succ n f=>
  unfold tT;split
  ·rename_i d;exact f (λa g=>e a dq) d
  ·exact c
def Rz{Hs:Nat->H}{d:Nat}:∀{n p:Nat},p<tT Hs d n->(∀b,b<n->(Hs b).size<=(Hs (b+1)).size)->(Hs p).size<=d:=by
 intro n;induction n with
 |zero=>intro p a;simp[tT]at a
 |succ n g=>
  intro p a e;unfold tT at a;split at a
  ·exact g a λb j=>e b dq
  ·rename_i i;have:∀c,p+c=n->(Hs p).size<=(Hs n).size:=by
    intro c;induction c generalizing p with
    |zero=>intro f;rw[show p=n by omega];exact au _
    |succ c h=>
     intro f;have:=e p dq;have:=h (p:=p+1) dq dq;omega
   have:=this (n-p) dq;omega
section
variable {Hs:Nat->H}{n:Nat}
def mK(f:∀c,c<n->(Hs c).size<=(Hs (c+1)).size){b d:Nat}(e:b<=d)(j:d<=n):(Hs b).size<=(Hs d).size:=by
 obtain⟨a,rfl⟩:=Nat.exists_eq_add_of_le e;clear e;induction a with
 |zero=>exact au _
 |succ a g=>
  have h:=g dq;have i:=f (b+a) dq;have:b+(a+1)=b+a+1:=dq;rw[this];omega
def kI(c:∀a,a<n->(Hs a).size<=(Hs (a+1)).size){b a:Nat}(e:b<(Hs n).size)(g:a<=n):b<(Hs a).size↔tT Hs b n<=a:=by
 constructor
 ·intro d;rcases aD a (tT Hs b n)with h|f
  ·have:=Rz h c;omega
  ·exact f
 ·intro d;have:=Vn c e;have:=mK c d g;omega
def lI(l:∀a,a<n->(Hs a).size<=(Hs (a+1)).size){c b e:Nat}(g:b<=e)(f:∀a,b<=a->a<e->(Hs (a+1)).get c=(Hs a).get c):(Hs e).get c=(Hs b).get c:=by
 obtain⟨d,rfl⟩:=Nat.exists_eq_add_of_le g;clear g;induction d with
 |zero=>rfl
 |succ d k=>
  have i:=k λa h c=>f a h dq;have j:=f (b+d) dq dq;have:b+(d+1)=b+d+1:=dq;rw[this,j,i]
end
def PH(Hs:Nat->H)(n:Nat)(b:Nat->Nat):H:=
 ⟨(Hs n).size,0,(List.range (Hs n).size).reverse.map λa=>((Hs (max (b a) (tT Hs a n))).get a).getD default⟩
def D4(Hs:Nat->H)(n:Nat)(a:Nat->Nat):(PH Hs n a).fc.length=(PH Hs n a).size:=by simp[PH]
def VQ{Hs:Nat->H}{n a:Nat}{c:Nat->Nat}(g:∀b,b<n->(Hs b).size<=(Hs (b+1)).size)(i:∀b,b<=n->(Hs b).fc.length=(Hs b).size)(k:c a<=n)(d:a<(Hs n).size):
 (PH Hs n c).get a=(Hs (max (c a) (tT Hs a n))).get a:=by
 have e:max (c a) (tT Hs a n)<=n:=by have:=Ff Hs a n;omega
 have f:a<(Hs (max (c a) (tT Hs a n))).size:=(kI g d e).2 dq;obtain⟨l,j⟩:=H.get_some (i _ e) f;rw[H.get_eq];have h:(PH Hs n c).size=(Hs n).size:=rfl;rw[h,aq d];show((List.range (Hs n).size).reverse.map λa=>((Hs (max (c a) (tT Hs a n))).get a).getD default)[(Hs n).size-1-a]? =_;rw[aQ,List.getElem?_reverse du];have:(List.range (Hs n).size).length-1-((Hs n).size-1-a)=a:=du;rw[this];simp[d,j]
def ry(b:af Oper)(a:af Bool)(c:Nat):Nat->Nat
 |0=>0
 |k+1=>if a.getD k false=true/\(b[k]?).bind (·.dst)=some c then k+1 else ry b a c k
def yc{ops:af Oper}{listed:af Bool}{s:Nat}:∀(n:Nat),ry ops listed s n=0\/∃a,ry ops listed s n=a+1/\a<n/\listed.getD a false=true/\(ops[a]?).bind (·.dst)=some s:=by
 intro n;induction n with
 |zero=>left;rfl
 |succ n e=>
  unfold ry;split
  ·rename_i b;right;exact⟨n,rfl,dq,b.1,b.2⟩
  ·rcases e with b|⟨a,c,f,d⟩
   ·left;exact b
   ·right;exact⟨a,c,dq,d⟩
def IF{ops:af Oper}{listed:af Bool}{s:Nat}:∀{n a:Nat},a<n->listed.getD a false=true->(ops[a]?).bind (·.dst)=some s->a+1<=ry ops listed s n:=by
 intro n;induction n with
 |zero=>intro a d;omega
 |succ n g=>
  intro a d b c;unfold ry;split
  ·omega
  ·rename_i e;rcases Nat.eq_or_lt_of_le (Nat.le_of_lt_succ d)with rfl|f
   ·exact absurd ⟨b,c⟩ e
   ·exact g f b c
def UK{ops:af Oper}{listed:af Bool}{s:Nat}(n:Nat):ry ops listed s n<=n:=by
 rcases yc (ops:=ops) (listed:=listed) (s:=s) n with a|⟨d,b,c,_⟩<;>omega
def LC{c:af Oper}{g h:af Bool}{d:Nat}:∀{n:Nat},(∀a,a<n->(c[a]?).bind (·.dst)=some d->h.getD a false=g.getD a false)->ry c h d n=ry c g d n:=by
 intro n;induction n with
 |zero=>intro _;rfl
 |succ n b=>
  intro e;have b:=b λa i=>e a dq;unfold ry;by_cases f:(c[n]?).bind (·.dst)=some d
  ·rw[e n dq f,b]
  ·simp[f,b]
end
end Go.TI
