/- Texts TiEnv to TiDraw2. -/
import Derived.Test.YtmaeadedikngoaaGreatDoorA4
import Derived.Orders
set_option linter.unusedVariables false
set_option linter.unusedSimpArgs false
set_option linter.defProp false
namespace Go.TI
noncomputable section
def mI(b:Nat)(d:T)(c:fJ)(a:Nat):dF (.cons b d c) a=if b=a then some d else dF c a:=by
 show @Bool.rec (λ_=>aa T) (dF c a) (some d) (Nat.beq b a)=_;cases e:Nat.beq b a with
 |true=>have:=aC e;simp[this]
 |false=>have:=cI e;simp[this]
def FS{l e:fJ}{c:Nat}{g:T}(a:li l c g=some e)(f:Nat):dF e f=if f=c then some g else dF l f:=by
 induction l generalizing e with
 |nil=>
  have a:some (fJ.cons c g .nil)=some e:=a;simp only[ar]at a;subst a;rw[mI];by_cases b:c=f
  ·simp[b]
  ·simp[b,bg b]
 |cons d m i o=>
  have a: @Bool.rec (λ_=>aa fJ) (dJ (li i c g) λj=>some (.cons d m j)) (some (.cons d g i)) (Nat.beq d c)=some e:=a;cases h:Nat.beq d c with
  |true=>
   rw[h]at a;have k:=aC h;have a:some (fJ.cons d g i)=some e:=a;simp only[ar]at a;subst a;rw[mI,mI,k];by_cases b:c=f
   ·simp[b]
   ·simp[b,bg b]
  |false=>
   rw[h]at a;have k:=cI h;have a:(dJ (li i c g) λj=>some (fJ.cons d m j))=some e:=a;obtain⟨j,ht,a⟩:=dA.1 a;simp only[ar]at a;subst a;rw[mI,mI,o ht];by_cases b:d=f
   ·have:f≠c:=λn=>k (b.trans n);simp[b,this]
   ·simp[b]
def Env.AM{d:Nat}{m g:Env}{c:Nat}{f:T}(a:m.set d c f=some g)(b:Nat):g.get d b=if b=c then some f else m.get d b:=by
 obtain⟨l,k⟩:=m;have a: @Bool.rec (λ_=>aa Env) (some ⟨l,.cons c f k⟩) (dJ (li l c f) λj=>some ⟨j,k⟩) (jS d c)=some g:=a;have get:∀(h i:fJ),(⟨h,i⟩:Env).get d b=if jS d b=true then dF h b else dF i b:=by
  intro h i;show @Bool.rec (λ_=>aa T) (dF i b) (dF h b) (jS d b)=_;cases jS d b<;>rfl
 cases hl:jS d c with
 |false=>
  rw[hl]at a;have a:some (⟨l,.cons c f k⟩:Env)=some g:=a;simp only[ar]at a;subst a;rw[get,get,mI];by_cases e:b=c
  ·subst e;simp[hl]
  ·simp[e,bg e]
 |true=>
  rw[hl]at a;have a:(dJ (li l c f) λj=>some (⟨j,k⟩:Env))=some g:=a;obtain⟨j,n,a⟩:=dA.1 a;simp only[ar]at a;subst a;rw[get,get,FS n];by_cases e:b=c
  ·subst e;simp[hl]
  ·simp[e]
def j1.put{k:af Obj}{m:Mu}{h:Nat}{f g:Env}{i:Act}{e:aa Tmp}{l:T}{c:am}(o:j1 k m h f i.tmps)(s:fa k m l c)(q:∀b,e=some b->b<i.tmps.size)
 (a:f.dst h e l=some g):j1 k m h g (i.put e c).tmps:=by
 cases e with
 |none=>
  have a:some f=some g:=a;simp only[ar]at a;subst a;exact o
 |some b=>
  have a:f.set h b l=some g:=a;intro p t d;rw[Env.AM a]at d;have r:=q b rfl;by_cases j:p=b
  ·subst j;simp only[bo,ar]at d;subst d;simpa[Act.put,aV,r]using s
  ·simp only[j,br]at d;have:=o p t d;simpa[Act.put,aV,Array.getElem?_setIfInBounds_ne (bg j)]using this
def Act.o9(a:Act)(b:aa Tmp)(c:am):(a.put b c).tmps.size=a.tmps.size:=by cases b<;>simp[Act.put]
def Act.pf(a:Act)(b:aa Tmp)(c:am):(a.put b c).defers=a.defers:=by cases b<;>rfl
def AZ{x:af Obj}{A:Mu}{l:Nat}{j:Env}{c:Act}{g:af Oper}{i:Oper}{d:Bool}(z:j1 x A l j c.tmps)(v:∀(f:Nat) (b:Oper) t,g[f]? =some b->b.dst=some t->t<c.tmps.size)
 (a:j3 g l j i.guard=some d):Region.wanted i (yielded g c.tmps)=d:=by
 unfold Region.wanted;cases o:i.guard with
 |none=>
  rw[o]at a;have a:some true=some d:=a;simpa using a
 |some b=>
  obtain⟨f,n⟩:=b;rw[o]at a;have a:(dJ (dJ (dJ (lF g.toList f) λi=>i.dst) λe=>j.get l e) λm=>
   match m with
   | .bool d=>some (@Bool.rec (λ_=>Bool) (@Bool.rec (λ_=>Bool) true false n) n d)
   |_=>some false)=some d:=a
  replace a:=dA.1 a;obtain⟨m,h,a⟩:=a;replace h:=dA.1 h;obtain⟨e,k,h⟩:=h;replace k:=dA.1 k;obtain⟨b,p,r⟩:=k;rw[kl]at p;have q:g[f]? =some b:=by simpa using p
  have w:=v f b e q r;have s:=z e m h;have y:((g[f]?).bind (·.dst)).bind (c.tmps[·]?)=some (c.tmps.getD e Go.undef):=by
   simp[q,r,aV,w]
  simp only[yielded,y];generalize c.tmps.getD e Go.undef=B at s;cases s<;>simp only[ar]at a<;>first
   |(subst a;rfl)
   |skip
  rename_i u;subst a;cases u<;>cases n<;>rfl
def pQ(cx:Ctx)(base:Nat)(w:World)(f:Mu)(h:H)(c:T)(h':H)(b:am)(d:World):Prop:=TD cx base w f h.size c h' b d/\kE h h'
def mR(P:ai)(cx:Ctx)(cf:iG):Prop:=
 ∀f c h g h',cf f c h=some (g,h')->∀base w b (d:af am),St cx base w.heap b h->fQ w.heap b c d.toList->yv P (pQ cx base w b h g h') ((callFunc f d).run P w)
def sj(cx:Ctx)(base mask m:Nat)(w0:World)(μ0:Mu)(h0:H)(e:Env)(h:H)(a:Act)(w:World):Prop:=
 ∃b,St cx base w.heap b h/\j1 w.heap b mask e a.tmps/\oP w0 μ0 w b/\xu μ0 b h0.size h.size/\kE h0 h/\a.tmps.size=m/\a.defers=[]
section
variable {P:ai}{cx:Ctx}{cf:iG}{base mask m:Nat}{w0 w:World}{μ0:Mu}{h0 h h':H}{e e':Env}{a:Act}{ops:af Oper}{Q:Exit->Act->World->Prop}
def Ej(m:Nat)(ops:af Oper):Prop:=∀(d:Nat) (b:Oper) c,ops[d]? =some b->b.dst=some c->c<m
def sj.after(H:sj cx base mask m w0 μ0 h0 e h a w){d:aa Tmp}(r:∀b,d=some b->b<m){l:T}(u:e.dst mask d l=some e')
 {g:Result Next} (hr:∀base c,St cx base w.heap c h->j1 w.heap c mask e a.tmps->yv P (pQ cx base w c h l h') g):yv P (λi n=>sj cx base mask m w0 μ0 h0 e' h' (a.put d i) n) g:=by
 obtain⟨c,b,k,A,o,p,j,s⟩:=H;refine(hr base c b k).mono λi n q=> ?_;obtain⟨⟨B,v,x,f,y⟩,z⟩:=q;refine⟨B,x,?_,A.trans f,o.trans (hp:=w.heap) y f.ext,p.trans z,by rw[Act.o9];exact j,by rw[Act.pf];exact s⟩;exact j1.put (k.ext f.ext) v (λb t=>by rw[j];exact r b t) u
def HU(iH:iM P cx)(G:mR P cx cf){n:Nat}{d:Oper}(s:ops[n]? =some d)(r:Ej m ops)(b:kQ cx cf mask ops e h d=some (e',h'))
 (H:sj cx base mask m w0 μ0 h0 e h a w) {z:Act->World->Prop} (v:∀A o,sj cx base mask m w0 μ0 h0 e' h' A o->z A o):wpOp P ops Q n z a w:=by
 have E:=H;obtain⟨t,c,f,V,I,J,x,M⟩:=E;unfold wpOp;simp only[s];replace b:=dA.1 b;obtain⟨U,R,b⟩:=b;have D:=AZ f (λS T c N i=>by rw[x];exact r S T c N i) R;cases U with
 |false=>
  have b:(dJ (e.dst mask d.dst .undef) λe'=>some (e',h))=some (e',h'):=b;replace b:=dA.1 b;obtain⟨C,l,b⟩:=b;simp only[ar,ay]at b;obtain⟨rfl,rfl⟩:=b;simp only[D,cd,br];refine v _ _ ⟨t,c,j1.put f .undef (λc i=>by rw[x];exact r n d c s i) l,V,I,J,by rw[Act.o9];exact x,by rw[Act.pf];exact M⟩
 |true=>
  simp only[D,bo];left;have b:(dJ (iW d.op cx mask e h) λu=> @kW.rec (λ_=>aa (Env×TI.H))
   (λg h'=>dJ (e.dst mask d.dst g) λe'=>some (e',h'))
   (λq p=>dJ (cf q p h) λf=>two f λg h'=>dJ (e.dst mask d.dst g) λe'=>some (e',h')) u)=some (e',h'):=b
  replace b:=dA.1 b;obtain⟨u,y,b⟩:=b;rcases u with⟨g,j⟩|⟨q,p⟩
  ·skip
   have b:(dJ (e.dst mask d.dst g) λe'=>some (e',j))=some (e',h'):=b;replace b:=dA.1 b;obtain⟨C,l,b⟩:=b;simp only[ar,ay]at b;obtain⟨rfl,rfl⟩:=b;refine yv.wp (H.after (λc i=>r n d c s i) l (h':=j) λbase t c f=> ?_) (λB o k=>v _ _ k);exact((xN iH c f y).Yl).mono λB o k=>⟨k,Oc c.wf g j y⟩
  ·skip
   have b:(dJ (cf q p h) λf=>two f λg h'=>dJ (e.dst mask d.dst g) λe'=>some (e',h'))=some (e',h'):=b;replace b:=dA.1 b;obtain⟨⟨g,j⟩,L,b⟩:=b;simp only[j9]at b;replace b:=dA.1 b;obtain⟨C,l,b⟩:=b;simp only[ar,ay]at b;obtain⟨rfl,rfl⟩:=b;refine yv.wp (H.after (λc i=>r n d c s i) l (h':=j) λbase t c f=> ?_) (λB o k=>v _ _ k);obtain⟨_,F,K,O⟩:=Gd (P:=P) c f y;rw[O];exact G q p h g j L base w t F c K
def En(iH:iM P cx)(n:mR P cx cf)(q:Ej m ops):∀(c:List Oper) (d:Nat) (e:Env) (h:H) (a:Act) (w:World),(∀g,c[g]? =ops[d+g]?)->
 j8 cx cf mask ops c e h=some (e',h')->sj cx base mask m w0 μ0 h0 e h a w->(∀f i,sj cx base mask m w0 μ0 h0 e' h' f i->Q .normal f i)->wpOps P ops Q (List.range' d c.length) a w:=by
 intro c;induction c with
 |nil=>
  intro d e h a w _ b H j;have b:some (e,h)=some (e',h'):=b;simp only[ar,ay]at b;obtain⟨rfl,rfl⟩:=b;exact j a w H
 |cons k c t=>
  intro d e h a w hl b H j;have b:(dJ (kQ cx cf mask ops e h k) λu=>two u λe' h'=>j8 cx cf mask ops c e' h')=some (e',h'):=b;replace b:=dA.1 b;obtain⟨⟨o,p⟩,s,b⟩:=b;simp only[j9]at b;simp only[aZ,List.range'_succ];rw[wpOps_cons];have r:ops[d]? =some k:=by have:=hl 0;simpa using this.symm
  refine HU iH n r q s H λf i l=>t (d+1) o p f i (λg=> ?_) b l j;have:=hl (g+1);simp only[da]at this;rw[this];congr 1;omega
def Ra(m:Nat)(ops:af Oper):Bool:=ops.toList.all λb=>match b.dst with|some c=>Nat.blt c m|none=>true
def Q9(b:Ra m ops=true):Ej m ops:=by
 intro g f i c d;unfold Ra at b;rw[cD]at b;have:=b f (by simpa using Array.mem_of_getElem? c);rw[d]at this;simpa[aG]using this
def lY(m:Nat)(oe:af Oper->Bool):Code->Bool
 | .region _ ops c=>Ra m ops&&(!c||oe ops)
 | .seq a b=>lY m oe a&&lY m oe b
 | .cond _ a b=>lY m oe a&&lY m oe b
 | .block _ b=>lY m oe b
 | .loop b=>lY m oe b
 |_=>true
def ZN:Ex->Exit
 | .normal=> .normal
 | .exit b=> .exit b
 | .ret=> .ret
def PQ(P:ai)(cx:Ctx)(cf:iG)(oe:af Oper->Bool):Prop:=
 ∀(base mask m:Nat) (w0:World) (μ0:Mu) (h0:H) (ops:af Oper) (e e':Env) (h h':H) (a:Act) (w:World) (Q:Exit->Act->World->Prop) (id:Nat),oe ops=true->Ej m ops->
  jJ cx cf mask ops ops.toList 0 ⟨[],[]⟩ e h=some (e',h')->sj cx base mask m w0 μ0 h0 e h a w->(∀b c,sj cx base mask m w0 μ0 h0 e' h' b c->Q .normal b c)->(Code.region id ops true).wp P Q a w
def sj.drop(H:sj cx base mask m w0 μ0 h0 e h a w):sj cx base mask m w0 μ0 h0 ⟨e.vars,.nil⟩ h a w:=by
 obtain⟨q,n,l,p,g,i,k,j⟩:=H;refine⟨q,n,λb d c=>l b d ?_,p,g,i,k,j⟩;obtain⟨f,o⟩:=e;have c: @Bool.rec (λ_=>aa T) (dF .nil b) (dF f b) (jS mask b)=some d:=c;show @Bool.rec (λ_=>aa T) (dF o b) (dF f b) (jS mask b)=some d;cases hl:jS mask b with
 |true=>rw[hl]at c;exact c
 |false=>rw[hl]at c;simp[dF]at c
def wpL(P:ai)(d:Code)(Q:Exit->Act->World->Prop)(a:Act)(w:World):Prop:=
 ∀(c:Frame) (g:List Item) (f:List Frame),∃e b i,Q e b i/\Arrives P (lone (c.at a (.code d:: .inLoop d::g)) f w) c g f e b i
def KE{b:Code}(h:b.wp P (Exit.then (wpL P b Q) Q) a w):wpL P b Q a w:=by
 intro i k j;obtain⟨e,f,g,d,c⟩:=h i (.inLoop b::k) j;cases e with
 |normal=>
  obtain⟨n,l,q,p,o⟩:=d i k j;exact⟨n,l,q,p,.of_steps (Steps.trans c (.one step_inLoop)) o⟩
 |exit id=>exact⟨_,f,g,d,.pass (x:= .inLoop b) rfl (λ_ _=> .inl dp) c⟩
 |goto s=>exact⟨_,f,g,d,.pass (x:= .inLoop b) rfl (λ_ _=> .inl dp) c⟩
 |ret=>exact⟨_,f,g,d,.pass (x:= .inLoop b) rfl (λ_ _=> .inl dp) c⟩
 |panic r=>exact⟨_,f,g,d,.pass (x:= .inLoop b) rfl (λ_ _=> .inl dp) c⟩
 |outgrown=>exact⟨_,f,g,d,.pass (x:= .inLoop b) rfl (λ_ _=> .inl dp) c⟩
def KD{b:Code}(h:wpL P b Q a w):(Code.loop b).wp P Q a w:=by
 intro d j f;obtain⟨e,c,k,i,g⟩:=h d j f;exact⟨e,c,k,i,.of_steps (.one step_loop) g⟩
def aad(P:ai)(cx:Ctx)(base mask m:Nat)(w0:World)(μ0:Mu)(h0:H)(f:Code)(g:Env->H->Out):Prop:=
 ∀e h d e' h',g e h=some (d,e',h')->∀a w Q,sj cx base mask m w0 μ0 h0 e h a w->(∀b c,sj cx base mask m w0 μ0 h0 e' h' b c->Q (ZN d) b c)->f.wp P Q a w
def IA{p:Code}{j:Env->H->Out}(s:aad P cx base mask m w0 μ0 h0 p j):∀(f:Nat) (e:Env) (h:H) (c:Ex) (e':Env) (h':H),nH j f e h=some (c,e',h')->
 ∀a w Q,sj cx base mask m w0 μ0 h0 e h a w->(∀d g,sj cx base mask m w0 μ0 h0 e' h' d g->Q (ZN c) d g)->wpL P p Q a w:=by
 intro f;induction f with
 |zero=>intro e h c e' h' b;simp[nH]at b
 |succ f t=>
  intro e h c e' h' b a w Q H n;have b:(dJ (j e h) λu=>three u λc e' h'=> @Ex.rec (λ_=>Out) (nH j f e' h') (λo=>some (.exit o,e',h')) (some (.ret,e',h')) c)=some (c,e',h'):=b;replace b:=dA.1 b;obtain⟨⟨q,i,k⟩,r,b⟩:=b;refine KE (s e h q i k r a w _ H λd g l=> ?_);cases q with
  |normal=>
   have b:nH j f i k=some (c,e',h'):=b;exact t i k c e' h' b d g Q l n
  |exit o=>
   have b:some (Ex.exit o,i,k)=some (c,e',h'):=b;simp only[ar,ay]at b;obtain⟨rfl,rfl,rfl⟩:=b;exact n d g l
  |ret=>
   have b:some (Ex.ret,i,k)=some (c,e',h'):=b;simp only[ar,ay]at b;obtain⟨rfl,rfl,rfl⟩:=b;exact n d g l
def I5(iH:iM P cx)(I:mR P cx cf){oe:af Oper->Bool}(J:PQ P cx cf oe)(p:Nat):∀(s:Code),lY m oe s=true->aad P cx base mask m w0 μ0 h0 s (jL cx cf p mask s):=by
 intro s;induction s with
 |skip=>
  intro _ e h c e' h' b a w Q H d;have b:some (Ex.normal,e,h)=some (c,e',h'):=b;simp only[ar,ay]at b;obtain⟨rfl,rfl,rfl⟩:=b;exact wp_skip (d a w H)
 |exit id=>
  intro _ e h c e' h' b a w Q H d;have b:some (Ex.exit id,e,h)=some (c,e',h'):=b;simp only[ar,ay]at b;obtain⟨rfl,rfl,rfl⟩:=b;exact wp_exit (d a w H)
 |ret=>
  intro _ e h c e' h' b a w Q H d;have b:some (Ex.ret,e,h)=some (c,e',h'):=b;simp only[ar,ay]at b;obtain⟨rfl,rfl,rfl⟩:=b;exact wp_ret (d a w H)
 |region id ops K=>
  intro f e h c e' h' b a w Q H d;simp only[lY,aB]at f;have F:=Q9 f.1;have n:=H.drop;obtain⟨D,O⟩:=e;cases K with
  |false=>
   have b:(dJ (j8 cx cf mask ops ops.toList ⟨D,.nil⟩ h) λo=>two o λe' h'=>some (Ex.normal,(⟨e'.vars,.nil⟩:Env),h'))=some (c,e',h'):=b;replace b:=dA.1 b;obtain⟨⟨k,j⟩,q,b⟩:=b;simp only[j9,ar,ay]at b;obtain⟨rfl,rfl,rfl⟩:=b;refine wp_region ?_;rw[List.range_eq_range'];have:=En (Q:=Q) iH I F ops.toList 0 ⟨D,.nil⟩ h a w (λN=>by simp) q n λg i x=>d g i x.drop;simpa using this
  |true=>
   have b:(dJ (jJ cx cf mask ops ops.toList 0 ⟨[],[]⟩ ⟨D,.nil⟩ h) λo=>two o λe' h'=>some (Ex.normal,(⟨e'.vars,.nil⟩:Env),h'))=some (c,e',h'):=b;replace b:=dA.1 b;obtain⟨⟨k,j⟩,q,b⟩:=b;simp only[j9,ar,ay]at b;obtain⟨rfl,rfl,rfl⟩:=b;exact J base mask m w0 μ0 h0 ops _ _ h j a w Q id (by simpa using f.2) F q n λg i x=>d g i x.drop
 |seq r y A B=>
  intro f e h c e' h' b a w Q H d;simp only[lY,aB]at f;have b:(dJ (jL cx cf p mask r e h) λo=>three o λc e' h'=> @Ex.rec (λ_=>Out) (jL cx cf p mask y e' h') (λl=>some (.exit l,e',h')) (some (.ret,e',h')) c)=some (c,e',h'):=b;replace b:=dA.1 b;obtain⟨⟨t,k,j⟩,q,b⟩:=b;refine wp_seq (A f.1 e h t k j q a w _ H λg i n=> ?_);cases t with
  |normal=>exact B f.2 k j c e' h' b g i Q n d
  |exit l=>
   have b:some (Ex.exit l,k,j)=some (c,e',h'):=b;simp only[ar,ay]at b;obtain⟨rfl,rfl,rfl⟩:=b;exact d g i n
  |ret=>
   have b:some (Ex.ret,k,j)=some (c,e',h'):=b;simp only[ar,ay]at b;obtain⟨rfl,rfl,rfl⟩:=b;exact d g i n
 |cond G r y A B=>
  intro f e h c e' h' b a w Q H d;simp only[lY,aB]at f;have b:(dJ (fy cx mask e G) λC=>match C with
   | .bool v=> @Bool.rec (λ_=>Out) (jL cx cf p mask y e h) (jL cx cf p mask r e h) v
   |_=>none)=some (c,e',h'):=b
  replace b:=dA.1 b;obtain⟨C,L,b⟩:=b;cases C<;>simp only[reduceCtorEq]at b;rename_i v;have E:a.eval G= .bool v:=by
   obtain⟨R,M,o,_⟩:=H;exact(fT M o L).pz
  cases v with
  |true=>exact wp_cond_true E (A f.1 e h c e' h' b a w Q H d)
  |false=>exact wp_cond_false E (B f.2 e h c e' h' b a w Q H d)
 |block id r z=>
  intro f e h c e' h' b a w Q H d;have b:(dJ (jL cx cf p mask r e h) λo=>three o λc e' h'=> @Ex.rec (λ_=>Out) (some (.normal,e',h')) (λl=> @Bool.rec (λ_=>Out) (some (.exit l,e',h')) (some (.normal,e',h')) (Nat.beq l id)) (some (.ret,e',h')) c)=some (c,e',h'):=b;replace b:=dA.1 b;obtain⟨⟨t,k,j⟩,q,b⟩:=b;refine wp_block (z f e h t k j q a w _ H λg i n=> ?_);cases t with
  |normal=>
   have b:some (Ex.normal,k,j)=some (c,e',h'):=b;simp only[ar,ay]at b;obtain⟨rfl,rfl,rfl⟩:=b;exact d g i n
  |exit l=>
   have b: @Bool.rec (λ_=>Out) (some (.exit l,k,j)) (some (.normal,k,j)) (Nat.beq l id)=some (c,e',h'):=b;show(if l=id then Q .normal g i else Q (.exit l) g i);cases u:Nat.beq l id with
   |true=>
    rw[u]at b;simp only[ar,ay]at b;obtain⟨rfl,rfl,rfl⟩:=b;rw[aq (aC u)];exact d g i n
   |false=>
    rw[u]at b;simp only[ar,ay]at b;obtain⟨rfl,rfl,rfl⟩:=b;rw[ao (cI u)];exact d g i n
  |ret=>
   have b:some (Ex.ret,k,j)=some (c,e',h'):=b;simp only[ar,ay]at b;obtain⟨rfl,rfl,rfl⟩:=b;exact d g i n
 |loop r z=>
  intro f e h c e' h' b a w Q H d;exact KD (IA (z f) p e h c e' h' b a w Q H d)
 |_=>intro _ e h c e' h' b;exact absurd b (by simp[jL])
end
end
noncomputable section
def mH{d i:Type}{b c:d->aa i}:∀{a:List d},(∀x∈a,b x=c x)->fw b a=fw c a
 | [],_=>rfl
 |x::a,h=>by
  rw[jn,jn,h x dp,mH λg f=>h g (by simp[f])]
section
variable {cx:Ctx}{mask:Nat}{e e':Env}{h h1 h2:H}
def zW{a:List ah}(c:∀b∈a,fy cx mask e b=fy cx mask e' b):pi cx mask e a=pi cx mask e' a:=mH c
def wu{b:List (Nat×ah)}(d:∀a∈b,fy cx mask e a.2=fy cx mask e' a.2):partsOf cx mask e b=partsOf cx mask e' b:=by
 unfold partsOf;refine mH λa c=> ?_;obtain⟨f,g⟩:=a;simp only[j9];rw[d (f,g) c]
def t7{b:aa ah}(f:∀a,b=some a->fy cx mask e a=fy cx mask e' a):jx cx mask e b=jx cx mask e' b:=by
 cases b with
 |none=>rfl
 |some a=>
  show(dJ (fy cx mask e a) λd=>dJ (oZ d) λc=>some (some c))=(dJ (fy cx mask e' a) λd=>dJ (oZ d) λc=>some (some c));rw[f a rfl]
def yR{f:Op}(b:∀a∈f.operands,fy cx mask e a=fy cx mask e' a):iW f cx mask e h=iW f cx mask e' h:=by
 by_cases s:∃d,f= .call d
 ·obtain⟨d,rfl⟩:=s;have h1:pi cx mask e d.args.toList=pi cx mask e' d.args.toList:=zW λa q=>b a (by simp only[Op.operands,Call.operands,Array.mem_append];right;simpa using q);simp only[iW,BW,h1];cases x:d.callee with
  |builtin i=>rfl
  |invoke a D=>rfl
  |value o=>
   have h2:=b o (by simp only[Op.operands,Call.operands,x];simp);simp only[h2]
 cases f with
 |move a=>have h1:=b a (by simp[Op.operands]);simp only[iW,BT,h1]
 |assign a=>have h1:=b a (by simp[Op.operands]);simp only[iW,BT,h1]
 |pick d g i=>
  have h1:=b d (by simp[Op.operands]);have h2:=b g (by simp[Op.operands]);have p:=b i (by simp[Op.operands]);simp only[iW,D4,h1,h2,p]
 |alloc c=>rfl
 |box c a=>have h1:=b a (by simp[Op.operands]);simp only[iW,LD,h1]
 |build c m=>
  have h1:partsOf cx mask e m.toList=partsOf cx mask e' m.toList:=wu λl r=>b l.2 (by simp only[Op.operands,List.mem_toArray,List.mem_map];exact⟨l,r,rfl⟩);simp only[iW,zj,h1]
 |buildSlice c E m=>
  have h1:partsOf cx mask e m.toList=partsOf cx mask e' m.toList:=wu λl r=>b l.2 (by simp only[Op.operands,List.mem_toArray,List.mem_map];exact⟨l,r,rfl⟩);simp only[iW,nJ,h1]
 |load c g=>have h1:=b g (by simp[Op.operands]);simp only[iW,GZ,h1]
 |store c g a=>have h1:=b g (by simp[Op.operands]);have h2:=b a (by simp[Op.operands]);simp only[iW,BQ,h1,h2]
 |nilCheck a=>have h1:=b a (by simp[Op.operands]);simp only[iW,qv,h1]
 |binOp f c a A G=>
  have h1:=b a (by simp[Op.operands]);have h2:=b A (by simp[Op.operands]);cases f<;>simp only[iW,UJ,LE,h1,h2]
 |unOp f c a=>have h1:=b a (by simp[Op.operands]);simp only[iW,Zu,h1]
 |convert z B a=>have h1:=b a (by simp[Op.operands]);simp only[iW,JY,h1]
 |makeInterface c a=>have h1:=b a (by simp[Op.operands]);simp only[iW,zg,h1]
 |makeFunc C g i=>
  have h1:pi cx mask e i.toList=pi cx mask e' i.toList:=zW λa q=>b a (by simp only[Op.operands,Array.mem_append];right;simpa using q);simp only[iW,BU,h1]
 |makeSlice c y d=>have h1:=b y (by simp[Op.operands]);have h2:=b d (by simp[Op.operands]);simp only[iW,oJ,h1,h2]
 |slice c a u t v=>
  have h1:=b a (by simp[Op.operands]);have h2:jx cx mask e u=jx cx mask e' u:=t7 λk j=>b k (by subst j;simp[Op.operands]);have p:jx cx mask e t=jx cx mask e' t:=t7 λk j=>b k (by subst j;simp[Op.operands]);have w:jx cx mask e v=jx cx mask e' v:=t7 λk j=>b k (by subst j;simp[Op.operands]);simp only[iW,BR,h1,h2,p,w]
 |fieldAddr c a o=>have h1:=b a (by simp[Op.operands]);simp only[iW,oL,h1]
 |field c a o=>have h1:=b a (by simp[Op.operands]);simp only[iW,zi,h1]
 |indexAddr c a n=>have h1:=b a (by simp[Op.operands]);have h2:=b n (by simp[Op.operands]);simp only[iW,oK,h1,h2]
 |index c a n=>have h1:=b a (by simp[Op.operands]);have h2:=b n (by simp[Op.operands]);simp only[iW,zf,h1,h2]
 |extract a n=>have h1:=b a (by simp[Op.operands]);simp only[iW,tH,h1]
 |makeMap c F=>rfl
 |lookup=>rfl
 |mapUpdate=>rfl
 |range c a=>have h1:=b a (by simp[Op.operands]);simp only[iW,xY,BS,h1]
 |next it z=>have h1:=b it (by simp[Op.operands]);simp only[iW,GW,za,h1]
 |entry=>rfl
 |_=>first|rfl|exact(s ⟨_,rfl⟩).elim
def uU{c:Op}(b:∀a∈c.operands,fy cx mask e a=fy cx mask e' a):fU cx mask e h c=fU cx mask e' h c:=by
 cases c with
 |load d a=>have h1:=b a (by simp[Op.operands]);simp only[fU,h1]
 |indexAddr d a f=>have h1:=b a (by simp[Op.operands]);simp only[fU,h1]
 |slice d a j i k=>have h1:=b a (by simp[Op.operands]);simp only[fU,h1]
 |convert m g a=>have h1:=b a (by simp[Op.operands]);simp only[fU,h1]
 |lookup d a f l=>have h1:=b a (by simp[Op.operands]);simp only[fU,h1]
 |_=>rfl
def jf(h1 h2:H)(c d:aa kW):Prop:=∀b a,c=some (.val b a)->a=h1/\d=some (.val b h2)
def jf.none:jf h1 h2 none none:=λ_ _ a=>by simp at a
def jf.val{a:aa T}:jf h1 h2 (val h1 a) (val h2 a):=λd c b=>by
 obtain⟨rfl,rfl⟩:=fH.1 b;exact⟨rfl,fH.2 ⟨rfl,rfl⟩⟩
def jf.some{a:T}:jf h1 h2 (some (.val a h1)) (some (.val a h2)):=λa c b=>by
 simp only[ar,kW.val.injEq]at b;obtain⟨rfl,rfl⟩:=b;exact⟨rfl,rfl⟩
def jf.dJ{f:Type}{b:aa f}{c d:f->aa kW}(g:∀a,b=Option.some a->jf h1 h2 (c a) (d a)):jf h1 h2 (dJ b c) (dJ b d):=by
 cases b with
 |none=>exact jf.none
 |some a=>exact g a rfl
def jf.fP{a:Bool}{b c:aa kW}(d:jf h1 h2 b c):jf h1 h2 (fP a b) (fP a c):=by
 cases a with
 |false=>exact jf.none
 |true=>exact d
def jf.bool{a:Bool}{b d c f:aa kW}(g:jf h1 h2 b c)(i:jf h1 h2 d f):jf h1 h2 (Bool.casesOn a b d) (Bool.casesOn a c f):=by
 cases a<;>assumption
def KA(b:Nat->T):Prop:=(∀a,b a= .ptr a 0 0 0)\/(∃c,∀a,b a= .arr a 0 0 c false)\/(∀a,b a= .iter a)\/(∀a,b a= .map a)
def Mk(h1 h2:H)(f g:aa kW):Prop:=∀c b,f=some (.val c b)->∃a d,KA a/\c=a h1.size/\b=h1.cons d/\g=some (.val (a h2.size) (h2.cons d))
def Mk.none:Mk h1 h2 none none:=λ_ _ a=>by simp at a
def Mk.new{f:Nat->T}{b:iJ}(c:KA f):Mk h1 h2 (jl (h1.new f b)) (jl (h2.new f b)):=λg d a=>by
 rw[ja,H.kv]at a;simp only[ar,ay]at a;obtain⟨rfl,rfl⟩:=a;exact⟨f,b,c,rfl,rfl,by rw[ja,H.kv]⟩
def Mk.dJ{f:Type}{b:aa f}{c d:f->aa kW}(g:∀a,b=Option.some a->Mk h1 h2 (c a) (d a)):Mk h1 h2 (dJ b c) (dJ b d):=by
 cases b with
 |none=>exact Mk.none
 |some a=>exact g a rfl
def Mk.fP{a:Bool}{b c:aa kW}(d:Mk h1 h2 b c):Mk h1 h2 (fP a b) (fP a c):=by
 cases a with
 |false=>exact Mk.none
 |true=>exact d
def Od{a:ab}:Mk h1 h2 (iW (.alloc a) cx mask e h1) (iW (.alloc a) cx mask e h2):=by
 simp only[iW,BX];refine Mk.dJ λb _=> ?_;cases vU cx b<;>exact Mk.new (.inl λ_=>rfl)
def Uu{a:ab}{b:ah}:Mk h1 h2 (iW (.box a b) cx mask e h1) (iW (.box a b) cx mask e h2):=by
 simp only[iW,LD];exact Mk.dJ λc _=>Mk.fP (Mk.new (.inl λ_=>rfl))
def CN{c:ab}{b:Nat}{a:af (Nat×ah)}:Mk h1 h2 (iW (.buildSlice c b a) cx mask e h1) (iW (.buildSlice c b a) cx mask e h2):=by
 simp only[iW,nJ];refine Mk.dJ λd _=> ?_;cases d.u<;>first
  |exact Mk.none
  |exact Mk.dJ λg _=>Mk.dJ λa _=>Mk.fP (Mk.fP (Mk.dJ λf _=>Mk.new (.inr (.inl ⟨_,λ_=>rfl⟩))))
def EG{c:ab}{b a:ah}:Mk h1 h2 (iW (.makeSlice c b a) cx mask e h1) (iW (.makeSlice c b a) cx mask e h2):=by
 simp only[iW,oJ];refine Mk.dJ λd _=> ?_;cases d.u<;>first
  |exact Mk.none
  |exact Mk.dJ λf _=>Mk.dJ λ_ _=>Mk.dJ λ_ _=>Mk.dJ λ_ _=>Mk.dJ λ_ _=>Mk.fP (Mk.fP (Mk.fP (Mk.fP (Mk.new (.inr (.inl ⟨_,λ_=>rfl⟩))))))
def Iw{b:ab}{a:aa ah}:Mk h1 h2 (iW (.makeMap b a) cx mask e h1) (iW (.makeMap b a) cx mask e h2):=Mk.none
def Lu{f:Ty}{c g:T}(hl:∀a,dL c=some a->a<h1.size->h2.get a=h1.get a)(b:h1.load f c=some g):h2.load f c=some g:=by
 cases c with
 |ptr a j k m=>
  have b:(dJ (h1.elem a j k) λe=>dJ (jF m e.cells) λi=>jW f i)=some g:=b;show(dJ (h2.elem a j k) λe=>dJ (jF m e.cells) λi=>jW f i)=some g;replace b:=dA.1 b;obtain⟨n,l,b⟩:=b;have o:h2.elem a j k=some n:=by
   have d:=l;unfold H.elem at d|-;replace d:=dA.1 d;obtain⟨q,p,_⟩:=d;rw[hl a rfl (H.ej p)];exact l
  rw[o];exact b
 |_=>exact b
def CS{g:Ty}{j:T}{b:Nat}(hl:∀a,dL j=some a->a<h1.size->h2.get a=h1.get a):jf h1 h2 (kf h1 g j b) (kf h2 g j b):=by
 cases j with
 |dC s m=>exact jf.dJ λ_ _=>jf.fP jf.some
 |arr a d l k m=>
  intro o n f;have q:=f;have f:fP (Nat.blt b k) (dJ (h1.get a) λc=>fP (Nat.beq c.sz g.size)<|fP (Nat.beq c.ep d) (dJ (f6 (Nat.add l b)) λi=>some (kW.val (.ptr a d i 0) h1)))=some (.val o n):=f;obtain⟨_,f⟩:=dI.1 f;obtain⟨j,r,_⟩:=dA.1 f;have p:=hl a rfl (H.ej r);have:kf h2 g (.arr a d l k m) b=fP (Nat.blt b k) (dJ (h1.get a) λc=>fP (Nat.beq c.sz g.size)<|fP (Nat.beq c.ep d) (dJ (f6 (Nat.add l b)) λi=>some (kW.val (.ptr a d i 0) h2))):=by
   rw[<-p];rfl
  rw[this];exact(jf.fP (jf.dJ λ_ _=>jf.fP (jf.fP (jf.dJ λ_ _=>jf.some))):jf h1 h2 (fP (Nat.blt b k) (dJ (h1.get a) λc=>fP (Nat.beq c.sz g.size)<|fP (Nat.beq c.ep d) (dJ (f6 (Nat.add l b)) λi=>some (kW.val (.ptr a d i 0) h1)))) _) o n q
 |_=>exact jf.none
def CT{f:Nat}{g:Ty}{b:T}{d:Nat}(hl:∀a,dL b=some a->a<h1.size->h2.get a=h1.get a):jf h1 h2 (oc h1 f g b d) (oc h2 f g b d):=by
 unfold oc;refine jf.fP ?_;cases b<;>first
  |exact jf.none
  |exact jf.dJ λ_ _=>jf.some
  |skip
 rename_i a k m n;simp only;cases c:h1.get a with
 |none=>intro o l i;simp at i
 |some j=>
  rw[hl a rfl (H.ej c),c];simp only[dO];exact jf.bool (jf.dJ λ_ _=>jf.some) (jf.fP (jf.dJ λ_ _=>jf.some))
def IE{b:T}{f:List T}(hl:∀a,dL b=some a->a<h1.size->h2.get a=h1.get a)(c:h1.jc b=some f):h2.jc b=some f:=by
 cases b with
 |arr a j m l k=>
  have d:=c;unfold H.jc at d|-;simp only at d|-;obtain⟨i,g,_⟩:=dA.1 d;rw[hl a rfl (H.ej g)];exact c
 |_=>exact c
def A8{g:U}{f:T}(hl:∀b,dL f=some b->b<h1.size->h2.get b=h1.get b)(a:jg cx h1 g f=true):jg cx h2 g f=true:=by
 cases g with
 |slice e=>
  unfold jg at a|-;simp only at a|-;cases d:cx.ty e with
  |none=>rw[d]at a;exact a
  |some k=>
   rw[d]at a;cases f with
   |arr b j q o l=>
    simp only at a|-;cases c:h1.get b with
    |none=>rw[c]at a;simp at a
    |some i=>rw[hl b rfl (H.ej c),c];rw[c]at a;exact a
   |_=>exact a
 |array p e=>
  unfold jg at a|-;simp only at a|-;cases d:cx.ty e with
  |none=>rw[d]at a;exact a
  |some k=>
   rw[d]at a;cases f with
   |ptr b j m n=>
    simp only at a|-;cases c:h1.get b with
    |none=>rw[c]at a;simp at a
    |some i=>rw[hl b rfl (H.ej c),c];rw[c]at a;exact a
   |_=>exact a
 |_=>exact a
def Gb{k:Op}(A:hU k=false)(hl:∀f,fU cx mask e h1 k=some f->f<h1.size->h2.get f=h1.get f){c:T}{g:H}(b:iW k cx mask e h1=some (.val c g)):
 (g=h1/\iW k cx mask e h2=some (.val c h2))\/
 (∃m a,KA m/\fU cx mask e h1 k=some h1.size/\c=m h1.size/\g=h1.cons a/\iW k cx mask e h2=some (.val (m h2.size) (h2.cons a))):=by
 have F:Mk h1 h2 (iW k cx mask e h1) (iW k cx mask e h2)->fU cx mask e h1 k=some h1.size->(g=h1/\iW k cx mask e h2=some (.val c h2))\/
  (∃m a,KA m/\fU cx mask e h1 k=some h1.size/\c=m h1.size/\g=h1.cons a/\iW k cx mask e h2=some (.val (m h2.size) (h2.cons a))):=λV x=>by
  obtain⟨m,a,L,M,aX,a6⟩:=V c g b;exact Or.inr ⟨m,a,L,x,M,aX,a6⟩
 by_cases S:∃w,k= .call w
 ·obtain⟨w,rfl⟩:=S;left;have:jf h1 h2 (iW (.call w) cx mask e h1) (iW (.call w) cx mask e h2):=by
   simp only[iW,BW];refine jf.dJ λQ _=> ?_;cases R:w.callee with
   |invoke a V=>exact jf.none
   |value m=>simp[hU,R]at A
   |builtin f=>
    cases f<;>simp[hU,R]at A<;>simp only[kN]
    case len=>
     match Q with
     | []=>exact jf.none
     | [a]=>
      simp only[LV];refine jf.dJ λ_ _=>jf.dJ λj _=> ?_;cases j.u<;>first
       |exact jf.none
       |exact jf.val
       |(cases a<;>first|exact jf.none|exact jf.val)
     |_::_::_=>exact jf.none
    all_goals
     match Q with
     | []=>exact jf.none
     | [a]=>exact jf.none
     | [a,P]=>exact jf.val
     |_::_::_::_=>exact jf.none
  exact this c g b
 cases k with
 |alloc d=>exact F Od rfl
 |box d a=>exact F Uu rfl
 |buildSlice d n N=>exact F CN rfl
 |makeSlice d l w=>exact F EG rfl
 |range=>simp[hU]at A
 |entry=>simp[hU]at A
 |store=>simp[hU]at A
 |next=>simp[hU]at A
 |load d i=>
  left;have b:(dJ (cx.ty d) λj=>dJ (fy cx mask e i) λi=>val h1 (h1.load j i))=some (.val c g):=b;replace b:=dA.1 b;obtain⟨j,J,b⟩:=b;replace b:=dA.1 b;obtain⟨q,t,b⟩:=b;obtain⟨B,rfl⟩:=fH.1 b;refine⟨rfl,?_⟩;show(dJ (cx.ty d) λj=>dJ (fy cx mask e i) λi=>val h2 (h2.load j i))=some (.val c h2);rw[J,t];exact fH.2 ⟨Lu (λf x z=>hl f (by show dJ (fy cx mask e i) dL=some f;rw[t];exact x) z) B,rfl⟩
 |indexAddr d a E=>
  left;have U:∀q,fy cx mask e a=some q->∀f,dL q=some f->f<h1.size->h2.get f=h1.get f:=λq t f x z=>
   hl f (by show dJ (fy cx mask e a) dL=some f;rw[t];exact x) z
  have:jf h1 h2 (iW (.indexAddr d a E) cx mask e h1) (iW (.indexAddr d a E) cx mask e h2):=by
   simp only[iW,oK];refine jf.dJ λj _=>jf.dJ λq t=>jf.dJ λ_ _=>jf.dJ λK _=> ?_;cases j.u<;>first
    |exact jf.none
    |exact jf.dJ λO _=>CS (U q t)
    |exact jf.dJ λO _=>CT (U q t)
  exact this c g b
 |slice d a v o p=>
  left;have b:(dJ (cx.ty d) λj=>dJ (fy cx mask e a) λa=>fP (jg cx h1 j.u a)<|dJ (jx cx mask e v) λv=>dJ (jx cx mask e o) λo=>dJ (jx cx mask e p) λp=>
   fP (yX o p) (val h1 (oy (asSlice j.u a) v o p)))=some (.val c g):=b
  replace b:=dA.1 b;obtain⟨j,J,b⟩:=b;replace b:=dA.1 b;obtain⟨q,t,b⟩:=b;obtain⟨Y,b⟩:=dI.1 b;have Z:jg cx h2 j.u q=true:=A8 (λf x z=>hl f (by show dJ (fy cx mask e a) dL=some f;rw[t];exact x) z) Y;have:jf h1 h2 (dJ (jx cx mask e v) λv=>dJ (jx cx mask e o) λo=>dJ (jx cx mask e p) λp=>fP (yX o p) (val h1 (oy (asSlice j.u q) v o p)))
   (dJ (jx cx mask e v) λv=>dJ (jx cx mask e o) λo=>dJ (jx cx mask e p) λp=>fP (yX o p) (val h2 (oy (asSlice j.u q) v o p))):=
   jf.dJ λ_ _=>jf.dJ λ_ _=>jf.dJ λ_ _=>jf.fP jf.val
  obtain⟨L,M⟩:=this c g b;refine⟨L,?_⟩;show(dJ (cx.ty d) λj=>dJ (fy cx mask e a) λa=>fP (jg cx h2 j.u a)<|dJ (jx cx mask e v) λv=>dJ (jx cx mask e o) λo=>dJ (jx cx mask e p) λp=>
   fP (yX o p) (val h2 (oy (asSlice j.u a) v o p)))=some (.val c h2)
  rw[J,t];simp only[dO,Z,gX];exact M
 |binOp k d a P D=>
  left;have:jf h1 h2 (iW (.binOp k d a P D) cx mask e h1) (iW (.binOp k d a P D) cx mask e h2):=by
   cases k<;>simp only[iW,UJ,LE]<;>first
    |exact jf.dJ λ_ _=>jf.dJ λ_ _=>jf.dJ λ_ _=>jf.fP (jf.dJ λ_ _=>jf.val)
    |exact jf.dJ λ_ _=>jf.dJ λ_ _=>jf.val
  exact this c g b
 |move a=>left;exact(show jf h1 h2 (iW (.move a) cx mask e h1) (iW (.move a) cx mask e h2)from jf.val) c g b
 |assign a=>left;exact(show jf h1 h2 (iW (.assign a) cx mask e h1) (iW (.assign a) cx mask e h2)from jf.val) c g b
 |pick w i f=>
  left;have:jf h1 h2 (iW (.pick w i f) cx mask e h1) (iW (.pick w i f) cx mask e h2):=by
   simp only[iW,D4];refine jf.dJ λc _=> ?_;cases c<;>first|exact jf.none|exact jf.bool jf.val jf.val
  exact this c g b
 |build d N=>
  left;have:jf h1 h2 (iW (.build d N) cx mask e h1) (iW (.build d N) cx mask e h2):=by
   simp only[iW,zj];refine jf.dJ λj _=>jf.dJ λ_ _=> ?_;cases j.u<;>first|exact jf.none|exact jf.dJ λ_ _=>jf.val|exact jf.dJ λ_ _=>jf.dJ λ_ _=>jf.val
  exact this c g b
 |nilCheck a=>
  left;have:jf h1 h2 (iW (.nilCheck a) cx mask e h1) (iW (.nilCheck a) cx mask e h2):=by
   simp only[iW,qv];refine jf.dJ λc _=> ?_;cases c<;>first|exact jf.none|exact jf.some
  exact this c g b
 |unOp k d a=>left;exact(show jf h1 h2 (iW (.unOp k d a) cx mask e h1) (iW (.unOp k d a) cx mask e h2)from jf.dJ λ_ _=>jf.val) c g b
 |convert C y a=>
  left;have b:(dJ (cx.ty C) λ_=>dJ (fy cx mask e a) λi=>dJ (cx.ty y) λG=>match G.u with
   | .slice _=>val h1 (Co cx y i)
   | .str=>(match i with
    | .str _=>val h1 (conv cx y i)
    |_=>val h1 (FP cx h1 C i))
   |_=>val h1 (conv cx y i))=some (.val c g):=b
  show g=h1/\(dJ (cx.ty C) λ_=>dJ (fy cx mask e a) λi=>dJ (cx.ty y) λG=>match G.u with
   | .slice _=>val h2 (Co cx y i)
   | .str=>(match i with
    | .str _=>val h2 (conv cx y i)
    |_=>val h2 (FP cx h2 C i))
   |_=>val h2 (conv cx y i))=some (.val c h2)
  obtain⟨bi,av,b⟩:=dA.1 b;obtain⟨q,t,b⟩:=dA.1 b;obtain⟨a7,an,b⟩:=dA.1 b;rw[av,t,an];simp only[dO];have ae:∀{D:T},FP cx h1 C q=some D->FP cx h2 C q=some D:=by
   intro D s;unfold FP at s|-;obtain⟨t2,al,s⟩:=dA.1 s;rw[al];simp only[dO];cases aE:t2.u<;>rw[aE]at s<;>simp only[reduceCtorEq]at s|-;obtain⟨O,ap,s⟩:=dA.1 s;rw[ap];simp only[dO];cases aN:O.u<;>rw[aN]at s<;>simp only[reduceCtorEq]at s|-;obtain⟨W,s⟩:=dI.1 s;rw[W,gX];obtain⟨a8,X,s⟩:=dA.1 s;rw[IE (λf x z=>hl f (by show dJ (fy cx mask e a) dL=some f;rw[t];exact x) z) X];exact s
  cases aA:a7.u<;>rw[aA]at b<;>simp only at b|-
  case str=>
   cases q<;>simp only at b|- <;>(obtain⟨B,rfl⟩:=fH.1 b)<;>first
    |exact⟨rfl,fH.2 ⟨ae B,rfl⟩⟩
    |exact⟨rfl,fH.2 ⟨B,rfl⟩⟩
  all_goals
   obtain⟨B,rfl⟩:=fH.1 b;exact⟨rfl,fH.2 ⟨B,rfl⟩⟩
 |lookup=>exact .inl ((jf.none:jf h1 h2 _ _) c g b)
 |makeMap d r=>exact F Iw rfl
 |mapUpdate=>simp[hU]at A
 |makeInterface d a=>
  left;have:jf h1 h2 (iW (.makeInterface d a) cx mask e h1) (iW (.makeInterface d a) cx mask e h2):=by
   simp only[iW,zg];refine jf.dJ λj _=> ?_;cases j.u<;>first|exact jf.none|exact jf.dJ λ_ _=>jf.fP jf.val
  exact this c g b
 |makeFunc I i f=>
  left;have:jf h1 h2 (iW (.makeFunc I i f) cx mask e h1) (iW (.makeFunc I i f) cx mask e h2):=by
   simp only[iW,BU];cases I<;>first
    |exact jf.none
    |(cases i.toList<;>first|exact jf.none|exact jf.dJ λ_ _=>jf.val)
  exact this c g b
 |fieldAddr d a m=>
  left;have:jf h1 h2 (iW (.fieldAddr d a m) cx mask e h1) (iW (.fieldAddr d a m) cx mask e h2):=by
   simp only[iW,oL];refine jf.dJ λ_ _=>jf.dJ λc _=> ?_;cases c<;>first|exact jf.none|exact jf.dJ λ_ _=>jf.some
  exact this c g b
 |field d a m=>
  left;have:jf h1 h2 (iW (.field d a m) cx mask e h1) (iW (.field d a m) cx mask e h2):=by
   simp only[iW,zi];refine jf.dJ λ_ _=>jf.dJ λ_ _=>jf.dJ λc _=> ?_;cases c<;>first|exact jf.none|exact jf.dJ λ_ _=>jf.val
  exact this c g b
 |index d a E=>
  left;have:jf h1 h2 (iW (.index d a E) cx mask e h1) (iW (.index d a E) cx mask e h2):=by
   simp only[iW,zf];refine jf.dJ λj _=>jf.dJ λc _=>jf.dJ λ_ _=>jf.dJ λ_ _=> ?_;cases j.u<;>first
    |exact jf.none
    |(cases c<;>first|exact jf.none|exact jf.dJ λ_ _=>jf.val|exact jf.dJ λ_ _=>jf.fP (jf.dJ λ_ _=>jf.val))
  exact this c g b
 |extract a K=>
  left;have:jf h1 h2 (iW (.extract a K) cx mask e h1) (iW (.extract a K) cx mask e h2):=by
   simp only[iW,tH];refine jf.dJ λc _=> ?_;cases c<;>first|exact jf.none|exact jf.val
  exact this c g b
 |_=>first|exact(S ⟨_,rfl⟩).elim|exact absurd b (by simp[iW])
end
end
noncomputable section
def Hu{c:List Nat}{b:List Edge}{e:Nat}(h:(v8 c b).testBit e=true):
 ∃a∈b,Region.binds .any a=true/\(e=a.on\/(c.getD a.on 0).testBit e=true):=by
 induction b with
 |nil=>simp[v8]at h
 |cons a b j=>
  have h:(@Bool.rec (λ_=>Nat) (v8 c b) ((v8 c b)|||((1<<<a.on)|||(c.getD a.on 0))) (Region.binds .any a)).testBit e=true:=h;cases d:Region.binds .any a with
  |false=>
   rw[d]at h;obtain⟨f,g,i⟩:=j h;exact⟨f,by simp[g],i⟩
  |true=>
   rw[d]at h;simp only[Nat.testBit_or,bP]at h;rcases h with h|h|h
   ·obtain⟨f,g,i⟩:=j h;exact⟨f,by simp[g],i⟩
   ·refine⟨a,dp,d,.inl ?_⟩;rw[Nat.one_shiftLeft,Nat.testBit_two_pow]at h;exact(of_decide_eq_true h).symm
   ·exact⟨a,dp,d,.inr h⟩
structure Cl(ops:af Oper)(listed:af Bool):Prop where
 size:listed.size=ops.size
 closed:∀j oj,ops[j]? =some oj->listed.getD j false=true->∀e∈oj.after,Region.binds .any e=true->listed.getD e.on false=true
def RF{ops:af Oper}{g:af Bool}(q:Cl ops g):∀(k:List Oper) (d:List Nat),(∀n:Nat,k[n]? =ops[d.length+n]?)->
 (∀(b c:Nat),d[b]? =some c->∀f,c.testBit f=true->∀i,ops[b]? =some i->(∀a∈i.after,Region.binds .any a=true->g.getD a.on false=true)->g.getD f false=true)->
 ∀(b c:Nat),(Jg k d)[b]? =some c->∀f,c.testBit f=true->∀i,ops[b]? =some i->(∀a∈i.after,Region.binds .any a=true->g.getD a.on false=true)->g.getD f false=true:=by
 intro k;induction k with
 |nil=>intro d _ l b c e;exact l b c e
 |cons i k B=>
  intro d hl l;refine B (d++[v8 d i.after.toList]) (λn=> ?_) ?_
  ·have:=hl (n+1);simp only[da]at this;rw[this];congr 1;simp;omega
  ·intro b c e f u C m s;by_cases v:b<d.length
   ·rw[co v]at e;exact l b c e f u C m s
   ·rw[cu dj]at e;have z:b=d.length:=by
     rcases Nat.eq_or_lt_of_le (Nat.le_of_not_lt v)with h|h
     ·exact h.symm
     ·rw[aK dq]at e;simp at e
    subst z;simp at e;subst e;have r:=hl 0;simp at r;rw[<-r]at m;simp at m;subst m;obtain⟨a,x,w,j⟩:=Hu u;have o:=s a (by simpa using x) w;rcases j with rfl|j
    ·exact o
    ·have y:a.on<g.size:=by
      rcases aD a.on g.size with h|h
      ·exact h
      ·simp[cO h]at o
     have A:a.on<ops.size:=by rw[<-q.size];exact y
     have t:ops[a.on]? =some ops[a.on]:=by simp[A]
     cases p:d[a.on]? with
     |none=>rw[List.getD_eq_getElem?_getD,p]at j;simp at j
     |some c=>
      rw[List.getD_eq_getElem?_getD,p]at j;exact l a.on c p f j ops[a.on] t (q.closed a.on _ t o)
def Br{ops:af Oper}{e:af Bool}(i:Cl ops e){d b:Nat}{f:Oper}(a:ju ops d b=true)(l:ops[b]? =some f)
 (j:∀g∈f.after,Region.binds .any g=true->e.getD g.on false=true):e.getD d false=true:=by
 unfold ju at a;rw[List.getD_eq_getElem?_getD]at a;cases c:(Jg ops.toList [])[b]? with
 |none=>rw[c]at a;simp at a
 |some h=>
  rw[c]at a;exact RF i ops.toList [] (λn=>by simp) (λm h k=>by simp at k) b h c d a f l j
def nZ:Op->Bool
 | .store .. =>true
 |_=>false
def oe(ops:af Oper):Bool:=
 let e:=Jg ops.toList []
 let d:=ops.toList.zipIdx
 d.all λa=>(a.1.after.toList.all λc=> !Region.binds .any c||Nat.blt c.on a.2)&&
  d.all λb=> !Nat.blt b.2 a.2||(b.1.apart ops a.1&&(!(hU b.1.op&&hU a.1.op)||(nZ b.1.op&&nZ a.1.op)))||(e.getD a.2 0).testBit b.2
def mem_zipIdx{ops:af Oper}{a:Nat}{b:Oper}(c:ops[a]? =some b):(b,a)∈ops.toList.zipIdx:=by
 rw[List.mem_iff_getElem?];exact⟨a,by simp[c]⟩
def I1{ops:af Oper}(f:oe ops=true){b:Nat}{c:Oper}(i:ops[b]? =some c):∀a∈c.after,Region.binds .any a=true->a.on<b:=by
 intro a h g;unfold oe at f;have d:=List.all_eq_true.1 f (c,b) (mem_zipIdx i);simp only[aB]at d;have e:=List.all_eq_true.1 d.1 a (by simpa using h);simp only[g,cG,Bool.false_or,aG]at e;exact e
def He{ops:af Oper}(h:oe ops=true){c d:Nat}{e f:Oper}(j:ops[c]? =some e)(l:ops[d]? =some f)(k:c<d):
 (e.apart ops f=true/\(hU e.op=true->hU f.op=true->nZ e.op=true/\nZ f.op=true))\/ju ops c d=true:=by
 unfold oe at h;have g:=List.all_eq_true.1 h (f,d) (mem_zipIdx l);simp only[aB]at g;have b:=List.all_eq_true.1 g.2 (e,c) (mem_zipIdx j);have i:Nat.blt c d=true:=by rw[aG];exact k
 simp only[i,cG,Bool.false_or,bP,aB,bL,Bool.and_eq_false_iff]at b;rcases b with⟨b,a⟩|b
 ·left;refine⟨b,λm n=> ?_⟩;rcases a with(a|a)|a
  ·rw[m]at a;simp at a
  ·rw[n]at a;simp at a
  ·exact a
 ·right;exact b
section
variable {cx:Ctx}{cf:iG}{mask:Nat}{ops:af Oper}
def oq(mask:Nat)(ops:af Oper)(c:Nat->Env)(b:Nat):Prop:=∃a,ops[b]? =some a/\hU a.op=true/\j3 ops mask (c b) a.guard=some true
def wJ(cx:Ctx)(mask:Nat)(ops:af Oper)(c:Nat->Env)(d:Nat->H)(a e:Nat):Prop:=
 ∃b,ops[a]? =some b/\hU b.op=false/\j3 ops mask (c a) b.guard=some true/\fU cx mask (c a) (d a) b.op=some e
def Tt(cx:Ctx)(mask:Nat)(ops:af Oper)(c:Nat->Env)(a e:Nat):Prop:=
 ∃b f d g,ops[a]? =some b/\b.op= .store f d g/\j3 ops mask (c a) b.guard=some true/\dJ (fy cx mask (c a) d) dL=some e
structure Trace(cx:Ctx)(cf:iG)(mask:Nat)(ops:af Oper)(E:Nat->Env)(Hs:Nat->H):Prop where
 step:∀k o,ops[k]? =some o->kQ cx cf mask ops (E k) (Hs k) o=some (E (k+1),Hs (k+1))
 ahead:∀k k' b,wJ cx mask ops E Hs k b->oq mask ops E k'->k<k'->ew (Hs k') (Hs (k'+1)) b=true\/ju ops k k'=true
 behind:∀k k' b,wJ cx mask ops E Hs k b->oq mask ops E k'->k'<k->ew (Hs k') (Hs (k'+1)) b=true\/ju ops k' k=true
 both:∀k k' b,Tt cx mask ops E k b->oq mask ops E k'->k'<k->ew (Hs k') (Hs (k'+1)) b=true\/ju ops k' k=true
def xl{a b:Bool}(c: @Bool.rec (λ_=>Bool) b true a=true):a=true\/b=true:=by cases a<;>simp_all
def xD{e:Oper}{k:List Oper}{d:Nat}{c:Seen}{g n:Env}{a o:H}(b:jJ cx cf mask ops (e::k) d c g a=some (n,o)):
 ∃h f j,kQ cx cf mask ops g a e=some (h,f)/\j3 ops mask g e.guard=some j/\
  ∃m,jJ cx cf mask ops k (d+1) m h f=some (n,o)/\(∀l∈c.lL,l∈m.lL)/\(∀l∈c.kz,l∈m.kz)/\
   (j=true->hU e.op=true->wA ops d a f c.lL=true/\(d,a,f)∈m.kz/\pY cx mask ops d g c.kz e.op=true)/\
   (j=true->hU e.op=false->∀i,fU cx mask g a e.op=some i->nC ops d i c.kz=true/\(d,i)∈m.lL):=by
 have b:(dJ (kQ cx cf mask ops g a e) λl=>two l λh f=>
  dJ (j3 ops mask g e.guard) λj=> @Bool.rec (λ_=>aa (Env×H)) (jJ cx cf mask ops k (d+1) c h f)
   (@Bool.rec (λ_=>aa (Env×H))
     (@Option.rec Nat (λ_=>aa (Env×H)) (jJ cx cf mask ops k (d+1) c h f)
       (λi=>fP (nC ops d i c.kz) (jJ cx cf mask ops k (d+1) ⟨(d,i)::c.lL,c.kz⟩ h f)) (fU cx mask g a e.op))
     (fP (wA ops d a f c.lL) (fP (pY cx mask ops d g c.kz e.op) (jJ cx cf mask ops k (d+1) ⟨c.lL,(d,a,f)::c.kz⟩ h f))) (hU e.op)) j)=some (n,o):=b
 replace b:=dA.1 b;obtain⟨⟨h,f⟩,t,b⟩:=b;simp only[j9]at b;replace b:=dA.1 b;obtain⟨j,u,b⟩:=b;refine⟨h,f,j,t,u,?_⟩;cases j with
 |false=>exact⟨c,b,λ_ a=>a,λ_ a=>a,λa=>by simp at a,λa=>by simp at a⟩
 |true=>
  cases r:hU e.op with
  |true=>
   rw[r]at b;obtain⟨p,b⟩:=dI.1 b;obtain⟨s,b⟩:=dI.1 b;exact⟨_,b,λ_ a=>a,λ_ a=>by simp[a],λ_ _=>⟨p,dp,s⟩,λ_ a=>by simp at a⟩
  |false=>
   rw[r]at b;cases q:fU cx mask g a e.op with
   |none=>
    rw[q]at b;exact⟨c,b,λ_ a=>a,λ_ a=>a,λ_ a=>by simp at a,λ_ _ i a=>by simp at a⟩
   |some i=>
    rw[q]at b;obtain⟨p,b⟩:=dI.1 b;exact⟨_,b,λ_ a=>by simp[a],λ_ a=>a,λ_ a=>by simp at a,λ_ _ v a=>by simp only[ar]at a;subst a;exact⟨p,dp⟩⟩
def CH:∀(C:List Oper) (c:Nat) (u:Seen) (w D:Env) (q E:H),(∀M,C[M]? =ops[c+M]?)->jJ cx cf mask ops C c u w q=some (D,E)->
 ∃(i:Nat->Env) (j:Nat->H),i c=w/\j c=q/\i (c+C.length)=D/\j (c+C.length)=E/\
  (∀a h,c<=a->ops[a]? =some h->kQ cx cf mask ops (i a) (j a) h=some (i (a+1),j (a+1)))/\
  (∀a b,c<=a->wJ cx mask ops i j a b->∀g∈u.kz,ew g.2.1 g.2.2 b=true\/ju ops g.1 a=true)/\
  (∀a,c<=a->oq mask ops i a->∀g∈u.lL,ew (j a) (j (a+1)) g.2=true\/ju ops g.1 a=true)/\
  (∀a d b,c<=a->wJ cx mask ops i j a b->oq mask ops i d->a<d->ew (j d) (j (d+1)) b=true\/ju ops a d=true)/\
  (∀a d b,c<=d->wJ cx mask ops i j a b->oq mask ops i d->d<a->ew (j d) (j (d+1)) b=true\/ju ops d a=true)/\
  (∀a b,c<=a->Tt cx mask ops i a b->∀g∈u.kz,ew g.2.1 g.2.2 b=true\/ju ops g.1 a=true)/\
  (∀a d b,c<=d->Tt cx mask ops i a b->oq mask ops i d->d<a->ew (j d) (j (d+1)) b=true\/ju ops d a=true):=by
 intro C;induction C with
 |nil=>
  intro c u w D q E hl I;have I:some (w,q)=some (D,E):=I;simp only[ar,ay]at I;obtain⟨rfl,rfl⟩:=I;have B:∀a h,c<=a->ops[a]? =some h->False:=λa h e m=>by
   have:=hl (a-c);rw[show c+(a-c)=a by omega,m]at this;simp at this
  refine⟨λ_=>w,λ_=>q,rfl,rfl,rfl,rfl,λa h e m=>(B a h e m).elim,?_,?_,?_,?_,?_,?_⟩
  ·rintro a b e ⟨h,m,_⟩;exact(B a h e m).elim
  ·rintro a e ⟨h,m,_⟩;exact(B a h e m).elim
  ·rintro a d b e ⟨h,m,_⟩;exact(B a h e m).elim
  ·rintro a d b e _ ⟨h,m,_⟩;exact(B d h e m).elim
  ·rintro a b e ⟨h,_,_,_,m,_⟩;exact(B a h e m).elim
  ·rintro a d b e _ ⟨h,m,_⟩;exact(B d h e m).elim
 |cons h C aN=>
  intro c u w D q E hl I;obtain⟨W,F,bu,aE,T,U,aA,ap,X,S,av⟩:=xD I;have O:ops[c]? =some h:=by have:=hl 0;simpa using this.symm
  obtain⟨i,j,aX,a7,a8,bi,bk,ae,al,bl,bn,Z,a6⟩:=aN (c+1) U W D F E (λM=>by
   have:=hl (M+1);simp only[da]at this;rw[this];congr 1;omega) aA
  let p:Nat->Env:=λa=>if a=c then w else i a
  let y:Nat->H:=λa=>if a=c then q else j a
  have hE:∀a,a≠c->p a=i a:=λa e=>by simp[p,e]
  have o:∀a,a≠c->y a=j a:=λa e=>by simp[y,e]
  have A:p c=w:=by simp[p]
  have G:y c=q:=by simp[y]
  have an:p (c+1)=W:=by rw[hE _ dj,aX]
  have N:y (c+1)=F:=by rw[o _ dj,a7]
  have J:∀a,a≠c->oq mask ops p a->oq mask ops i a:=λa e=>by unfold oq;rw[hE a e];exact id
  have P:∀a b,a≠c->wJ cx mask ops p y a b->wJ cx mask ops i j a b:=λa b e=>by unfold wJ;rw[hE a e,o a e];exact id
  have V:∀a b,a≠c->Tt cx mask ops p a b->Tt cx mask ops i a b:=λa b e=>by unfold Tt;rw[hE a e];exact id
  have bs:∀b,Tt cx mask ops p c b->nC ops c b u.kz=true:=by
   rintro b ⟨Q,M,x,v,l,t,k,L⟩;rw[O]at l;simp only[ar]at l;subst l;rw[A,T]at k;rw[A]at L;simp only[ar]at k;have:=(S k (by rw[t];rfl)).2.2;rw[t]at this;have this: @Option.rec Nat (λ_=>Bool) true (λb=>nC ops c b u.kz) (dJ (fy cx mask w x) dL)=true:=this;rw[L]at this;exact this
  have R:oq mask ops p c->wA ops c q F u.lL=true/\(c,q,F)∈U.kz:=by
   rintro⟨Q,l,t,k⟩;rw[O]at l;simp only[ar]at l;subst l;rw[A,T]at k;simp only[ar]at k;exact⟨(S k t).1,(S k t).2.1⟩
  have Y:∀b,wJ cx mask ops p y c b->nC ops c b u.kz=true/\(c,b)∈U.lL:=by
   rintro b ⟨Q,l,t,k,L⟩;rw[O]at l;simp only[ar]at l;subst l;rw[A,T]at k;rw[A,G]at L;simp only[ar]at k;exact av k t b L
  refine⟨p,y,A,G,?_,?_,?_,?_,?_,?_,?_,?_,?_⟩
  ·rw[hE _ dp,<-a8];congr 1;simp;omega
  ·rw[o _ dp,<-bi];congr 1;simp;omega
  ·intro a Q e l;by_cases f:a=c
   ·subst f;rw[O]at l;simp only[ar]at l;subst l;rw[A,G,an,N];exact aE
   ·rw[hE a f,o a f,hE (a+1) dj,o (a+1) dj];exact bk a Q dj l
  ·intro a b e n g z;by_cases f:a=c
   ·subst f;obtain⟨t,_⟩:=Y b n;exact xl (pB t g z)
   ·exact ae a b dj (P a b f n) g (X g z)
  ·intro a e r g z;by_cases f:a=c
   ·subst f;obtain⟨t,_⟩:=R r;rw[G,N];exact xl (pB t g z)
   ·rw[o a f,o (a+1) dj];exact al a dj (J a f r) g (ap g z)
  ·intro a d b e n r K;have s:d≠c:=dj;rw[o d s,o (d+1) dj];by_cases f:a=c
   ·subst f;obtain⟨_,k⟩:=Y b n;exact al d dj (J d s r) (a,b) k
   ·exact bl a d b dj (P a b f n) (J d s r) K
  ·intro a d b e n r K;have f:a≠c:=dj;by_cases s:d=c
   ·subst s;obtain⟨_,k⟩:=R r;rw[G,N];exact ae a b dj (P a b f n) (d,q,F) k
   ·rw[o d s,o (d+1) dj];exact bn a d b dj (P a b f n) (J d s r) K
  ·intro a b e n g z;by_cases f:a=c
   ·subst f;exact xl (pB (bs b n) g z)
   ·exact Z a b dj (V a b f n) g (X g z)
  ·intro a d b e n r K;have f:a≠c:=dj;by_cases s:d=c
   ·subst s;obtain⟨_,k⟩:=R r;rw[G,N];exact Z a b dj (V a b f n) (d,q,F) k
   ·rw[o d s,o (d+1) dj];exact a6 a d b dj (V a b f n) (J d s r) K
def Dq(cx:Ctx)(cf:iG)(mask:Nat)(c:Env)(a:H)(f:Op)(g:T)(e:H):Prop:=
 iW f cx mask c a=some (.val g e)\/∃d b,iW f cx mask c a=some (.call d b)/\cf d b a=some (g,e)
def mr{e b:Env}{g c:H}{f:Oper}(a:kQ cx cf mask ops e g f=some (b,c)):
 (j3 ops mask e f.guard=some false/\e.dst mask f.dst .undef=some b/\c=g)\/
 (j3 ops mask e f.guard=some true/\∃d,Dq cx cf mask e g f.op d c/\e.dst mask f.dst d=some b):=by
 replace a:=dA.1 a;obtain⟨r,p,a⟩:=a;cases r with
 |false=>
  left;have a:(dJ (e.dst mask f.dst .undef) λb=>some (b,g))=some (b,c):=a;replace a:=dA.1 a;obtain⟨m,h,a⟩:=a;simp only[ar,ay]at a;obtain⟨rfl,rfl⟩:=a;exact⟨p,h,rfl⟩
 |true=>
  right;refine⟨p,?_⟩;have a:(dJ (iW f.op cx mask e g) λk=> @kW.rec (λ_=>aa (Env×TI.H))
   (λd c=>dJ (e.dst mask f.dst d) λb=>some (b,c))
   (λj i=>dJ (cf j i g) λl=>two l λd c=>dJ (e.dst mask f.dst d) λb=>some (b,c)) k)=some (b,c):=a
  replace a:=dA.1 a;obtain⟨k,o,a⟩:=a;rcases k with⟨d,n⟩|⟨j,i⟩
  ·skip
   have a:(dJ (e.dst mask f.dst d) λb=>some (b,n))=some (b,c):=a;replace a:=dA.1 a;obtain⟨m,h,a⟩:=a;simp only[ar,ay]at a;obtain⟨rfl,rfl⟩:=a;exact⟨d,.inl o,h⟩
  ·skip
   have a:(dJ (cf j i g) λl=>two l λd c=>dJ (e.dst mask f.dst d) λb=>some (b,c))=some (b,c):=a;replace a:=dA.1 a;obtain⟨⟨d,n⟩,q,a⟩:=a;simp only[j9]at a;replace a:=dA.1 a;obtain⟨m,h,a⟩:=a;simp only[ar,ay]at a;obtain⟨rfl,rfl⟩:=a;exact⟨d,.inr ⟨j,i,o,q⟩,h⟩
def B8{P:ai}{h:Nat}{a:World}{g:Mu}{j:Env}{b c:H}{i:Act}{k:Oper}{f:T}(iH:iM P cx)(o:mR P cx cf)
 (e:St cx h a.heap g b) (l:j1 a.heap g mask j i.tmps) (u:Dq cx cf mask j b k.op f c):yv P (pQ cx h a g b f c) ((execOp i.eval k).run P a):=by
 rcases u with d|⟨p,m,d,s⟩
 ·exact((xN iH e l d).Yl).mono λv w r=>⟨r,Oc e.wf f c d⟩
 ·obtain⟨_,n,q,t⟩:=Gd (P:=P) e l d;rw[t];exact o p m b f c s h a g n e q
def Dq.congr{b e':Env}{c d:H}{a:Op}{f:T}(h:∀g∈a.operands,fy cx mask b g=fy cx mask e' g)(e:Dq cx cf mask b c a f d):Dq cx cf mask e' c a f d:=by
 unfold Dq at*
 rw[yR h]at e;exact e
def IG{b:Call}{e:Env}{g:H}{f:aj}{d:List T}(a:iW (.call b) cx mask e g=some (.call f d)):hU (.call b)=true:=by
 have a:BW b cx mask e g=some (.call f d):=a;replace a:=dA.1 a;obtain⟨j,hl,a⟩:=a;cases c:b.callee with
 |builtin h=>rw[c]at a;exact(ux a).elim
 |invoke l k=>rw[c]at a;simp at a
 |value i=>simp[hU,c]
def Ha{d:Env}{e f:H}{c:Op}{i:T}(h:hU c=false)(l:Dq cx cf mask d e c i f):iW c cx mask d e=some (.val i f):=by
 rcases l with b|⟨k,j,b,_⟩
 ·exact b
 ·by_cases g:∃a,c= .call a
  ·obtain⟨a,rfl⟩:=g;rw[IG b]at h;simp at h
  ·exact absurd b (BC (λa m=>g ⟨a,m⟩) k j)
def xH(mask:Nat)(a:Env):List Nat->fJ
 | []=> .nil
 |s::b=>match a.get mask s with
  |some c=> .cons s c (xH mask a b)
  |none=>xH mask a b
def IB{d:Env}{c:Nat}:∀(b:List Nat),dF (xH mask d b) c=if c∈b then d.get mask c else none:=by
 intro b;induction b with
 |nil=>simp[xH,dF]
 |cons e b g=>
  unfold xH;cases f:d.get mask e with
  |none=>
   simp only[g,ci];by_cases a:c=e
   ·subst a;simp[f]
   ·simp[a]
  |some h=>
   simp only[mI,g,ci];by_cases a:e=c
   ·subst a;simp[f]
   ·simp[a,bg a]
def Bj(mask:Nat)(a:Env)(b:List Nat):Env:=⟨xH mask a b,xH mask a b⟩
def xI{b:Env}{a:Nat}{c:List Nat}:(Bj mask b c).get mask a=if a∈c then b.get mask a else none:=by
 show @Bool.rec (λ_=>aa T) (dF (xH mask b c) a) (dF (xH mask b c) a) (jS mask a)=_;rw[IB];cases jS mask a<;>rfl
def yQ{a:Env}{c:Oper}{b:ah}(e:b∈c.op.operands):fy cx mask a b=fy cx mask (Bj mask a (c.looksAt ops)) b:=by
 cases b with
 |tmp d=>
  show a.get mask d=(Bj mask a (c.looksAt ops)).get mask d;rw[xI,aq];unfold Oper.looksAt;exact cU _ (List.mem_filterMap.2 ⟨.tmp d,by simpa using e,rfl⟩)
 |const f=>rfl
 |global h=>rfl
 |func g=>rfl
def HL{c:Env}{a:Oper}:j3 ops mask (Bj mask c (a.looksAt ops)) a.guard=j3 ops mask c a.guard:=by
 cases h:a.guard with
 |none=>rfl
 |some f=>
  obtain⟨d,k⟩:=f;show(dJ (dJ (dJ (lF ops.toList d) λa=>a.dst) λb=>(Bj mask c (a.looksAt ops)).get mask b) λj=>_)=(dJ (dJ (dJ (lF ops.toList d) λa=>a.dst) λb=>c.get mask b) λj=>_);cases e:(dJ (lF ops.toList d) λa=>a.dst)with
  |none=>rfl
  |some b=>
   simp only[dO];rw[xI,aq];unfold Oper.looksAt;refine dh _ ?_;replace e:=dA.1 e;obtain⟨f,g,i⟩:=e;rw[kl]at g;have:ops[d]? =some f:=by simpa using g
   simp[h,this,i]
end
end
noncomputable section
def fa.conv{E:af Obj}{B C:Mu}{b:T}{r:am}(a:fa E B b r){n:Nat}(hl:oY n b)(s:∀c e,c<n->B c=some e->C c=some e)
 (D:∀k,mN C k->mN B k):fa E C b r:=by
 induction a with
 |undef=>exact .undef
 |bool c=>exact .bool c
 |int d Q=>exact .int d Q
 |str S a=>exact .str S a
 |j4=>exact .j4
 |ptr c w k O e h j x L=>cases hl with|ptr _ _ _ _ a=>exact .ptr c w k O e h (s c e a j) x L
 |je v t off arr q fz A y i p hr g=>
  cases hl with|je _ a=>exact .je v t off arr q fz (λd=>A (D _ d)) y i p λd b f=>g d b f (a b (ax f))
 |mV m h=>exact .mV m h
 |dC I J m t off u U arr q fz A y z M N i p hr g=>
  cases hl with|dC _ _ a=>exact .dC I J m t off u U arr q fz (λd=>A (D _ d)) y z M N i p λd b f=>g d b f (a b (ax f))
 |fO h u=>exact .fO h u
 |arr c w R P m e h G j x z o=>cases hl with|arr _ _ _ _ _ a=>exact .arr c w R P m e h G (s c e a j) x z o
 |func K F l i hr g=>cases hl with|func _ _ a=>exact .func K F l i λd b f=>g d b f (a b (ax f))
 |kq=>exact .kq
 |ko=>exact .ko
 |iface q b r a g=>cases hl with|iface _ _ a=>exact .iface q b r (g a)
 |iter c e h j o=>cases hl with|iter _ a=>exact .iter c e h (s c e a j) o
 |map c e k j o=>cases hl with|map _ a=>exact .map c e k (s c e a j) o
 |m7=>exact .m7
 |agg v l i p hr g=>cases hl with|agg _ a=>exact .agg v l i p λd b f=>g d b f (a b (ax f))
 |tuple V l i hr g=>cases hl with|tuple _ a=>exact .tuple V l i λd b f=>g d b f (a b (ax f))
def pV.conv{u:af Obj}{s t:Mu}{e:Loc}{q:iJ}(i:pV u s e q){n:Nat}(hl:∀c∈eQ q.ee,oY n c)(k:∀m e,m<n->s m=some e->t m=some e)
 (j:∀l,mN t l->mN s l):pV u t e q:=by
 refine⟨i.ep,i.sz,λb=> ?_,λb=> ?_⟩
 ·have h:=i.plain b;obtain⟨x,L,a,f,d⟩:=h.row;exact⟨⟨x,L,a,f,d.1,λb c v=>(d.2 b c v).conv (hl c (ax v)) k j⟩,h.room,h.sh,h.size,h.scalar⟩
 ·obtain⟨p,a|⟨z,a,f,d⟩|⟨G,F,J,K,y,a,f,d,E⟩⟩:=i.iter b
  ·exact⟨p,.inl a⟩
  rotate_left
  ·exact⟨p,.inr (.inr ⟨G,F,J,K,y,a,f.conv (hl _ (by rw[a];simp[eQ,T.cells])) k j,d,E⟩)⟩
  ·refine⟨p,.inr (.inl ⟨z,a,f,λl r w=> ?_⟩)⟩;obtain⟨b,c,I,o,A,B,C,D⟩:=d l r w;have g:=hl r (List.mem_flatMap.2 ⟨r,ax w,by rw[o];simp[T.cells]⟩);rw[o]at g;cases g with|tuple _ g=>exact⟨b,c,I,o,A,B,C.conv (g b dp) k j,D.conv (g c dp) k j⟩
def oY.mono{n c:Nat}{d:T}(a:oY n d)(g:n<=c):oY c d:=by
 induction a with
 |ptr b e h i a=>exact .ptr _ _ _ _ dj
 |arr b e k j f a=>exact .arr _ _ _ _ _ dj
 |iter b a=>exact .iter _ dj
 |map b a=>exact .map _ dj
 |_=>constructor<;>assumption
def St.congr{cx:Ctx}{f:Nat}{i:af Obj}{e:Mu}{g d:H}(a:St cx f i e g)(m:d.eY.length=d.size)(k:∀b c,e b=some c->d.get b=g.get b):St cx f i e d:=
 ⟨m,a.fit,λb c h=>by obtain⟨o,j,l⟩:=a.box b c h;exact⟨o,by rw[k b c h];exact j,l⟩,a.inj,a.low,a.apart,a.pS,a.x6⟩
def H.get_some{a:H}(e:a.eY.length=a.size){b:Nat}(c:b<a.size):∃d,a.get b=some d:=by
 rw[H.get_eq,aq c];exact⟨a.eY[a.size-1-b]' dj,dp⟩
def tM(Hs:Nat->H)(a:Nat):Nat->Nat
 |0=>0
 |k+1=>if a<(Hs k).size then tM Hs a k else k+1
def Fh(Hs:Nat->H)(a n:Nat):tM Hs a n<=n:=by
 induction n with
 |zero=>simp[tM]
 |succ n b=>unfold tM;split<;>omega
def Vc{Hs:Nat->H}{b:Nat}{n:Nat}(e:∀a,a<n->(Hs a).size<=(Hs (a+1)).size)(c:b<(Hs n).size):b<(Hs (tM Hs b n)).size:=by
 induction n with
 |zero=>exact c
 |succ n f=>
  unfold tM;split
  ·rename_i d;exact f (λa g=>e a dj) d
  ·exact c
def Ro{Hs:Nat->H}{d:Nat}:∀{n p:Nat},p<tM Hs d n->(∀b,b<n->(Hs b).size<=(Hs (b+1)).size)->(Hs p).size<=d:=by
 intro n;induction n with
 |zero=>intro p a;simp[tM]at a
 |succ n g=>
  intro p a e;unfold tM at a;split at a
  ·exact g a λb j=>e b dj
  ·rename_i i;have:∀c,p+c=n->(Hs p).size<=(Hs n).size:=by
    intro c;induction c generalizing p with
    |zero=>intro f;rw[show p=n by omega];exact au _
    |succ c h=>
     intro f;have:=e p dj;have:=h (p:=p+1) dj dj;omega
   have:=this (n-p) dj;omega
section
variable {Hs:Nat->H}{n:Nat}
def mF(f:∀c,c<n->(Hs c).size<=(Hs (c+1)).size){b d:Nat}(e:b<=d)(j:d<=n):(Hs b).size<=(Hs d).size:=by
 obtain⟨a,rfl⟩:=Nat.exists_eq_add_of_le e;clear e;induction a with
 |zero=>exact au _
 |succ a g=>
  have h:=g dj;have i:=f (b+a) dj;have:b+(a+1)=b+a+1:=dj;rw[this];omega
def kC(c:∀a,a<n->(Hs a).size<=(Hs (a+1)).size){b a:Nat}(e:b<(Hs n).size)(g:a<=n):b<(Hs a).size↔tM Hs b n<=a:=by
 constructor
 ·intro d;rcases aD a (tM Hs b n)with h|f
  ·have:=Ro h c;omega
  ·exact f
 ·intro d;have:=Vc c e;have:=mF c d g;omega
def ly(l:∀a,a<n->(Hs a).size<=(Hs (a+1)).size){c b e:Nat}(g:b<=e)(f:∀a,b<=a->a<e->(Hs (a+1)).get c=(Hs a).get c):(Hs e).get c=(Hs b).get c:=by
 obtain⟨d,rfl⟩:=Nat.exists_eq_add_of_le g;clear g;induction d with
 |zero=>rfl
 |succ d k=>
  have i:=k λa h c=>f a h dj;have j:=f (b+d) dj dj;have:b+(d+1)=b+d+1:=dj;rw[this,j,i]
end
def PH(Hs:Nat->H)(n:Nat)(b:Nat->Nat):H:=
 ⟨(Hs n).size,0,(List.range (Hs n).size).reverse.map λa=>((Hs (max (b a) (tM Hs a n))).get a).getD default⟩
def Ei(Hs:Nat->H)(n:Nat)(a:Nat->Nat):(PH Hs n a).eY.length=(PH Hs n a).size:=by simp[PH]
def VF{Hs:Nat->H}{n a:Nat}{c:Nat->Nat}(g:∀b,b<n->(Hs b).size<=(Hs (b+1)).size)(i:∀b,b<=n->(Hs b).eY.length=(Hs b).size)(k:c a<=n)(d:a<(Hs n).size):
 (PH Hs n c).get a=(Hs (max (c a) (tM Hs a n))).get a:=by
 have e:max (c a) (tM Hs a n)<=n:=by have:=Fh Hs a n;omega
 have f:a<(Hs (max (c a) (tM Hs a n))).size:=(kC g d e).2 dj;obtain⟨l,j⟩:=H.get_some (i _ e) f;rw[H.get_eq];have h:(PH Hs n c).size=(Hs n).size:=rfl;rw[h,aq d];show((List.range (Hs n).size).reverse.map λa=>((Hs (max (c a) (tM Hs a n))).get a).getD default)[(Hs n).size-1-a]? =_;rw[aQ,List.getElem?_reverse dq];have:(List.range (Hs n).size).length-1-((Hs n).size-1-a)=a:=dq;rw[this];simp[d,j]
def rk(b:af Oper)(a:af Bool)(c:Nat):Nat->Nat
 |0=>0
 |k+1=>if a.getD k false=true/\(b[k]?).bind (·.dst)=some c then k+1 else rk b a c k
def xV{ops:af Oper}{listed:af Bool}{s:Nat}:∀(n:Nat),rk ops listed s n=0\/∃a,rk ops listed s n=a+1/\a<n/\listed.getD a false=true/\(ops[a]?).bind (·.dst)=some s:=by
 intro n;induction n with
 |zero=>left;rfl
 |succ n e=>
  unfold rk;split
  ·rename_i b;right;exact⟨n,rfl,dj,b.1,b.2⟩
  ·rcases e with b|⟨a,c,f,d⟩
   ·left;exact b
   ·right;exact⟨a,c,dj,d⟩
def Iy{ops:af Oper}{listed:af Bool}{s:Nat}:∀{n a:Nat},a<n->listed.getD a false=true->(ops[a]?).bind (·.dst)=some s->a+1<=rk ops listed s n:=by
 intro n;induction n with
 |zero=>intro a d;omega
 |succ n g=>
  intro a d b c;unfold rk;split
  ·omega
  ·rename_i e;rcases Nat.eq_or_lt_of_le (Nat.le_of_lt_succ d)with rfl|f
   ·exact absurd ⟨b,c⟩ e
   ·exact g f b c
def Uy{ops:af Oper}{listed:af Bool}{s:Nat}(n:Nat):rk ops listed s n<=n:=by
 rcases xV (ops:=ops) (listed:=listed) (s:=s) n with a|⟨d,b,c,_⟩<;>omega
def Ls{c:af Oper}{g h:af Bool}{d:Nat}:∀{n:Nat},(∀a,a<n->(c[a]?).bind (·.dst)=some d->h.getD a false=g.getD a false)->rk c h d n=rk c g d n:=by
 intro n;induction n with
 |zero=>intro _;rfl
 |succ n b=>
  intro e;have b:=b λa i=>e a dj;unfold rk;by_cases f:(c[n]?).bind (·.dst)=some d
  ·rw[e n dj f,b]
  ·simp[f,b]
end
end Go.TI
