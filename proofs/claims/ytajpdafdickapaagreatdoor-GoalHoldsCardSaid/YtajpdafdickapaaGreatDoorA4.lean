/- TiEnv -/
import Derived.Test.YtajpdafdickapaaGreatDoorA3
import Derived.Orders
set_option linter.all false
namespace Go.TI
noncomputable section
def nM(b:Nat)(d:T)(c:fZ)(a:Nat):dL (.cons b d c) a=if b=a then some d else dL c a:=by
 show @Bool.rec (λ_=>aa T) (dL c a) (some d) (Nat.beq b a)=_;cases e:Nat.beq b a with
 |true=>have:=aF e;simp[this]
 |false=>have:=cR e;simp[this]
def Ig{l e:fZ}{c:Nat}{g:T}(a:mc l c g=some e)(f:Nat):dL e f=if f=c then some g else dL l f:=by
 induction l generalizing e with
 |nil=>
  have a:some (fZ.cons c g .nil)=some e:=a;simp only[ar]at a;subst a;rw[nM];by_cases b:c=f
  ·simp[b]
  ·simp[b,bm b]
 |cons d m i o=>
  have a: @Bool.rec (λ_=>aa fZ) (dW (mc i c g) λj=>some (.cons d m j)) (some (.cons d g i)) (Nat.beq d c)=some e:=a;cases h:Nat.beq d c with
  |true=>
   rw[h]at a;have k:=aF h;have a:some (fZ.cons d g i)=some e:=a;simp only[ar]at a;subst a;rw[nM,nM,k];by_cases b:c=f
   ·simp[b]
   ·simp[b,bm b]
  |false=>
   rw[h]at a;have k:=cR h;have a:(dW (mc i c g) λj=>some (fZ.cons d m j))=some e:=a;have⟨j,ht,a⟩:=dI.1 a;simp only[ar]at a;subst a;rw[nM,nM,o ht];by_cases b:d=f
   ·have:f≠c:=λn=>k (b.trans n);simp[b,this]
   ·simp[b]
def Env.Cn{d:Nat}{m g:Env}{c:Nat}{f:T}(a:m.set d c f=some g)(b:Nat):g.get d b=if b=c then some f else m.get d b:=by
 obtain⟨l,k⟩:=m;have a: @Bool.rec (λ_=>aa Env) (some ⟨l,.cons c f k⟩) (dW (mc l c f) λj=>some ⟨j,k⟩) (kq d c)=some g:=a;have get:∀(h i:fZ),(⟨h,i⟩:Env).get d b=if kq d b=true then dL h b else dL i b:=by
  intro h i;show @Bool.rec (λ_=>aa T) (dL i b) (dL h b) (kq d b)=_;cases kq d b<;>rfl
 cases hl:kq d c with
 |false=>
  rw[hl]at a;have a:some (⟨l,.cons c f k⟩:Env)=some g:=a;simp only[ar]at a;subst a;rw[get,get,nM];by_cases e:b=c
  ·subst e;simp[hl]
  ·simp[e,bm e]
 |true=>
  rw[hl]at a;have a:(dW (mc l c f) λj=>some (⟨j,k⟩:Env))=some g:=a;have⟨j,n,a⟩:=dI.1 a;simp only[ar]at a;subst a;rw[get,get,Ig n];by_cases e:b=c
  ·subst e;simp[hl]
  ·simp[e]
theorem kz.put{k:af Obj}{m:Mu}{h:Nat}{f g:Env}{i:Act}{e:aa Tmp}{l:T}{c:am}(o:kz k m h f i.tmps)(s:fI k m l c)(q:∀b,e=some b->b<i.tmps.size)
 (a:f.dst h e l=some g):kz k m h g (i.put e c).tmps:=by
 cases e with
 |none=>
  have a:some f=some g:=a;simp only[ar]at a;subst a;exact o
 |some b=>
  have a:f.set h b l=some g:=a;intro p t d;rw[Env.Cn a]at d;have r:=q b rfl;by_cases j:p=b
  ·subst j;simp only[bF,ar]at d;subst d;simpa[Act.put,cg,r]using s
  ·simp only[j,bE]at d;have:=o p t d;simpa[Act.put,cg,Array.getElem?_setIfInBounds_ne (bm j)]using this
def Act.qB(a:Act)(b:aa Tmp)(c:am):(a.put b c).tmps.size=a.tmps.size:=by cases b<;>simp[Act.put]
def Act.qC(a:Act)(b:aa Tmp)(c:am):(a.put b c).defers=a.defers:=by cases b<;>rfl
def CD{x:af Obj}{A:Mu}{l:Nat}{j:Env}{c:Act}{g:af Oper}{i:Oper}{d:Bool}(z:kz x A l j c.tmps)(v:∀(f:Nat) (b:Oper) t,g[f]? =some b->b.dst=some t->t<c.tmps.size)
 (a:kC g l j i.guard=some d):Region.wanted i (yielded g c.tmps)=d:=by
 unfold Region.wanted;cases o:i.guard with
 |none=>
  rw[o]at a;have a:some true=some d:=a;simpa using a
 |some b=>
  obtain⟨f,n⟩:=b;rw[o]at a;have a:(dW (dW (dW (mM g.toList f) λi=>i.dst) λe=>j.get l e) λm=>
   match m with
   | .bool d=>some (@Bool.rec (λ_=>Bool) (@Bool.rec (λ_=>Bool) true false n) n d)
   |_=>some false)=some d:=a
  replace a:=dI.1 a;obtain⟨m,h,a⟩:=a;replace h:=dI.1 h;obtain⟨e,k,h⟩:=h;replace k:=dI.1 k;obtain⟨b,p,r⟩:=k;rw[kP]at p;have q:g[f]? =some b:=by simpa using p
  have w:=v f b e q r;have s:=z e m h;have y:((g[f]?).bind (·.dst)).bind (c.tmps[·]?)=some (c.tmps.getD e Go.undef):=by
   simp[q,r,cg,w]
  simp only[yielded,y];generalize c.tmps.getD e Go.undef=B at s;cases s<;>simp only[ar]at a<;>first
   |(subst a;rfl)
   |skip
  rename_i u;subst a;cases u<;>cases n<;>rfl
section
def ry(cx:Ctx)(base:Nat)(w:World)(f:Mu)(h:H)(c:T)(h':H)(b:am)(d:World):Prop:=WZ cx base w f h.size c h' b d/\lr h h'
def nY(P:ai)(cx:Ctx)(cf:je):Prop:=
 ∀f c h g h',cf f c h=some (g,h')->∀base w b (d:af am),St cx base w.heap b h->gY w.heap b c d.toList->Ay P (ry cx base w b h g h') ((callFunc f d).run P w)
def t7(cx:Ctx)(base mask m:Nat)(w0:World)(μ0:Mu)(h0:H)(e:Env)(h:H)(a:Act)(w:World):Prop:=
 ∃b,St cx base w.heap b h/\kz w.heap b mask e a.tmps/\qg w0 μ0 w b/\yS μ0 b h0.size h.size/\lr h0 h/\a.tmps.size=m/\a.defers=[]
section
variable {P:ai}{cx:Ctx}{cf:je}{base mask m:Nat}{w0 w:World}{μ0:Mu}{h0 h h':H}{e e':Env}{a:Act}{ops:af Oper}{Q:Exit->Act->World->Prop}
def Gs(m:Nat)(ops:af Oper):Prop:=∀(d:Nat) (b:Oper) c,ops[d]? =some b->b.dst=some c->c<m
def t7.after(H:t7 cx base mask m w0 μ0 h0 e h a w){d:aa Tmp}(z:∀b,d=some b->b<m){l:T}(r:e.dst mask d l=some e')
 {g:Result Next} (hr:∀base c,St cx base w.heap c h->kz w.heap c mask e a.tmps->Ay P (ry cx base w c h l h') g):Ay P (λi n=>t7 cx base mask m w0 μ0 h0 e' h' (a.put d i) n) g:=by
 obtain⟨c,b,k,x,o,p,j,A⟩:=H;refine(hr base c b k).mono λi n q=>?_;obtain⟨⟨y,s,t,f,u⟩,v⟩:=q;refine⟨y,t,?_,x.trans f,o.trans (hp:=w.heap) u f.ext,p.trans v,by rw[Act.qB];exact j,by rw[Act.qC];omega⟩;exact kz.put (k.ext f.ext) s (λb B=>by rw[j];grind) r
def Kg(jq:jg P cx)(G:nY P cx cf){n:Nat}{d:Oper}(s:ops[n]? =some d)(r:Gs m ops)(b:lJ cx cf mask ops e h d=some (e',h'))
 (H:t7 cx base mask m w0 μ0 h0 e h a w) {z:Act->World->Prop} (v:∀A o,t7 cx base mask m w0 μ0 h0 e' h' A o->z A o):wpOp P ops Q n z a w:=by
 have E:=H;obtain⟨t,c,f,V,I,K,x,W⟩:=E;unfold wpOp;simp only[s];replace b:=dI.1 b;obtain⟨U,R,b⟩:=b;have D:=CD f (λS T c N i=>by rw[x];exact r S T c N i) R;cases U with
 |false=>
  have b:(dW (e.dst mask d.dst .undef) λe'=>some (e',h))=some (e',h'):=b;replace b:=dI.1 b;obtain⟨C,l,b⟩:=b;simp only[ar,aB]at b;obtain⟨rfl,rfl⟩:=b;simp only[D,cF,bE];refine v _ _ ⟨t,c,kz.put f .undef (λc i=>by rw[x];exact r n d c s i) l,V,I,K,by rw[Act.qB];exact x,by rw[Act.qC];omega⟩
 |true=>
  simp only[D,bF];left;have b:(dW (jr d.op cx mask e h) λu=> @lQ.rec (λ_=>aa (Env×TI.H))
   (λg h'=>dW (e.dst mask d.dst g) λe'=>some (e',h'))
   (λq p=>dW (cf q p h) λf=>two f λg h'=>dW (e.dst mask d.dst g) λe'=>some (e',h')) u)=some (e',h'):=b
  replace b:=dI.1 b;obtain⟨u,y,b⟩:=b;rcases u with⟨g,j⟩|⟨q,p⟩
  ·skip
   have b:(dW (e.dst mask d.dst g) λe'=>some (e',j))=some (e',h'):=b;replace b:=dI.1 b;obtain⟨C,l,b⟩:=b;simp only[ar,aB]at b;obtain⟨rfl,rfl⟩:=b;refine Ay.wp (H.after (λc i=>r n d c s i) l (h':=j) λbase t c f=>?_) (λB o k=>v _ _ k);exact((zG jq c f y).ran).mono λB o k=>⟨k,Rr c.wf g j y⟩
  ·skip
   have b:(dW (cf q p h) λf=>two f λg h'=>dW (e.dst mask d.dst g) λe'=>some (e',h'))=some (e',h'):=b;replace b:=dI.1 b;obtain⟨⟨g,j⟩,M,b⟩:=b;simp only[kN]at b;replace b:=dI.1 b;obtain⟨C,l,b⟩:=b;simp only[ar,aB]at b;obtain⟨rfl,rfl⟩:=b;refine Ay.wp (H.after (λc i=>r n d c s i) l (h':=j) λbase t c f=>?_) (λB o k=>v _ _ k);have⟨_,F,L,O⟩:=Iz (P:=P) c f y;rw[O];exact G q p h g j M base w t F c L
def Gu(jq:jg P cx)(n:nY P cx cf)(q:Gs m ops):∀(c:List Oper) (d:Nat) (e:Env) (h:H) (a:Act) (w:World),(∀g,c[g]? =ops[d+g]?)->
 kG cx cf mask ops c e h=some (e',h')->t7 cx base mask m w0 μ0 h0 e h a w->(∀f i,t7 cx base mask m w0 μ0 h0 e' h' f i->Q .normal f i)->wpOps P ops Q (List.range' d c.length) a w:=by
 intro c;induction c with
 |nil=>
  intro d e h a w _ b H j;have b:some (e,h)=some (e',h'):=b;simp only[ar,aB]at b;obtain⟨rfl,rfl⟩:=b;exact j a w H
 |cons k c t=>
  intro d e h a w hl b H j;have b:(dW (lJ cx cf mask ops e h k) λu=>two u λe' h'=>kG cx cf mask ops c e' h')=some (e',h'):=b;replace b:=dI.1 b;obtain⟨⟨o,p⟩,s,b⟩:=b;simp only[kN]at b;simp only[aT,List.range'_succ];rw[wpOps_cons];have r:ops[d]? =some k:=by have:=hl 0;grind
  refine Kg jq n r q s H λf i l=>t (d+1) o p f i (λg=>?_) b l j;have:=hl (g+1);simp only[dh]at this;rw[this];grind
def UK(m:Nat)(ops:af Oper):Bool:=ops.toList.all λb=>match b.dst with|some c=>Nat.blt c m|none=>true
def UJ(b:UK m ops=true):Gs m ops:=by
 intro g d i f c;unfold UK at b;rw[bW]at b;have:=b d (by grind);rw[c]at this;simp_all
def mV(m:Nat)(pB:af Oper->Bool):Code->Bool
 | .region _ ops c=>UK m ops&&(!c||pB ops)
 | .seq a b=>mV m pB a&&mV m pB b
 | .cond _ a b=>mV m pB a&&mV m pB b
 | .block _ b=>mV m pB b
 | .loop b=>mV m pB b
 |_=>true
def ac6:Ex->Exit
 | .normal=> .normal
 | .exit b=> .exit b
 | .ret=> .ret
def Tj(P:ai)(cx:Ctx)(cf:je)(pB:af Oper->Bool):Prop:=
 ∀(base mask m:Nat) (w0:World) (μ0:Mu) (h0:H) (ops:af Oper) (e e':Env) (h h':H) (a:Act) (w:World) (Q:Exit->Act->World->Prop) (id:Nat),pB ops=true->Gs m ops->
  j9 cx cf mask ops ops.toList 0 ⟨[],[]⟩ e h=some (e',h')->t7 cx base mask m w0 μ0 h0 e h a w->(∀b c,t7 cx base mask m w0 μ0 h0 e' h' b c->Q .normal b c)->(Code.region id ops true).wp P Q a w
def t7.drop(H:t7 cx base mask m w0 μ0 h0 e h a w):t7 cx base mask m w0 μ0 h0 ⟨e.vars,.nil⟩ h a w:=by
 obtain⟨q,n,l,p,g,i,k,j⟩:=H;refine⟨q,n,λb d c=>l b d ?_,p,g,i,k,j⟩;obtain⟨f,o⟩:=e;have c: @Bool.rec (λ_=>aa T) (dL .nil b) (dL f b) (kq mask b)=some d:=c;show @Bool.rec (λ_=>aa T) (dL o b) (dL f b) (kq mask b)=some d;cases hl:kq mask b with
 |true=>rw[hl]at c;exact c
 |false=>rw[hl]at c;grind [dL]
def wpL(P:ai)(d:Code)(Q:Exit->Act->World->Prop)(a:Act)(w:World):Prop:=
 ∀(c:Frame) (g:List Item) (f:List Frame),∃e b i,Q e b i/\Arrives P (lone (c.at a (.code d:: .inLoop d::g)) f w) c g f e b i
def Ni{b:Code}(h:b.wp P (Exit.then (wpL P b Q) Q) a w):wpL P b Q a w:=by
 intro i k j;have⟨e,f,g,d,c⟩:=h i (.inLoop b::k) j;cases e with
 |normal=>
  have⟨n,l,q,p,o⟩:=d i k j;exact⟨n,l,q,p,.of_steps (Steps.trans c (.one step_inLoop)) o⟩
 |exit id=>exact⟨_,f,g,d,.pass (x:= .inLoop b) rfl (λ_ _=> .inl dy) c⟩
 |goto s=>exact⟨_,f,g,d,.pass (x:= .inLoop b) rfl (λ_ _=> .inl dy) c⟩
 |ret=>exact⟨_,f,g,d,.pass (x:= .inLoop b) rfl (λ_ _=> .inl dy) c⟩
 |panic r=>exact⟨_,f,g,d,.pass (x:= .inLoop b) rfl (λ_ _=> .inl dy) c⟩
 |outgrown=>exact⟨_,f,g,d,.pass (x:= .inLoop b) rfl (λ_ _=> .inl dy) c⟩
def Nh{b:Code}(h:wpL P b Q a w):(Code.loop b).wp P Q a w:=by
 intro d j f;have⟨e,c,k,i,g⟩:=h d j f;exact⟨e,c,k,i,.of_steps (.one step_loop) g⟩
def adB(P:ai)(cx:Ctx)(base mask m:Nat)(w0:World)(μ0:Mu)(h0:H)(f:Code)(g:Env->H->Out):Prop:=
 ∀e h d e' h',g e h=some (d,e',h')->∀a w Q,t7 cx base mask m w0 μ0 h0 e h a w->(∀b c,t7 cx base mask m w0 μ0 h0 e' h' b c->Q (ac6 d) b c)->f.wp P Q a w
def KX{p:Code}{j:Env->H->Out}(s:adB P cx base mask m w0 μ0 h0 p j):∀(f:Nat) (e:Env) (h:H) (c:Ex) (e':Env) (h':H),oQ j f e h=some (c,e',h')->
 ∀a w Q,t7 cx base mask m w0 μ0 h0 e h a w->(∀d g,t7 cx base mask m w0 μ0 h0 e' h' d g->Q (ac6 c) d g)->wpL P p Q a w:=by
 intro f;induction f with
 |zero=>simp[oQ]
 |succ f t=>
  intro e h c e' h' b a w Q H n;have b:(dW (j e h) λu=>three u λc e' h'=> @Ex.rec (λ_=>Out) (oQ j f e' h') (λo=>some (.exit o,e',h')) (some (.ret,e',h')) c)=some (c,e',h'):=b;replace b:=dI.1 b;obtain⟨⟨q,i,k⟩,r,b⟩:=b;refine Ni (s e h q i k r a w _ H λd g l=>?_);cases q with
  |normal=>
   have b:oQ j f i k=some (c,e',h'):=b;exact t i k c e' h' b d g Q l n
  |exit o=>
   have b:some (Ex.exit o,i,k)=some (c,e',h'):=b;simp only[ar,aB]at b;obtain⟨rfl,rfl,rfl⟩:=b;exact n d g l
  |ret=>
   have b:some (Ex.ret,i,k)=some (c,e',h'):=b;simp only[ar,aB]at b;obtain⟨rfl,rfl,rfl⟩:=b;exact n d g l
def Lt(jq:jg P cx)(I:nY P cx cf){pB:af Oper->Bool}(K:Tj P cx cf pB)(p:Nat):∀(s:Code),mV m pB s=true->adB P cx base mask m w0 μ0 h0 s (kc cx cf p mask s):=by
 intro s;induction s with
 |skip=>
  intro _ e h c e' h' b a w Q H d;have b:some (Ex.normal,e,h)=some (c,e',h'):=b;simp only[ar,aB]at b;obtain⟨rfl,rfl,rfl⟩:=b;exact wp_skip (d a w H)
 |exit id=>
  intro _ e h c e' h' b a w Q H d;have b:some (Ex.exit id,e,h)=some (c,e',h'):=b;simp only[ar,aB]at b;obtain⟨rfl,rfl,rfl⟩:=b;exact wp_exit (d a w H)
 |ret=>
  intro _ e h c e' h' b a w Q H d;have b:some (Ex.ret,e,h)=some (c,e',h'):=b;simp only[ar,aB]at b;obtain⟨rfl,rfl,rfl⟩:=b;exact wp_ret (d a w H)
 |region id ops L=>
  intro g e h c e' h' b a w Q H d;simp only[mV,ax]at g;have F:=UJ g.1;have n:=H.drop;obtain⟨D,R⟩:=e;cases L with
  |false=>
   have b:(dW (kG cx cf mask ops ops.toList ⟨D,.nil⟩ h) λo=>two o λe' h'=>some (Ex.normal,(⟨e'.vars,.nil⟩:Env),h'))=some (c,e',h'):=b;replace b:=dI.1 b;obtain⟨⟨k,j⟩,q,b⟩:=b;simp only[kN,ar,aB]at b;obtain⟨rfl,rfl,rfl⟩:=b;refine wp_region ?_;rw[List.range_eq_range'];have:=Gu (Q:=Q) jq I F ops.toList 0 ⟨D,.nil⟩ h a w (λO=>by simp) q n λf i x=>d f i x.drop;omega
  |true=>
   have b:(dW (j9 cx cf mask ops ops.toList 0 ⟨[],[]⟩ ⟨D,.nil⟩ h) λo=>two o λe' h'=>some (Ex.normal,(⟨e'.vars,.nil⟩:Env),h'))=some (c,e',h'):=b;replace b:=dI.1 b;obtain⟨⟨k,j⟩,q,b⟩:=b;simp only[kN,ar,aB]at b;obtain⟨rfl,rfl,rfl⟩:=b;exact K base mask m w0 μ0 h0 ops _ _ h j a w Q id (by grind) F q n λf i x=>d f i x.drop
 |seq r y A B=>
  intro g e h c e' h' b a w Q H d;simp only[mV,ax]at g;have b:(dW (kc cx cf p mask r e h) λo=>three o λc e' h'=> @Ex.rec (λ_=>Out) (kc cx cf p mask y e' h') (λl=>some (.exit l,e',h')) (some (.ret,e',h')) c)=some (c,e',h'):=b;replace b:=dI.1 b;obtain⟨⟨t,k,j⟩,q,b⟩:=b;refine wp_seq (A g.1 e h t k j q a w _ H λf i n=>?_);cases t with
  |normal=>exact B g.2 k j c e' h' b f i Q n d
  |exit l=>
   have b:some (Ex.exit l,k,j)=some (c,e',h'):=b;simp only[ar,aB]at b;obtain⟨rfl,rfl,rfl⟩:=b;exact d f i n
  |ret=>
   have b:some (Ex.ret,k,j)=some (c,e',h'):=b;simp only[ar,aB]at b;obtain⟨rfl,rfl,rfl⟩:=b;exact d f i n
 |cond G r y A B=>
  intro g e h c e' h' b a w Q H d;simp only[mV,ax]at g;have b:(dW (fN cx mask e G) λC=>match C with
   | .bool v=> @Bool.rec (λ_=>Out) (kc cx cf p mask y e h) (kc cx cf p mask r e h) v
   |_=>none)=some (c,e',h'):=b
  replace b:=dI.1 b;obtain⟨C,M,b⟩:=b;cases C<;>simp only[reduceCtorEq]at b;rename_i v;have E:a.eval G= .bool v:=by
   obtain⟨S,N,o,_⟩:=H;exact(ig N o M).qO
  cases v with
  |true=>exact wp_cond_true E (A g.1 e h c e' h' b a w Q H d)
  |false=>exact wp_cond_false E (B g.2 e h c e' h' b a w Q H d)
 |block id r z=>
  intro g e h c e' h' b a w Q H d;have b:(dW (kc cx cf p mask r e h) λo=>three o λc e' h'=> @Ex.rec (λ_=>Out) (some (.normal,e',h')) (λl=> @Bool.rec (λ_=>Out) (some (.exit l,e',h')) (some (.normal,e',h')) (Nat.beq l id)) (some (.ret,e',h')) c)=some (c,e',h'):=b;replace b:=dI.1 b;obtain⟨⟨t,k,j⟩,q,b⟩:=b;refine wp_block (z g e h t k j q a w _ H λf i n=>?_);cases t with
  |normal=>
   have b:some (Ex.normal,k,j)=some (c,e',h'):=b;simp only[ar,aB]at b;obtain⟨rfl,rfl,rfl⟩:=b;exact d f i n
  |exit l=>
   have b: @Bool.rec (λ_=>Out) (some (.exit l,k,j)) (some (.normal,k,j)) (Nat.beq l id)=some (c,e',h'):=b;show(if l=id then Q .normal f i else Q (.exit l) f i);cases u:Nat.beq l id with
   |true=>
    rw[u]at b;simp only[ar,aB]at b;obtain⟨rfl,rfl,rfl⟩:=b;rw[aq (aF u)];exact d f i n
   |false=>
    rw[u]at b;simp only[ar,aB]at b;obtain⟨rfl,rfl,rfl⟩:=b;rw[ao (cR u)];exact d f i n
  |ret=>
   have b:some (Ex.ret,k,j)=some (c,e',h'):=b;simp only[ar,aB]at b;obtain⟨rfl,rfl,rfl⟩:=b;exact d f i n
 |loop r z=>
  intro g e h c e' h' b a w Q H d;exact Nh (KX (z g) p e h c e' h' b a w Q H d)
 |_=>intro _ e h c e' h' b;exact absurd b (by simp[kc])
end
end
section
def nL{d g:Type}{b c:d->aa g}:∀{a:List d},(∀x∈a,b x=c x)->fQ b a=fQ c a
 | [],_=>rfl
 |x::a,h=>by
  rw[jO,jO,h x dy,nL λf i=>h f (by grind)]
section
variable {cx:Ctx}{mask:Nat}{e e':Env}{h h1 h2:H}
def BD{a:List ah}(c:∀b∈a,fN cx mask e b=fN cx mask e' b):qG cx mask e a=qG cx mask e' a:=nL c
def x6{b:List (Nat×ah)}(d:∀a∈b,fN cx mask e a.2=fN cx mask e' a.2):partsOf cx mask e b=partsOf cx mask e' b:=by
 unfold partsOf;refine nL λa c=>?_;obtain⟨f,g⟩:=a;simp only[kN];rw[d (f,g) c]
def vd{b:aa ah}(f:∀a,b=some a->fN cx mask e a=fN cx mask e' a):jX cx mask e b=jX cx mask e' b:=by
 cases b with
 |none=>rfl
 |some a=>
  show(dW (fN cx mask e a) λd=>dW (qu d) λc=>some (some c))=(dW (fN cx mask e' a) λd=>dW (qu d) λc=>some (some c));rw[f a rfl]
def AR{f:Op}(b:∀a∈f.operands,fN cx mask e a=fN cx mask e' a):jr f cx mask e h=jr f cx mask e' h:=by
 by_cases u:∃d,f= .call d
 ·obtain⟨d,rfl⟩:=u;have h1:qG cx mask e d.args.toList=qG cx mask e' d.args.toList:=BD λa v=>b a (by simp only[Op.operands,Call.operands,Array.mem_append];grind);simp only[jr,DP,h1];cases t:d.callee with
  |builtin i=>rfl
  |invoke a D=>rfl
  |value n=>
   have h2:=b n (by simp only[Op.operands,Call.operands,t];simp)
   grind
 cases f with
 |move a=>have h1:=b a (by simp[Op.operands]);simp_all[DJ,jr]
 |assign a=>have h1:=b a (by simp[Op.operands]);simp_all[DJ,jr]
 |pick d g i=>
  have h1:=b d (by simp[Op.operands]);have h2:=b g (by simp[Op.operands]);have s:=b i (by simp[Op.operands]);simp_all[F3,jr]
 |alloc c=>rfl
 |box c a=>have h1:=b a (by simp[Op.operands]);simp_all[Ox,jr]
 |build c l=>
  have h1:partsOf cx mask e l.toList=partsOf cx mask e' l.toList:=x6 λo w=>b o.2 (by simp only[Op.operands,List.mem_toArray,List.mem_map];grind);simp_all[Ba,jr]
 |buildSlice c E l=>
  have h1:partsOf cx mask e l.toList=partsOf cx mask e' l.toList:=x6 λo w=>b o.2 (by simp only[Op.operands,List.mem_toArray,List.mem_map];grind);simp_all[oS,jr]
 |load c g=>have h1:=b g (by simp[Op.operands]);simp_all[Jg,jr]
 |store c g a=>have h1:=b g (by simp[Op.operands]);have h2:=b a (by simp[Op.operands]);simp_all[DG,jr]
 |nilCheck a=>have h1:=b a (by simp[Op.operands]);simp_all[rU,jr]
 |binOp f c a z G=>
  have h1:=b a (by simp[Op.operands]);have h2:=b z (by simp[Op.operands]);cases f<;>simp only[jr,Ym,Oy,h1,h2]
 |unOp f c a=>have h1:=b a (by simp[Op.operands]);simp_all[hUn,jr]
 |convert y A a=>have h1:=b a (by simp[Op.operands]);simp_all[Ms,jr]
 |makeInterface c a=>have h1:=b a (by simp[Op.operands]);simp_all[A7,jr]
 |makeFunc B g i=>
  have h1:qG cx mask e i.toList=qG cx mask e' i.toList:=BD λa v=>b a (by simp only[Op.operands,Array.mem_append];grind);simp_all[DM,jr]
 |makeSlice c x d=>have h1:=b x (by simp[Op.operands]);have h2:=b d (by simp[Op.operands]);simp_all[pZ,jr]
 |slice c a q p r=>
  have h1:=b a (by simp[Op.operands]);have h2:jX cx mask e q=jX cx mask e' q:=vd λk j=>b k (by subst j;simp[Op.operands]);have s:jX cx mask e p=jX cx mask e' p:=vd λk j=>b k (by subst j;simp[Op.operands]);have C:jX cx mask e r=jX cx mask e' r:=vd λk j=>b k (by subst j;simp[Op.operands]);simp_all[DH,jr]
 |fieldAddr c a n=>have h1:=b a (by simp[Op.operands]);simp_all[p8,jr]
 |field c a n=>have h1:=b a (by simp[Op.operands]);simp_all[A9,jr]
 |indexAddr c a m=>have h1:=b a (by simp[Op.operands]);have h2:=b m (by simp[Op.operands]);simp_all[p7,jr]
 |index c a m=>have h1:=b a (by simp[Op.operands]);have h2:=b m (by simp[Op.operands]);simp_all[A6,jr]
 |extract a m=>have h1:=b a (by simp[Op.operands]);simp_all[uM,jr]
 |makeMap c F=>rfl
 |lookup=>rfl
 |mapUpdate=>rfl
 |range c a=>have h1:=b a (by simp[Op.operands]);simp_all[DI,z9,jr]
 |next it y=>have h1:=b it (by simp[Op.operands]);simp_all[A3,Je,jr]
 |entry=>rfl
 |_=>first|rfl|grind
def wL{c:Op}(b:∀a∈c.operands,fN cx mask e a=fN cx mask e' a):ij cx mask e h c=ij cx mask e' h c:=by
 cases c with
 |load d a=>have h1:=b a (by simp[Op.operands]);grind [ij]
 |indexAddr d a f=>have h1:=b a (by simp[Op.operands]);grind [ij]
 |slice d a j i k=>have h1:=b a (by simp[Op.operands]);grind [ij]
 |convert m g a=>have h1:=b a (by simp[Op.operands]);grind [ij]
 |lookup d a f l=>have h1:=b a (by simp[Op.operands]);grind [ij]
 |_=>rfl
def jP(h1 h2:H)(c d:aa lQ):Prop:=∀b a,c=some (.val b a)->a=h1/\d=some (.val b h2)
theorem jP.none:jP h1 h2 none none:=λ_ _ a=>by grind
theorem jP.val{a:aa T}:jP h1 h2 (val h1 a) (val h2 a):=λd c b=>by
 obtain⟨rfl,rfl⟩:=fT.1 b;exact⟨rfl,fT.2 ⟨rfl,rfl⟩⟩
def jP.some{a:T}:jP h1 h2 (some (.val a h1)) (some (.val a h2)):=λa b c=>by
 grind
theorem jP.dW{f:Type}{a:aa f}{c d:f->aa lQ}(g:∀b,a=Option.some b->jP h1 h2 (c b) (d b)):jP h1 h2 (dW a c) (dW a d):=by
 cases a with
 |none=>exact jP.none
 |some b=>simp_all
theorem jP.gX{a:Bool}{b c:aa lQ}(d:jP h1 h2 b c):jP h1 h2 (gX a b) (gX a c):=by
 cases a with
 |false=>exact jP.none
 |true=>exact d
def jP.bool{a:Bool}{b d c f:aa lQ}(g:jP h1 h2 b c)(i:jP h1 h2 d f):jP h1 h2 (Bool.casesOn a b d) (Bool.casesOn a c f):=by
 cases a<;>assumption
def Nd(b:Nat->T):Prop:=(∀a,b a= .ptr a 0 0 0)\/(∃c,∀a,b a= .arr a 0 0 c false)\/(∀a,b a= .iter a)\/(∀a,b a= .map a)
def Mk(h1 h2:H)(f g:aa lQ):Prop:=∀c b,f=some (.val c b)->∃a d,Nd a/\c=a h1.size/\b=h1.cons d/\g=some (.val (a h2.size) (h2.cons d))
theorem Mk.none:Mk h1 h2 none none:=λ_ _ a=>by grind
def Mk.new{f:Nat->T}{c:iX}(d:Nd f):Mk h1 h2 (jL (h1.new f c)) (jL (h2.new f c)):=λi g a=>by
 rw[jy,H.lz]at a;simp only[ar,aB]at a;obtain⟨rfl,rfl⟩:=a;exact⟨f,c,d,rfl,rfl,by rw[jy,H.lz]⟩
theorem Mk.dW{f:Type}{a:aa f}{c d:f->aa lQ}(g:∀b,a=Option.some b->Mk h1 h2 (c b) (d b)):Mk h1 h2 (dW a c) (dW a d):=by
 cases a with
 |none=>exact Mk.none
 |some b=>simp_all
theorem Mk.gX{a:Bool}{b c:aa lQ}(d:Mk h1 h2 b c):Mk h1 h2 (gX a b) (gX a c):=by
 cases a with
 |false=>exact Mk.none
 |true=>exact d
def Rs{a:ab}:Mk h1 h2 (jr (.alloc a) cx mask e h1) (jr (.alloc a) cx mask e h2):=by
 simp only[jr,DQ];refine Mk.dW λb _=>?_;cases xH cx b<;>exact Mk.new (.inl λ_=>rfl)
def X7{a:ab}{b:ah}:Mk h1 h2 (jr (.box a b) cx mask e h1) (jr (.box a b) cx mask e h2):=by
 simp only[jr,Ox];exact Mk.dW λc _=>Mk.gX (Mk.new (.inl λ_=>rfl))
def EG{c:ab}{b:Nat}{a:af (Nat×ah)}:Mk h1 h2 (jr (.buildSlice c b a) cx mask e h1) (jr (.buildSlice c b a) cx mask e h2):=by
 simp only[jr,oS];refine Mk.dW λd _=>?_;cases d.u<;>first
  |exact Mk.none
  |exact Mk.dW λg _=>Mk.dW λa _=>Mk.gX (Mk.gX (Mk.dW λf _=>Mk.new (.inr (.inl ⟨_,λ_=>rfl⟩))))
def GU{c:ab}{b a:ah}:Mk h1 h2 (jr (.makeSlice c b a) cx mask e h1) (jr (.makeSlice c b a) cx mask e h2):=by
 simp only[jr,pZ];refine Mk.dW λd _=>?_;cases d.u<;>first
  |exact Mk.none
  |exact Mk.dW λf _=>Mk.dW λ_ _=>Mk.dW λ_ _=>Mk.dW λ_ _=>Mk.dW λ_ _=>Mk.gX (Mk.gX (Mk.gX (Mk.gX (Mk.new (.inr (.inl ⟨_,λ_=>rfl⟩))))))
def KT{b:ab}{a:aa ah}:Mk h1 h2 (jr (.makeMap b a) cx mask e h1) (jr (.makeMap b a) cx mask e h2):=Mk.none
def Om{f:Ty}{c g:T}(hl:∀a,dS c=some a->a<h1.size->h2.get a=h1.get a)(b:h1.load f c=some g):h2.load f c=some g:=by
 cases c with
 |ptr a j k m=>
  have b:(dW (h1.elem a j k) λe=>dW (j8 m e.cells) λi=>ku f i)=some g:=b;show(dW (h2.elem a j k) λe=>dW (j8 m e.cells) λi=>ku f i)=some g;replace b:=dI.1 b;obtain⟨n,l,b⟩:=b;have o:h2.elem a j k=some n:=by
   have d:=l;unfold H.elem at d|-;replace d:=dI.1 d;obtain⟨q,p,_⟩:=d;rw[hl a rfl (H.fa p)];exact l
  rw[o];exact b
 |_=>exact b
def EL{g:Ty}{j:T}{b:Nat}(hl:∀a,dS j=some a->a<h1.size->h2.get a=h1.get a):jP h1 h2 (kK h1 g j b) (kK h2 g j b):=by
 cases j with
 |dK s m=>exact jP.dW λ_ _=>jP.gX jP.some
 |arr a d l k m=>
  intro o n f;have q:=f;have f:gX (Nat.blt b k) (dW (h1.get a) λc=>gX (Nat.beq c.sz g.size)<|gX (Nat.beq c.ep d) (dW (iq (Nat.add l b)) λi=>some (lQ.val (.ptr a d i 0) h1)))=some (.val o n):=f;have⟨_,f⟩:=dQ.1 f;have⟨j,r,_⟩:=dI.1 f;have p:=hl a rfl (H.fa r);have:kK h2 g (.arr a d l k m) b=gX (Nat.blt b k) (dW (h1.get a) λc=>gX (Nat.beq c.sz g.size)<|gX (Nat.beq c.ep d) (dW (iq (Nat.add l b)) λi=>some (lQ.val (.ptr a d i 0) h2))):=by
   rw[<-p];rfl
  rw[this];exact(jP.gX (jP.dW λ_ _=>jP.gX (jP.gX (jP.dW λ_ _=>jP.some))):jP h1 h2 (gX (Nat.blt b k) (dW (h1.get a) λc=>gX (Nat.beq c.sz g.size)<|gX (Nat.beq c.ep d) (dW (iq (Nat.add l b)) λi=>some (lQ.val (.ptr a d i 0) h1)))) _) o n q
 |_=>exact jP.none
theorem EM{f:Nat}{g:Ty}{b:T}{d:Nat}(hl:∀a,dS b=some a->a<h1.size->h2.get a=h1.get a):jP h1 h2 (pA h1 f g b d) (pA h2 f g b d):=by
 unfold pA;refine jP.gX ?_;cases b<;>first
  |exact jP.none
  |exact jP.dW λ_ _=>jP.some
  |skip
 rename_i a k m n;simp only;cases c:h1.get a with
 |none=>intro o l i;simp at i
 |some j=>
  rw[hl a rfl (H.fa c),c];simp[ed,jP.some,jP.gX,jP.bool]
def K1{b:T}{f:List T}(hl:∀a,dS b=some a->a<h1.size->h2.get a=h1.get a)(c:h1.jw b=some f):h2.jw b=some f:=by
 cases b with
 |arr a j m l k=>
  have d:=c;unfold H.jw at d|-;simp only at d|-;have⟨i,g,_⟩:=dI.1 d;rw[hl a rfl (H.fa g)];exact c
 |_=>exact c
def CO{g:U}{f:T}(hl:∀b,dS f=some b->b<h1.size->h2.get b=h1.get b)(a:jJ cx h1 g f=true):jJ cx h2 g f=true:=by
 cases g with
 |slice e=>
  unfold jJ at a|-;simp only at a|-;cases d:cx.ty e with
  |none=>rw[d]at a;exact a
  |some k=>
   rw[d]at a;cases f with
   |arr b j q o l=>
    simp only at a|-;cases c:h1.get b with
    |none=>rw[c]at a;grind
    |some i=>rw[hl b rfl (H.fa c),c];rw[c]at a;exact a
   |_=>exact a
 |array p e=>
  unfold jJ at a|-;simp only at a|-;cases d:cx.ty e with
  |none=>rw[d]at a;exact a
  |some k=>
   rw[d]at a;cases f with
   |ptr b j m n=>
    simp only at a|-;cases c:h1.get b with
    |none=>rw[c]at a;grind
    |some i=>rw[hl b rfl (H.fa c),c];rw[c]at a;exact a
   |_=>exact a
 |_=>exact a
def Iy{k:Op}(W:iG k=false)(hl:∀f,ij cx mask e h1 k=some f->f<h1.size->h2.get f=h1.get f){c:T}{g:H}(b:jr k cx mask e h1=some (.val c g)):
 (g=h1/\jr k cx mask e h2=some (.val c h2))\/
 (∃p a,Nd p/\ij cx mask e h1 k=some h1.size/\c=p h1.size/\g=h1.cons a/\jr k cx mask e h2=some (.val (p h2.size) (h2.cons a))):=by
 have E:Mk h1 h2 (jr k cx mask e h1) (jr k cx mask e h2)->ij cx mask e h1 k=some h1.size->(g=h1/\jr k cx mask e h2=some (.val c h2))\/
  (∃p a,Nd p/\ij cx mask e h1 k=some h1.size/\c=p h1.size/\g=h1.cons a/\jr k cx mask e h2=some (.val (p h2.size) (h2.cons a))):=λQ y=>by
  obtain⟨p,a,P,aN,bi,bn⟩:=Q c g b
  grind
 by_cases O:∃w,k= .call w
 ·obtain⟨w,rfl⟩:=O;left;have:jP h1 h2 (jr (.call w) cx mask e h1) (jr (.call w) cx mask e h2):=by
   simp only[jr,DP];refine jP.dW λN _=>?_;cases U:w.callee with
   |invoke a Q=>exact jP.none
   |value p=>grind [iG]
   |builtin f=>
    cases f<;>simp[iG,U]at W<;>simp only[lF]
    case len=>
     match N with
     | []=>exact jP.none
     | [a]=>
      simp only[OS];refine jP.dW λ_ _=>jP.dW λj _=>?_;cases j.u<;>first
       |exact jP.none
       |exact jP.val
       |(cases a<;>first|exact jP.none|exact jP.val)
     |_::_::_=>exact jP.none
    all_goals
     match N with
     | []=>exact jP.none
     | [a]=>exact jP.none
     | [a,M]=>exact jP.val
     |_::_::_::_=>exact jP.none
  exact this c g b
 cases k with
 |alloc d=>exact E Rs rfl
 |box d a=>exact E X7 rfl
 |buildSlice d n L=>exact E EG rfl
 |makeSlice d l w=>exact E GU rfl
 |range=>grind [iG]
 |entry=>grind [iG]
 |store=>grind [iG]
 |next=>grind [iG]
 |load d i=>
  left;have b:(dW (cx.ty d) λj=>dW (fN cx mask e i) λi=>val h1 (h1.load j i))=some (.val c g):=b;replace b:=dI.1 b;obtain⟨j,I,b⟩:=b;replace b:=dI.1 b;obtain⟨s,t,b⟩:=b;obtain⟨A,rfl⟩:=fT.1 b;refine⟨rfl,?_⟩;show(dW (cx.ty d) λj=>dW (fN cx mask e i) λi=>val h2 (h2.load j i))=some (.val c h2);rw[I,t];exact fT.2 ⟨Om (λf y z=>hl f (by show dW (fN cx mask e i) dS=some f;rw[t];exact y) z) A,rfl⟩
 |indexAddr d a D=>
  left;have aX:∀s,fN cx mask e a=some s->∀f,dS s=some f->f<h1.size->h2.get f=h1.get f:=λs t f y z=>
   hl f (by show dW (fN cx mask e a) dS=some f;rw[t];exact y) z
  have:jP h1 h2 (jr (.indexAddr d a D) cx mask e h1) (jr (.indexAddr d a D) cx mask e h2):=by
   simp only[jr,p7];refine jP.dW λj _=>jP.dW λs t=>jP.dW λ_ _=>jP.dW λK _=>?_;cases j.u<;>first
    |exact jP.none
    |exact jP.dW λR _=>EL (aX s t)
    |grind [EM,jP.dW]
  exact this c g b
 |slice d a v m o=>
  left;have b:(dW (cx.ty d) λj=>dW (fN cx mask e a) λa=>gX (jJ cx h1 j.u a)<|dW (jX cx mask e v) λv=>dW (jX cx mask e m) λm=>dW (jX cx mask e o) λo=>
   gX (AW m o) (val h1 (pT (asSlice j.u a) v m o)))=some (.val c g):=b
  replace b:=dI.1 b;obtain⟨j,I,b⟩:=b;replace b:=dI.1 b;obtain⟨s,t,b⟩:=b;obtain⟨X,b⟩:=dQ.1 b;have a8:jJ cx h2 j.u s=true:=CO (λf y z=>hl f (by show dW (fN cx mask e a) dS=some f;rw[t];exact y) z) X;have:jP h1 h2 (dW (jX cx mask e v) λv=>dW (jX cx mask e m) λm=>dW (jX cx mask e o) λo=>gX (AW m o) (val h1 (pT (asSlice j.u s) v m o)))
   (dW (jX cx mask e v) λv=>dW (jX cx mask e m) λm=>dW (jX cx mask e o) λo=>gX (AW m o) (val h2 (pT (asSlice j.u s) v m o))):=
   jP.dW λ_ _=>jP.dW λ_ _=>jP.dW λ_ _=>jP.gX jP.val
  obtain⟨P,aN⟩:=this c g b;refine⟨P,?_⟩;show(dW (cx.ty d) λj=>dW (fN cx mask e a) λa=>gX (jJ cx h2 j.u a)<|dW (jX cx mask e v) λv=>dW (jX cx mask e m) λm=>dW (jX cx mask e o) λo=>
   gX (AW m o) (val h2 (pT (asSlice j.u a) v m o)))=some (.val c h2)
  rw[I,t];simp_all
 |binOp k d a M C=>
  left;have:jP h1 h2 (jr (.binOp k d a M C) cx mask e h1) (jr (.binOp k d a M C) cx mask e h2):=by
   cases k<;>simp only[jr,Ym,Oy]<;>first
    |exact jP.dW λ_ _=>jP.dW λ_ _=>jP.dW λ_ _=>jP.gX (jP.dW λ_ _=>jP.val)
    |exact jP.dW λ_ _=>jP.dW λ_ _=>jP.val
  exact this c g b
 |move a=>left;exact(show jP h1 h2 (jr (.move a) cx mask e h1) (jr (.move a) cx mask e h2)from jP.val) c g b
 |assign a=>left;exact(show jP h1 h2 (jr (.assign a) cx mask e h1) (jr (.assign a) cx mask e h2)from jP.val) c g b
 |pick w i f=>
  left;have:jP h1 h2 (jr (.pick w i f) cx mask e h1) (jr (.pick w i f) cx mask e h2):=by
   simp only[jr,F3];refine jP.dW λc _=>?_;cases c<;>first|exact jP.none|simp[jP.val,jP.bool]
  exact this c g b
 |build d L=>
  left;have:jP h1 h2 (jr (.build d L) cx mask e h1) (jr (.build d L) cx mask e h2):=by
   simp only[jr,Ba];refine jP.dW λj _=>jP.dW λ_ _=>?_;cases j.u<;>first|exact jP.none|exact jP.dW λ_ _=>jP.val|simp[jP.val,jP.dW]
  exact this c g b
 |nilCheck a=>
  left;have:jP h1 h2 (jr (.nilCheck a) cx mask e h1) (jr (.nilCheck a) cx mask e h2):=by
   simp only[jr,rU];refine jP.dW λc _=>?_;cases c<;>first|exact jP.none|exact jP.some
  exact this c g b
 |unOp k d a=>left;exact(show jP h1 h2 (jr (.unOp k d a) cx mask e h1) (jr (.unOp k d a) cx mask e h2)from jP.dW λ_ _=>jP.val) c g b
 |convert B x a=>
  left;have b:(dW (cx.ty B) λ_=>dW (fN cx mask e a) λi=>dW (cx.ty x) λF=>match F.u with
   | .slice _=>val h1 (Eh cx x i)
   | .str=>(match i with
    | .str _=>val h1 (conv cx x i)
    |_=>val h1 (Id cx h1 B i))
   |_=>val h1 (conv cx x i))=some (.val c g):=b
  show g=h1/\(dW (cx.ty B) λ_=>dW (fN cx mask e a) λi=>dW (cx.ty x) λF=>match F.u with
   | .slice _=>val h2 (Eh cx x i)
   | .str=>(match i with
    | .str _=>val h2 (conv cx x i)
    |_=>val h2 (Id cx h2 B i))
   |_=>val h2 (conv cx x i))=some (.val c h2)
  obtain⟨bs,ap,b⟩:=dI.1 b;obtain⟨s,t,b⟩:=dI.1 b;obtain⟨a6,al,b⟩:=dI.1 b;rw[ap,t,al];simp only[ed];have Y:∀{C:T},Id cx h1 B s=some C->Id cx h2 B s=some C:=by
   intro C q;unfold Id at q|-;obtain⟨t2,ae,q⟩:=dI.1 q;rw[ae];simp only[ed];cases aA:t2.u<;>rw[aA]at q<;>simp only[reduceCtorEq]at q|-;obtain⟨R,an,q⟩:=dI.1 q;rw[an];simp only[ed];cases aE:R.u<;>rw[aE]at q<;>simp only[reduceCtorEq]at q|-;obtain⟨S,q⟩:=dQ.1 q;rw[S,iH];obtain⟨a7,V,q⟩:=dI.1 q;rw[K1 (λf y z=>hl f (by show dW (fN cx mask e a) dS=some f;rw[t];exact y) z) V];exact q
  cases av:a6.u<;>rw[av]at b<;>simp only at b|-
  case str=>
   cases s<;>simp only at b|- <;>(obtain⟨A,rfl⟩:=fT.1 b)<;>first
    |exact⟨rfl,fT.2 ⟨Y A,rfl⟩⟩
    |exact⟨rfl,fT.2 ⟨A,rfl⟩⟩
  all_goals
   obtain⟨A,rfl⟩:=fT.1 b;exact⟨rfl,fT.2 ⟨A,rfl⟩⟩
 |lookup=>exact .inl ((jP.none:jP h1 h2 _ _) c g b)
 |makeMap d r=>exact E KT rfl
 |mapUpdate=>grind [iG]
 |makeInterface d a=>
  left;have:jP h1 h2 (jr (.makeInterface d a) cx mask e h1) (jr (.makeInterface d a) cx mask e h2):=by
   simp only[jr,A7];refine jP.dW λj _=>?_;cases j.u<;>first|exact jP.none|exact jP.dW λ_ _=>jP.gX jP.val
  exact this c g b
 |makeFunc G i f=>
  left;have:jP h1 h2 (jr (.makeFunc G i f) cx mask e h1) (jr (.makeFunc G i f) cx mask e h2):=by
   simp only[jr,DM];cases G<;>first
    |exact jP.none
    |(cases i.toList<;>first|exact jP.none|simp[jP.val,jP.dW])
  exact this c g b
 |fieldAddr d a p=>
  left;have:jP h1 h2 (jr (.fieldAddr d a p) cx mask e h1) (jr (.fieldAddr d a p) cx mask e h2):=by
   simp only[jr,p8];refine jP.dW λ_ _=>jP.dW λc _=>?_;cases c<;>first|exact jP.none|exact jP.dW λ_ _=>jP.some
  exact this c g b
 |field d a p=>
  left;have:jP h1 h2 (jr (.field d a p) cx mask e h1) (jr (.field d a p) cx mask e h2):=by
   simp only[jr,A9];refine jP.dW λ_ _=>jP.dW λ_ _=>jP.dW λc _=>?_;cases c<;>first|exact jP.none|simp[jP.val,jP.dW]
  exact this c g b
 |index d a D=>
  left;have:jP h1 h2 (jr (.index d a D) cx mask e h1) (jr (.index d a D) cx mask e h2):=by
   simp only[jr,A6];refine jP.dW λj _=>jP.dW λc _=>jP.dW λ_ _=>jP.dW λ_ _=>?_;cases j.u<;>first
    |exact jP.none
    |(cases c<;>first|exact jP.none|exact jP.dW λ_ _=>jP.val|grind [jP.val,jP.dW,jP.gX])
  exact this c g b
 |extract a K=>
  left;have:jP h1 h2 (jr (.extract a K) cx mask e h1) (jr (.extract a K) cx mask e h2):=by
   simp only[jr,uM];refine jP.dW λc _=>?_;cases c<;>first|exact jP.none|exact jP.val
  exact this c g b
 |_=>first|exact(O ⟨_,rfl⟩).elim|exact absurd b (by simp[jr])
end
end
section
def JK{c:List Nat}{b:List Edge}{d:Nat}(h:(xM c b).testBit d=true):
 ∃a∈b,Region.binds .any a=true/\(d=a.on\/(c.getD a.on 0).testBit d=true):=by
 induction b with
 |nil=>grind [xM]
 |cons a b f=>
  have h:(@Bool.rec (λ_=>Nat) (xM c b) ((xM c b)|||((1<<<a.on)|||(c.getD a.on 0))) (Region.binds .any a)).testBit d=true:=h;cases e:Region.binds .any a with
  |false=>
   rw[e]at h
   grind
  |true=>
   rw[e]at h;simp only[Nat.testBit_or,bY]at h;rcases h with h|h|h
   ·grind
   ·refine⟨a,dy,e,.inl ?_⟩;rw[Nat.one_shiftLeft,Nat.testBit_two_pow]at h
    grind
   grind
structure Cl(ops:af Oper)(listed:af Bool):Prop where
 size:listed.size=ops.size
 closed:∀j oj,ops[j]? =some oj->listed.getD j false=true->∀e∈oj.after,Region.binds .any e=true->listed.getD e.on false=true
theorem Vh{ops:af Oper}{g:af Bool}(q:Cl ops g):∀(k:List Oper) (d:List Nat),(∀n:Nat,k[n]? =ops[d.length+n]?)->
 (∀(b c:Nat),d[b]? =some c->∀f,c.testBit f=true->∀i,ops[b]? =some i->(∀a∈i.after,Region.binds .any a=true->g.getD a.on false=true)->g.getD f false=true)->
 ∀(b c:Nat),(LD k d)[b]? =some c->∀f,c.testBit f=true->∀i,ops[b]? =some i->(∀a∈i.after,Region.binds .any a=true->g.getD a.on false=true)->g.getD f false=true:=by
 intro k;induction k with
 |nil=>intro d _ l b c e;exact l b c e
 |cons i k B=>
  intro d hl l;refine B (d++[xM d i.after.toList]) (λn=>?_) ?_
  ·have:=hl (n+1);simp only[dh]at this;rw[this];congr 1;simp;omega
  ·intro b c e f u C m s;by_cases v:b<d.length
   ·rw[cv v]at e;exact l b c e f u C m s
   ·rw[cY J]at e;have z:b=d.length:=by
     rcases Nat.eq_or_lt_of_le (Nat.le_of_not_lt v)with h|h
     ·exact h.symm
     ·rw[bQ dz]at e;simp at e
    subst z;simp at e;subst e;have r:=hl 0;simp at r;rw[<-r]at m;simp at m;subst m;have⟨a,x,w,j⟩:=JK u;have o:=s a (by simpa using x) w;rcases j with rfl|j
    ·exact o
    ·have y:a.on<g.size:=by
      rcases aQ a.on g.size with h|h
      ·exact h
      ·simp[Array.getElem?_eq_none h]at o
     have A:a.on<ops.size:=by rw[<-q.size];exact y
     have t:ops[a.on]? =some ops[a.on]:=by simp[A]
     cases p:d[a.on]? with
     |none=>rw[cS,p]at j;simp at j
     |some c=>
      rw[cS,p]at j;exact l a.on c p f j ops[a.on] t (q.closed a.on _ t o)
def Dg{ops:af Oper}{a:af Bool}(g:Cl ops a){d e:Nat}{f:Oper}(c:jT ops d e=true)(i:ops[e]? =some f)
 (h:∀b∈f.after,Region.binds .any b=true->a.getD b.on false=true):a.getD d false=true:=by
 unfold jT at c;rw[cS]at c
 grind [Vh,LD]
def py:Op->Bool
 | .store .. =>true
 |_=>false
def pB(ops:af Oper):Bool:=
 let e:=LD ops.toList []
 let d:=ops.toList.zipIdx
 d.all λa=>(a.1.after.toList.all λc=> !Region.binds .any c||Nat.blt c.on a.2)&&
  d.all λb=> !Nat.blt b.2 a.2||(b.1.apart ops a.1&&(!(iG b.1.op&&iG a.1.op)||(py b.1.op&&py a.1.op)))||(e.getD a.2 0).testBit b.2
def mem_zipIdx{ops:af Oper}{a:Nat}{b:Oper}(c:ops[a]? =some b):(b,a)∈ops.toList.zipIdx:=by
 rw[dg];exact⟨a,by simp[c]⟩
def Lo{ops:af Oper}(e:pB ops=true){b:Nat}{c:Oper}(f:ops[b]? =some c):∀a∈c.after,Region.binds .any a=true->a.on<b:=by
 intro a i h;unfold pB at e;have d:=List.all_eq_true.1 e (c,b) (mem_zipIdx f);simp only[ax]at d;have g:=List.all_eq_true.1 d.1 a (by grind);simp_all
def Jr{ops:af Oper}(g:pB ops=true){b c:Nat}{d e:Oper}(i:ops[b]? =some d)(j:ops[c]? =some e)(l:b<c):
 (d.apart ops e=true/\(iG d.op=true->iG e.op=true->py d.op=true/\py e.op=true))\/jT ops b c=true:=by
 unfold pB at g;have f:=List.all_eq_true.1 g (e,c) (mem_zipIdx j);simp only[ax]at f;have a:=List.all_eq_true.1 f.2 (d,b) (mem_zipIdx i);have h:Nat.blt b c=true:=by rw[aJ];omega
 simp only[h,Bool.not_true,Bool.false_or,bY,ax,bK,Bool.and_eq_false_iff]at a;rcases a with⟨a,k⟩|a
 ·grind
 ·right;exact a
section
variable {cx:Ctx}{cf:je}{mask:Nat}{ops:af Oper}
def pN(mask:Nat)(ops:af Oper)(c:Nat->Env)(b:Nat):Prop:=∃a,ops[b]? =some a/\iG a.op=true/\kC ops mask (c b) a.guard=some true
def yo(cx:Ctx)(mask:Nat)(ops:af Oper)(c:Nat->Env)(d:Nat->H)(a e:Nat):Prop:=
 ∃b,ops[a]? =some b/\iG b.op=false/\kC ops mask (c a) b.guard=some true/\ij cx mask (c a) (d a) b.op=some e
def WQ(cx:Ctx)(mask:Nat)(ops:af Oper)(c:Nat->Env)(a e:Nat):Prop:=
 ∃b f d g,ops[a]? =some b/\b.op= .store f d g/\kC ops mask (c a) b.guard=some true/\dW (fN cx mask (c a) d) dS=some e
structure Trace(cx:Ctx)(cf:je)(mask:Nat)(ops:af Oper)(E:Nat->Env)(Hs:Nat->H):Prop where
 step:∀k o,ops[k]? =some o->lJ cx cf mask ops (E k) (Hs k) o=some (E (k+1),Hs (k+1))
 ahead:∀k k' b,yo cx mask ops E Hs k b->pN mask ops E k'->k<k'->fh (Hs k') (Hs (k'+1)) b=true\/jT ops k k'=true
 behind:∀k k' b,yo cx mask ops E Hs k b->pN mask ops E k'->k'<k->fh (Hs k') (Hs (k'+1)) b=true\/jT ops k' k=true
 both:∀k k' b,WQ cx mask ops E k b->pN mask ops E k'->k'<k->fh (Hs k') (Hs (k'+1)) b=true\/jT ops k' k=true
def yN{a b:Bool}(c: @Bool.rec (λ_=>Bool) b true a=true):a=true\/b=true:=by cases a<;>simp_all
def y9{e:Oper}{k:List Oper}{c:Nat}{d:Seen}{g n:Env}{a o:H}(b:j9 cx cf mask ops (e::k) c d g a=some (n,o)):
 ∃h f j,lJ cx cf mask ops g a e=some (h,f)/\kC ops mask g e.guard=some j/\
  ∃m,j9 cx cf mask ops k (c+1) m h f=some (n,o)/\(∀l∈d.mN,l∈m.mN)/\(∀l∈d.kZ,l∈m.kZ)/\
   (j=true->iG e.op=true->yg ops c a f d.mN=true/\(c,a,f)∈m.kZ/\rI cx mask ops c g d.kZ e.op=true)/\
   (j=true->iG e.op=false->∀i,ij cx mask g a e.op=some i->oM ops c i d.kZ=true/\(c,i)∈m.mN):=by
 have b:(dW (lJ cx cf mask ops g a e) λl=>two l λh f=>
  dW (kC ops mask g e.guard) λj=> @Bool.rec (λ_=>aa (Env×H)) (j9 cx cf mask ops k (c+1) d h f)
   (@Bool.rec (λ_=>aa (Env×H))
     (@Option.rec Nat (λ_=>aa (Env×H)) (j9 cx cf mask ops k (c+1) d h f)
       (λi=>gX (oM ops c i d.kZ) (j9 cx cf mask ops k (c+1) ⟨(c,i)::d.mN,d.kZ⟩ h f)) (ij cx mask g a e.op))
     (gX (yg ops c a f d.mN) (gX (rI cx mask ops c g d.kZ e.op) (j9 cx cf mask ops k (c+1) ⟨d.mN,(c,a,f)::d.kZ⟩ h f))) (iG e.op)) j)=some (n,o):=b
 replace b:=dI.1 b;obtain⟨⟨h,f⟩,r,b⟩:=b;simp only[kN]at b;replace b:=dI.1 b;obtain⟨j,s,b⟩:=b;refine⟨h,f,j,r,s,?_⟩;cases j with
 |false=>grind
 |true=>
  cases q:iG e.op with
  |true=>
   rw[q]at b
   grind [dQ]
  |false=>
   rw[q]at b;cases p:ij cx mask g a e.op with
   |none=>
    rw[p]at b;exact⟨d,b,λ_ a=>a,λ_ a=>a,λ_ a=>by grind,λ_ _ i a=>by grind⟩
   |some i=>
    rw[p]at b
    grind [dQ,ar]
def EC:∀(C:List Oper) (c:Nat) (s:Seen) (t D:Env) (o E:H),(∀L,C[L]? =ops[c+L]?)->j9 cx cf mask ops C c s t o=some (D,E)->
 ∃(h:Nat->Env) (i:Nat->H),h c=t/\i c=o/\h (c+C.length)=D/\i (c+C.length)=E/\
  (∀a f,c<=a->ops[a]? =some f->lJ cx cf mask ops (h a) (i a) f=some (h (a+1),i (a+1)))/\
  (∀a b,c<=a->yo cx mask ops h i a b->∀g∈s.kZ,fh g.2.1 g.2.2 b=true\/jT ops g.1 a=true)/\
  (∀a,c<=a->pN mask ops h a->∀g∈s.mN,fh (i a) (i (a+1)) g.2=true\/jT ops g.1 a=true)/\
  (∀a d b,c<=a->yo cx mask ops h i a b->pN mask ops h d->a<d->fh (i d) (i (d+1)) b=true\/jT ops a d=true)/\
  (∀a d b,c<=d->yo cx mask ops h i a b->pN mask ops h d->d<a->fh (i d) (i (d+1)) b=true\/jT ops d a=true)/\
  (∀a b,c<=a->WQ cx mask ops h a b->∀g∈s.kZ,fh g.2.1 g.2.2 b=true\/jT ops g.1 a=true)/\
  (∀a d b,c<=d->WQ cx mask ops h a b->pN mask ops h d->d<a->fh (i d) (i (d+1)) b=true\/jT ops d a=true):=by
 intro C;induction C with
 |nil=>
  intro c s t D o E hl F;have F:some (t,o)=some (D,E):=F;simp only[ar,aB]at F;obtain⟨rfl,rfl⟩:=F;have A:∀a f,c<=a->ops[a]? =some f->False:=λa f e m=>by
   have:=hl (a-c);rw[show c+(a-c)=a by omega,m]at this;simp at this
  refine⟨λ_=>t,λ_=>o,rfl,rfl,rfl,rfl,λa f e m=>(A a f e m).elim,?_,?_,?_,?_,?_,?_⟩
  ·rintro a b e ⟨f,m,_⟩;exact(A a f e m).elim
  ·rintro a e ⟨f,m,_⟩;exact(A a f e m).elim
  ·rintro a d b e ⟨f,m,_⟩;exact(A a f e m).elim
  ·rintro a d b e _ ⟨f,m,_⟩;exact(A d f e m).elim
  ·rintro a b e ⟨f,_,_,_,m,_⟩;exact(A a f e m).elim
  ·rintro a d b e _ ⟨f,m,_⟩;exact(A d f e m).elim
 |cons f C aN=>
  intro c s t D o E hl F;have⟨V,G,bN,aE,T,U,aA,an,ap,R,av⟩:=y9 F;have N:ops[c]? =some f:=by have:=hl 0;simpa using this.symm
  have⟨h,i,aX,a6,a7,a8,bi,Y,ae,bn,bs,bB,bC⟩:=aN (c+1) U V D G E (λL=>by
   have:=hl (L+1);simp only[dh]at this;rw[this];congr 1;omega) aA
  let n:Nat->Env:=λa=>if a=c then t else h a
  let u:Nat->H:=λa=>if a=c then o else i a
  have hE:∀a,a≠c->n a=h a:=λa e=>by simp[n,e]
  have p:∀a,a≠c->u a=i a:=λa e=>by simp[u,e]
  have y:n c=t:=by simp[n]
  have I:u c=o:=by simp[u]
  have al:n (c+1)=V:=by rw[hE _ J,aX]
  have Q:u (c+1)=G:=by rw[p _ J,a6]
  have M:∀a,a≠c->pN mask ops n a->pN mask ops h a:=λa e=>by unfold pN;rw[hE a e];exact id
  have O:∀a b,a≠c->yo cx mask ops n u a b->yo cx mask ops h i a b:=λa b e=>by unfold yo;rw[hE a e,p a e];exact id
  have bH:∀a b,a≠c->WQ cx mask ops n a b->WQ cx mask ops h a b:=λa b e=>by unfold WQ;rw[hE a e];exact id
  have bu:∀b,WQ cx mask ops n c b->oM ops c b s.kZ=true:=by
   rintro b ⟨P,L,x,v,k,q,l,K⟩;rw[N]at k;simp only[ar]at k;subst k;rw[y,T]at l;rw[y]at K;simp only[ar]at l;have:=(R l (by rw[q];rfl)).2.2;rw[q]at this;have this: @Option.rec Nat (λ_=>Bool) true (λb=>oM ops c b s.kZ) (dW (fN cx mask t x) dS)=true:=this;rw[K]at this;exact this
  have W:pN mask ops n c->yg ops c o G s.mN=true/\(c,o,G)∈U.kZ:=by
   rintro⟨P,k,q,l⟩;rw[N]at k;simp only[ar]at k;subst k;rw[y,T]at l;simp only[ar]at l;exact⟨(R l q).1,(R l q).2.1⟩
  have X:∀b,yo cx mask ops n u c b->oM ops c b s.kZ=true/\(c,b)∈U.mN:=by
   rintro b ⟨P,k,q,l,K⟩;rw[N]at k;simp only[ar]at k;subst k;rw[y,T]at l;rw[y,I]at K;simp only[ar]at l;exact av l q b K
  refine⟨n,u,y,I,?_,?_,?_,?_,?_,?_,?_,?_,?_⟩
  ·rw[hE _ dy,<-a7];congr 1;simp;omega
  ·rw[p _ dy,<-a8];congr 1;simp;omega
  ·intro a P e k;by_cases j:a=c
   ·subst j;rw[N]at k;simp only[ar]at k;subst k;rw[y,I,al,Q];exact aE
   ·rw[hE a j,p a j,hE (a+1) J,p (a+1) J];exact bi a P J k
  ·intro a b e r g B;by_cases j:a=c
   ·subst j;have⟨q,_⟩:=X b r;exact yN (qS q g B)
   ·exact Y a b J (O a b j r) g (ap g B)
  ·intro a e w g B;by_cases j:a=c
   ·subst j;have⟨q,_⟩:=W w;rw[I,Q];exact yN (qS q g B)
   ·rw[p a j,p (a+1) J];exact ae a J (M a j w) g (an g B)
  ·intro a d b e r w S;have z:d≠c:=J;rw[p d z,p (d+1) J];by_cases j:a=c
   ·subst j;have⟨_,l⟩:=X b r;exact ae d J (M d z w) (a,b) l
   ·exact bn a d b J (O a b j r) (M d z w) S
  ·intro a d b e r w S;have j:a≠c:=J;by_cases z:d=c
   ·subst z;have⟨_,l⟩:=W w;rw[I,Q];exact Y a b J (O a b j r) (d,o,G) l
   ·rw[p d z,p (d+1) J];exact bs a d b J (O a b j r) (M d z w) S
  ·intro a b e r g B;by_cases j:a=c
   ·subst j;exact yN (qS (bu b r) g B)
   grind
  grind
def Fh(cx:Ctx)(cf:je)(mask:Nat)(c:Env)(a:H)(f:Op)(g:T)(e:H):Prop:=
 jr f cx mask c a=some (.val g e)\/∃d b,jr f cx mask c a=some (.call d b)/\cf d b a=some (g,e)
def nj{e b:Env}{g c:H}{f:Oper}(a:lJ cx cf mask ops e g f=some (b,c)):
 (kC ops mask e f.guard=some false/\e.dst mask f.dst .undef=some b/\c=g)\/
 (kC ops mask e f.guard=some true/\∃d,Fh cx cf mask e g f.op d c/\e.dst mask f.dst d=some b):=by
 replace a:=dI.1 a;obtain⟨r,q,a⟩:=a;cases r with
 |false=>
  left;have a:(dW (e.dst mask f.dst .undef) λb=>some (b,g))=some (b,c):=a;replace a:=dI.1 a;grind
 |true=>
  right;refine⟨q,?_⟩;have a:(dW (jr f.op cx mask e g) λj=> @lQ.rec (λ_=>aa (Env×TI.H))
   (λd c=>dW (e.dst mask f.dst d) λb=>some (b,c))
   (λi h=>dW (cf i h g) λl=>two l λd c=>dW (e.dst mask f.dst d) λb=>some (b,c)) j)=some (b,c):=a
  replace a:=dI.1 a;obtain⟨j,n,a⟩:=a;rcases j with⟨d,m⟩|⟨i,h⟩
  ·skip
   have a:(dW (e.dst mask f.dst d) λb=>some (b,m))=some (b,c):=a;replace a:=dI.1 a;obtain⟨o,k,a⟩:=a;simp only[ar,aB]at a;obtain⟨rfl,rfl⟩:=a;exact⟨d,.inl n,k⟩
  ·skip
   have a:(dW (cf i h g) λl=>two l λd c=>dW (e.dst mask f.dst d) λb=>some (b,c))=some (b,c):=a;replace a:=dI.1 a;obtain⟨⟨d,m⟩,p,a⟩:=a;simp only[kN]at a;replace a:=dI.1 a;obtain⟨o,k,a⟩:=a;simp only[ar,aB]at a;obtain⟨rfl,rfl⟩:=a;exact⟨d,.inr ⟨i,h,n,p⟩,k⟩
def D2{P:ai}{h:Nat}{a:World}{g:Mu}{j:Env}{b c:H}{i:Act}{k:Oper}{f:T}(jq:jg P cx)(o:nY P cx cf)
 (e:St cx h a.heap g b) (l:kz a.heap g mask j i.tmps) (u:Fh cx cf mask j b k.op f c):Ay P (ry cx h a g b f c) ((execOp i.eval k).run P a):=by
 rcases u with d|⟨p,m,d,s⟩
 ·exact((zG jq e l d).ran).mono λv w r=>⟨r,Rr e.wf f c d⟩
 ·have⟨_,n,q,t⟩:=Iz (P:=P) e l d;rw[t];exact o p m b f c s h a g n e q
def Fh.congr{b e':Env}{c d:H}{a:Op}{f:T}(h:∀g∈a.operands,fN cx mask b g=fN cx mask e' g)(e:Fh cx cf mask b c a f d):Fh cx cf mask e' c a f d:=by
 unfold Fh at*
 rw[AR h]at e;exact e
def K3{b:Call}{d:Env}{f:H}{e:aj}{c:List T}(a:jr (.call b) cx mask d f=some (.call e c)):iG (.call b)=true:=by
 have a:DP b cx mask d f=some (.call e c):=a;replace a:=dI.1 a;grind [iG,vU]
def Jo{d:Env}{e f:H}{b:Op}{h:T}(l:iG b=false)(k:Fh cx cf mask d e b h f):jr b cx mask d e=some (.val h f):=by
 rcases k with c|⟨j,i,c,_⟩
 ·omega
 ·by_cases g:∃a,b= .call a
  ·obtain⟨a,rfl⟩:=g;rw[K3 c]at l;grind
  ·exact absurd c (Du (λa m=>g ⟨a,m⟩) j i)
def Bz(mask:Nat)(a:Env):List Nat->fZ
 | []=> .nil
 |s::b=>match a.get mask s with
  |some c=> .cons s c (Bz mask a b)
  |none=>Bz mask a b
def KY{b:Env}{c:Nat}:∀(a:List Nat),dL (Bz mask b a) c=if c∈a then b.get mask c else none:=by
 intro a;induction a with
 |nil=>rfl
 |cons e a d=>
  unfold Bz;cases f:b.get mask e with
  |none=>
   grind
  |some g=>
   simp only[nM,d,cr]
   grind
def C1(mask:Nat)(a:Env)(b:List Nat):Env:=⟨Bz mask a b,Bz mask a b⟩
def zp{b:Env}{a:Nat}{c:List Nat}:(C1 mask b c).get mask a=if a∈c then b.get mask a else none:=by
 show @Bool.rec (λ_=>aa T) (dL (Bz mask b c) a) (dL (Bz mask b c) a) (kq mask a)=_;rw[KY];cases kq mask a<;>rfl
def AQ{a:Env}{c:Oper}{b:ah}(h:b∈c.op.operands):fN cx mask a b=fN cx mask (C1 mask a (c.looksAt ops)) b:=by
 cases b with
 |tmp d=>
  show a.get mask d=(C1 mask a (c.looksAt ops)).get mask d;rw[zp,aq];unfold Oper.looksAt;exact cZ _ (List.mem_filterMap.2 ⟨.tmp d,by grind,rfl⟩)
 |const e=>rfl
 |global g=>rfl
 |func f=>rfl
def J5{c:Env}{a:Oper}:kC ops mask (C1 mask c (a.looksAt ops)) a.guard=kC ops mask c a.guard:=by
 cases i:a.guard with
 |none=>rfl
 |some f=>
  obtain⟨d,k⟩:=f;show(dW (dW (dW (mM ops.toList d) λa=>a.dst) λb=>(C1 mask c (a.looksAt ops)).get mask b) λh=>_)=(dW (dW (dW (mM ops.toList d) λa=>a.dst) λb=>c.get mask b) λh=>_);cases e:(dW (mM ops.toList d) λa=>a.dst)with
  |none=>rfl
  |some b=>
   simp only[ed];rw[zp,aq];unfold Oper.looksAt;refine dw _ ?_;replace e:=dI.1 e;obtain⟨f,g,j⟩:=e;rw[kP]at g;have:ops[d]? =some f:=by grind
   grind
end
end
section
def fI.conv{E:af Obj}{B C:Mu}{b:T}{r:am}(a:fI E B b r){n:Nat}(hl:qf n b)(s:∀c e,c<n->B c=some e->C c=some e)
 (D:∀k,nR C k->nR B k):fI E C b r:=by
 induction a with
 |undef=>exact .undef
 |bool c=>exact .bool c
 |int d R=>exact .int d R
 |str U a=>exact .str U a
 |kE=>exact .kE
 |ptr c w k P e h j x M=>cases hl with|ptr _ _ _ _ a=>exact .ptr c w k P e h (s c e a j) x M
 |jH v t off arr q fz A y i p hr g=>
  cases hl with|jH _ a=>exact .jH v t off arr q fz (λd=>A (D _ d)) y i p λd b f=>g d b f (a b (ay f))
 |oc m h=>exact .oc m h
 |dK I K m t off u V arr q fz A y z N O i p hr g=>
  cases hl with|dK _ _ a=>exact .dK I K m t off u V arr q fz (λd=>A (D _ d)) y z N O i p λd b f=>g d b f (a b (ay f))
 |gW h u=>exact .gW h u
 |arr c w S Q m e h G j x z o=>cases hl with|arr _ _ _ _ _ a=>exact .arr c w S Q m e h G (s c e a j) x z o
 |func L F l i hr g=>cases hl with|func _ _ a=>exact .func L F l i λd b f=>g d b f (a b (ay f))
 |kT=>exact .kT
 |kS=>exact .kS
 |iface q b r a g=>cases hl with|iface _ _ a=>exact .iface q b r (g a)
 |iter c e h j o=>cases hl with|iter _ a=>exact .iter c e h (s c e a j) o
 |map c e k j o=>cases hl with|map _ a=>exact .map c e k (s c e a j) o
 |oq=>exact .oq
 |agg v l i p hr g=>cases hl with|agg _ a=>exact .agg v l i p λd b f=>g d b f (a b (ay f))
 |tuple W l i hr g=>cases hl with|tuple _ a=>exact .tuple W l i λd b f=>g d b f (a b (ay f))
def rG.conv{u:af Obj}{r s:Mu}{e:Loc}{p:iX}(i:rG u r e p){n:Nat}(hl:∀c∈fF p.fc,qf n c)(k:∀m e,m<n->r m=some e->s m=some e)
 (j:∀l,nR s l->nR r l):rG u s e p:=by
 refine⟨i.ep,i.sz,λa=>?_,λa=>?_⟩
 ·have h:=i.plain a;have⟨x,M,b,f,d⟩:=h.row;exact⟨⟨x,M,b,f,d.1,λa c v=>(d.2 a c v).conv (hl c (ay v)) k j⟩,h.room,h.tX,h.size,h.scalar⟩
 ·obtain⟨t,b|⟨z,b,f,d⟩|⟨G,F,K,L,y,b,f,d,E⟩⟩:=i.iter a
  ·grind
  rotate_left
  ·exact⟨t,.inr (.inr ⟨G,F,K,L,y,b,f.conv (hl _ (by rw[b];simp[fF,T.cells])) k j,d,E⟩)⟩
  ·refine⟨t,.inr (.inl ⟨z,b,f,λl q w=>?_⟩)⟩;have⟨a,c,I,o,A,B,C,D⟩:=d l q w;have g:=hl q (List.mem_flatMap.2 ⟨q,ay w,by rw[o];simp[T.cells]⟩);rw[o]at g;cases g with|tuple _ g=>exact⟨a,c,I,o,A,B,C.conv (g a dy) k j,D.conv (g c dy) k j⟩
def qf.mono{n c:Nat}{d:T}(a:qf n d)(g:n<=c):qf c d:=by
 induction a with
 |ptr b e h i a=>exact .ptr _ _ _ _ J
 |arr b e k j f a=>exact .arr _ _ _ _ _ J
 |iter b a=>exact .iter _ J
 |map b a=>exact .map _ J
 |_=>constructor<;>assumption
def St.congr{cx:Ctx}{f:Nat}{h:af Obj}{e:Mu}{g c:H}(a:St cx f h e g)(j:c.fG.length=c.size)(l:∀b d,e b=some d->c.get b=g.get b):St cx f h e c:=
 ⟨j,a.fit,λb d i=>by have⟨o,k,m⟩:=a.box b d i;grind,a.inj,a.low,a.apart,a.rE,a.Ab⟩
def H.get_some{a:H}(e:a.fG.length=a.size){b:Nat}(c:b<a.size):∃d,a.get b=some d:=by
 rw[H.get_eq,aq c];exact⟨a.fG[a.size-1-b]' J,dy⟩
def vw(Hs:Nat->H)(a:Nat):Nat->Nat
 |0=>0
 |k+1=>if a<(Hs k).size then vw Hs a k else k+1
def HH(Hs:Nat->H)(a n:Nat):vw Hs a n<=n:=by
 induction n with
 |zero=>simp[vw]
 |succ n b=>unfold vw;split<;>omega
def YN{Hs:Nat->H}{a:Nat}{n:Nat}(d:∀b,b<n->(Hs b).size<=(Hs (b+1)).size)(c:a<(Hs n).size):a<(Hs (vw Hs a n)).size:=by
 induction n with
 |zero=>exact c
 |succ n e=>
  grind [vw]
theorem UX{Hs:Nat->H}{c:Nat}:∀{n p:Nat},p<vw Hs c n->(∀b,b<n->(Hs b).size<=(Hs (b+1)).size)->(Hs p).size<=c:=by
 intro n;induction n with
 |zero=>simp[vw]
 |succ n i=>
  intro p d f;unfold vw at d;split at d
  ·grind
  ·rename_i h;have:∀a,p+a=n->(Hs p).size<=(Hs n).size:=by
    intro a;induction a generalizing p with
    |zero=>intro e;rw[show p=n by omega];omega
    |succ a g=>
     intro e;have:=f p J;have:=g (p:=p+1) J J;omega
   have:=this (n-p) J;omega
section
variable {Hs:Nat->H}{n:Nat}
def nI(f:∀c,c<n->(Hs c).size<=(Hs (c+1)).size){b d:Nat}(e:b<=d)(j:d<=n):(Hs b).size<=(Hs d).size:=by
 obtain⟨a,rfl⟩:=Nat.exists_eq_add_of_le e;clear e;induction a with
 |zero=>simp
 |succ a g=>
  have h:=g J;have i:=f (b+a) J;have:b+(a+1)=b+a+1:=J;rw[this];omega
def ll(c:∀a,a<n->(Hs a).size<=(Hs (a+1)).size){b a:Nat}(e:b<(Hs n).size)(f:a<=n):b<(Hs a).size↔vw Hs b n<=a:=by
 constructor
 ·grind [vw,aQ,UX]
 ·intro d;have:=YN c e;have:=nI c d f;omega
def mw(l:∀a,a<n->(Hs a).size<=(Hs (a+1)).size){c b e:Nat}(g:b<=e)(f:∀a,b<=a->a<e->(Hs (a+1)).get c=(Hs a).get c):(Hs e).get c=(Hs b).get c:=by
 obtain⟨d,rfl⟩:=Nat.exists_eq_add_of_le g;clear g;induction d with
 |zero=>rfl
 |succ d k=>
  have i:=k λa h c=>f a h J;have j:=f (b+d) J J;have:b+(d+1)=b+d+1:=J;rw[this,j,i]
end
def PH(Hs:Nat->H)(n:Nat)(b:Nat->Nat):H:=
 ⟨(Hs n).size,0,(List.range (Hs n).size).reverse.map λa=>((Hs (max (b a) (vw Hs a n))).get a).getD default⟩
def Gq(Hs:Nat->H)(n:Nat)(a:Nat->Nat):(PH Hs n a).fG.length=(PH Hs n a).size:=by simp[PH]
def Zh{Hs:Nat->H}{n a:Nat}{c:Nat->Nat}(g:∀b,b<n->(Hs b).size<=(Hs (b+1)).size)(i:∀b,b<=n->(Hs b).fG.length=(Hs b).size)(j:c a<=n)(d:a<(Hs n).size):
 (PH Hs n c).get a=(Hs (max (c a) (vw Hs a n))).get a:=by
 have e:max (c a) (vw Hs a n)<=n:=by have:=HH Hs a n;omega
 have f:a<(Hs (max (c a) (vw Hs a n))).size:=(ll g d e).2 J;have⟨l,k⟩:=H.get_some (i _ e) f;rw[H.get_eq];have h:(PH Hs n c).size=(Hs n).size:=rfl;rw[h,aq d];show((List.range (Hs n).size).reverse.map λa=>((Hs (max (c a) (vw Hs a n))).get a).getD default)[(Hs n).size-1-a]? =_;rw[aW,List.getElem?_reverse (by grind)];have:(List.range (Hs n).size).length-1-((Hs n).size-1-a)=a:=by grind
 rw[this]
 grind
def sO(b:af Oper)(a:af Bool)(c:Nat):Nat->Nat
 |0=>0
 |k+1=>if a.getD k false=true/\(b[k]?).bind (·.dst)=some c then k+1 else sO b a c k
theorem zQ{ops:af Oper}{listed:af Bool}{s:Nat}:∀(n:Nat),sO ops listed s n=0\/∃a,sO ops listed s n=a+1/\a<n/\listed.getD a false=true/\(ops[a]?).bind (·.dst)=some s:=by
 intro n;induction n with
 |zero=>left;rfl
 |succ n b=>
  unfold sO
  grind
def KV{ops:af Oper}{listed:af Bool}{s:Nat}:∀{n a:Nat},a<n->listed.getD a false=true->(ops[a]?).bind (·.dst)=some s->a+1<=sO ops listed s n:=by
 intro n;induction n with
 |zero=>omega
 |succ n e=>
  intro a d b c;unfold sO
  grind
def Yb{ops:af Oper}{listed:af Bool}{s:Nat}(n:Nat):sO ops listed s n<=n:=by
 rcases zQ (ops:=ops) (listed:=listed) (s:=s) n with a|⟨d,b,c,_⟩<;>omega
def Oj{b:af Oper}{e f:af Bool}{c:Nat}:∀{n:Nat},(∀a,a<n->(b[a]?).bind (·.dst)=some c->f.getD a false=e.getD a false)->sO b f c n=sO b e c n:=by
 intro n;induction n with
 |zero=>intro _;rfl
 |succ n d=>
  intro g;have d:=d λa h=>g a J
  grind [sO]
end
section
structure Dr(P:ai)(cx:Ctx)(cf:je)(base mask m:Nat)(ops:af Oper)(E:Nat->Env)(Hs:Nat->H)(ws:World)(ou:Mu):Prop where
 jq:jg P cx
 ck:nY P cx cf
 dst:Gs m ops
 tr:Trace cx cf mask ops E Hs
 qY:St cx base ws.heap ou (Hs 0)
 FD:∀i j oi oj,ops[i]? =some oi->ops[j]? =some oj->i<j->(oi.apart ops oj=true/\(iG oi.op=true->iG oj.op=true->py oi.op=true/\py oj.op=true))\/jT ops i j=true
 back:∀j o,ops[j]? =some o->∀e∈o.after,Region.binds .any e=true->e.on<j
 afT:∀k,k<=ops.size->∀s v,(E k).get mask s=some v->qf (Hs k).size v
 aco:∀k,k<=ops.size->∀b x,(ou b≠none\/(Hs 0).size<=b)->(Hs k).get b=some x->∀v∈fF x.fc,qf (Hs k).size v
 grow:∀k,k<ops.size->lr (Hs k) (Hs (k+1))
 wf:∀k,k<=ops.size->(Hs k).fG.length=(Hs k).size
structure Inv(cx:Ctx)(base mask m:Nat)(ops:af Oper)(E:Nat->Env)(Hs:Nat->H)(ws:World)(ou:Mu)(listed:af Bool)(a:Act)(w:World)(μ:Mu)(q:Nat->Nat):Prop where
 cl:Cl ops listed
 size:a.tmps.size=m
 OI:a.defers=[]
 JY:∀b,q b<=ops.size
 kZ:∀k b,pN mask ops E k->b<(Hs k).size->fh (Hs k) (Hs (k+1)) b=false->(listed.getD k false=true↔k<q b)
 st:St cx base w.heap μ (PH Hs ops.size q)
 Pu:∀s v,(E (sO ops listed s ops.size)).get mask s=some v->fI w.heap μ v (a.tmps.getD s Go.undef)
 UL:∀b,μ b≠none↔(ou b≠none\/((Hs 0).size<=b/\b<(Hs ops.size).size/\listed.getD (vw Hs b ops.size-1) false=true))
 ext:qg ws ou w μ
section
variable {P:ai}{cx:Ctx}{cf:je}{base mask m:Nat}{ops:af Oper}{E:Nat->Env}{Hs:Nat->H}{ws w:World}{ou μ:Mu}{listed:af Bool}{a:Act}{q:Nat->Nat}
def Dr.mono(c:Dr P cx cf base mask m ops E Hs ws ou):∀b,b<ops.size->(Hs b).size<=(Hs (b+1)).size:=λb d=>(c.grow b d).size
def Dr.lt0(c:Dr P cx cf base mask m ops E Hs ws ou){b:Nat}(e:ou b≠none):b<(Hs 0).size:=by
 have⟨f,d⟩:=Option.ne_none_iff_exists'.1 e;exact c.qY.fa d
def Dr.still(g:Dr P cx cf base mask m ops E Hs ws ou){b d:Nat}(p:b<ops.size)(n:d<(Hs b).size)(h:¬pN mask ops E b):(Hs (b+1)).get d=(Hs b).get d:=by
 have f:ops[b]? =some ops[b]:=dy;rcases nj (g.tr.step b _ f)with⟨_,_,c⟩|⟨i,r,k,_⟩
 ·rw[c]
 ·have e:iG ops[b].op=false:=by
   cases c:iG ops[b].op with
   |false=>rfl
   |true=>exact absurd ⟨_,f,c,i⟩ h
  rcases Iy (h2:=Hs b) e (λ_ _ _=>rfl) (Jo e k)with⟨c,_⟩|⟨l,s,_,_,_,c,_⟩
  ·rw[c]
  grind [H.nC]
def Dr.ver(d:Dr P cx cf base mask m ops E Hs ws ou){b c:Nat}(g:b<ops.size)(f:c<(Hs b).size)(n:fh (Hs b) (Hs (b+1)) c=true):(Hs (b+1)).get c=(Hs b).get c:=by
 have⟨k,e⟩:=H.get_some (d.wf b J) f;have⟨p,i,h⟩:=(d.grow b g).ver c k e;rcases h with rfl|l
 ·rw[e,i]
 simp_all[fh]
def Dr.same(d:Dr P cx cf base mask m ops E Hs ws ou){b c:Nat}(f:b<ops.size)(e:c<(Hs b).size)(i:pN mask ops E b->fh (Hs b) (Hs (b+1)) c=false->False):(Hs (b+1)).get c=(Hs b).get c:=by
 by_cases g:pN mask ops E b
 ·cases h:fh (Hs b) (Hs (b+1)) c with
  |true=>exact d.ver f e h
  |false=>grind
 ·exact d.still f e g
def Dr.xY(c:Dr P cx cf base mask m ops E Hs ws ou){b:Nat}(e:q b<=ops.size)(d:b<(Hs ops.size).size):(PH Hs ops.size q).get b=(Hs (max (q b) (vw Hs b ops.size))).get b:=
 Zh c.mono c.wf e d
def Inv.lt(f:Dr P cx cf base mask m ops E Hs ws ou)(c:Inv cx base mask m ops E Hs ws ou listed a w μ q){b:Nat}{d:Loc}(e:μ b=some d):b<(Hs ops.size).size:=c.st.fa e
variable {j:Nat}{o:Oper}
structure Na(ops:af Oper)(listed:af Bool)(j:Nat)(o:Oper):Prop where
 op:ops[j]? =some o
 lt:j<ops.size
 not:listed.getD j false=false
 before:∀i,jT ops i j=true->listed.getD i false=true
 behind:∀k,jT ops j k=true->listed.getD k false=false
 ac9:∀e∈o.after,Region.binds .any e=true->listed.getD e.on false=true
def Jj{listed:af Bool}{b:Nat}(c:listed.getD b true=false):listed.getD b false=false:=by
 grind
def rdy(c:Cl ops listed)(k:j∈Region.ready .any ops listed):∃o,Na ops listed j o:=by
 have⟨e,o,d,f⟩:=mem_ready.1 k;have n:j<ops.size:=(Array.getElem?_eq_some_iff.1 d).1;refine⟨o,d,n,Jj e,λr i=>Dg c i d f,λb l=>?_,f⟩;cases h:listed.getD b false with
 |false=>rfl
 |true=>
  have p:b<listed.size:=by
   grind
  have g:ops[b]? =some (ops[b]'(by rw[<-c.size];omega)):=by
   have:b<ops.size:=by rw[<-c.size];omega
   simp
  have:=Dg c l g (c.closed b _ g h);rw[Jj e]at this;grind
def Cl.set(b:Cl ops listed)(k:Na ops listed j o):Cl ops (listed.setIfInBounds j true):=by
 refine⟨by simp[b.size],λh i g hl c e d=>?_⟩;by_cases f:j=h
 ·subst f;have:i=o:=Option.some.inj (g.symm.trans k.op);subst this;exact getD_set_true (k.ac9 c e d)
 ·rw[getD_set_ne false f]at hl;exact getD_set_true (b.closed h i g hl c e d)
def wn(b:Cl ops listed)(c:Na ops listed j o):(listed.setIfInBounds j true).getD j false=true:=by
 have:j<listed.size:=by rw[b.size];exact c.lt
 simp[this]
theorem Inv.dL(p:Dr P cx cf base mask m ops E Hs ws ou)(N:Inv cx base mask m ops E Hs ws ou listed a w μ q)(f:Na ops listed j o){s:Nat}(B:s∈o.looksAt ops):
 (E (sO ops listed s ops.size)).get mask s=(E j).get mask s:=by
 have F:∀b i,ops[b]? =some i->i.dst=some s->(b<j->listed.getD b false=true)/\(j<b->listed.getD b false=false):=by
  intro b i k t;refine⟨λu=>?_,λu=>?_⟩
  ·rcases p.FD b j i o k f.op u with⟨r,_⟩|v
   ·exact absurd B ((Oper.apart_spec r).1 s t)
   ·exact f.before b v
  ·rcases p.FD j b o i f.op k u with⟨r,_⟩|v
   ·exact absurd B ((Oper.apart_spec r).2.2 s t)
   ·exact f.behind b v
 have S:sO ops listed s ops.size<=j:=by
  rcases zQ (ops:=ops) (listed:=listed) (s:=s) ops.size with h|⟨b,O,R,I,x⟩
  ·omega
  ·have e:ops[b]? =some ops[b]:=dy;rw[e]at x;have C:=F b _ e x;rcases Nat.lt_trichotomy b j with h|h|h
   ·omega
   ·subst h;rw[f.not]at I;grind
   grind
 have M:∀c,sO ops listed s ops.size+c<=j->(E (sO ops listed s ops.size+c)).get mask s=(E (sO ops listed s ops.size)).get mask s:=by
  intro c;induction c with
  |zero=>simp
  |succ c L=>
   intro t;have k:sO ops listed s ops.size+c<ops.size:=by have:=f.lt;omega
   have e:ops[sO ops listed s ops.size+c]? =some ops[sO ops listed s ops.size+c]:=dy;rw[<-L J];have A:ops[sO ops listed s ops.size+c].dst≠some s:=by
    intro y;have C:=(F _ _ e y).1 J;have:=KV (n:=ops.size) k C (by rw[e];exact y);omega
   have T:∀l g,(E (sO ops listed s ops.size+c)).dst mask ops[sO ops listed s ops.size+c].dst l=some g->g.get mask s=(E (sO ops listed s ops.size+c)).get mask s:=by
    intro l g d;cases z:ops[sO ops listed s ops.size+c].dst with
    |none=>rw[z]at d;have d:some _=some g:=d;simp only[ar]at d;rw[d]
    |some D=>
     rw[z]at d A;have K:s≠D:=λG=>A (by rw[G]);rw[Env.Cn (show Env.set mask _ D l=some g from d) s,ao K]
   rcases nj (p.tr.step _ _ e)with⟨_,d,_⟩|⟨_,l,_,d⟩
   ·grind
   grind
 have:=M (j-sO ops listed s ops.size) J;rw[show sO ops listed s ops.size+(j-sO ops listed s ops.size)=j by omega]at this
 grind
def Inv.PE(d:Dr P cx cf base mask m ops E Hs ws ou)(c:Inv cx base mask m ops E Hs ws ou listed a w μ q)(f:Na ops listed j o):kz w.heap μ mask (C1 mask (E j) (o.looksAt ops)) a.tmps:=by
 intro g h b;rw[zp]at b;split at b
 ·rename_i e;exact c.Pu g h (by rw[c.dL d f e];exact b)
 grind
def Inv.CN(p:Dr P cx cf base mask m ops E Hs ws ou)(g:Inv cx base mask m ops E Hs ws ou listed a w μ q)(c:Na ops listed j o){k:af Obj}{n:Mu}(I:Ext w.heap μ k n){l:T}{r:am}
 (F:fI k n l r) (y:(E j).dst mask o.dst l=some (E (j+1))):∀s f,(E (sO ops (listed.setIfInBounds j true) s ops.size)).get mask s=some f->fI k n f ((a.put o.dst r).tmps.getD s Go.undef):=by
 intro s f d;by_cases e:o.dst=some s
 ·have i:sO ops (listed.setIfInBounds j true) s ops.size=j+1:=by
   have M:=KV (ops:=ops) (s:=s) c.lt (wn g.cl c) (by rw[c.op];exact e);rcases zQ (ops:=ops) (listed:=listed.setIfInBounds j true) (s:=s) ops.size with h|⟨b,K,L,t,u⟩
   ·omega
   ·rcases Nat.lt_trichotomy b j with h|h|h
    ·omega
    ·omega
    ·have v:ops[b]? =some ops[b]:=dy;rw[v]at u;rw[getD_set_ne false J]at t;rcases p.FD j b o _ c.op v h with⟨z,_⟩|D
     ·exact absurd u ((Oper.apart_spec z).2.1 s e)
     ·rw[c.behind b D]at t;grind
  rw[i]at d;rw[e]at y|-;rw[Env.Cn (show Env.set mask _ s l=some _ from y) s]at d;simp only[bF,ar]at d;subst d;have B:s<a.tmps.size:=by rw[g.size];exact p.dst j o s c.op e
  simpa[Act.put,cg,B]using F
 ·have i:sO ops (listed.setIfInBounds j true) s ops.size=sO ops listed s ops.size:=by
   refine Oj λb O A=>?_;have:j≠b:=by rintro rfl;rw[c.op]at A;grind
   simp_all
  rw[i]at d;have x:=(g.Pu s f d).ext I;cases N:o.dst with
  |none=>exact x
  |some G=>
   have C:G≠s:=by grind
   simpa[Act.put,cg,Array.getElem?_setIfInBounds_ne C]using x
def Inv.looked(d:Dr P cx cf base mask m ops E Hs ws ou)(k:Inv cx base mask m ops E Hs ws ou listed a w μ q)(n:Na ops listed j o)(v:iG o.op=false)(I:kC ops mask (E j) o.guard=some true)
 {b:Nat} (z:ij cx mask (E j) (Hs j) o.op=some b) {e:Nat} (M:j<=e) (x:e<=ops.size) (u:b<(Hs e).size) (N:e=j\/e=j+1):
 (PH Hs ops.size q).get b=(Hs e).get b:=by
 have l:b<(Hs ops.size).size:=bD u (nI d.mono x (au _));rw[d.xY (k.JY _) l];have K:vw Hs b ops.size<=e:=(ll d.mono l x).1 u;have t:yo cx mask ops E Hs j b:=⟨o,n.op,v,I,z⟩;have L:¬pN mask ops E j:=by
  rintro⟨O,r,A,_⟩;rw[n.op]at r;simp only[ar]at r;subst r;rw[v]at A;grind
 rcases Nat.le_total (max (q b) (vw Hs b ops.size)) e with F|B
 ·refine(mw d.mono F λc C D=>?_).symm;have f:b<(Hs c).size:=(ll d.mono l J).2 J;by_cases g:pN mask ops E c
  ·have p:c<j:=by
    grind
   cases i:fh (Hs c) (Hs (c+1)) b with
   |true=>exact d.ver J f i
   |false=>
    rcases d.tr.behind j c b t g p with h|h
    ·rw[i]at h;grind
    ·have:=(k.kZ c b g f i).1 (n.before c h);omega
  ·exact d.still J f g
 ·refine mw d.mono B λc C D=>?_;have G:c<q b:=J;have s:c<ops.size:=by have:=k.JY b;omega
  have f:b<(Hs c).size:=(ll d.mono l J).2 J;by_cases g:pN mask ops E c
  ·have p:j<c:=by
    grind
   cases i:fh (Hs c) (Hs (c+1)) b with
   |true=>exact d.ver s f i
   |false=>
    rcases d.tr.ahead j c b t g p with h|h
    ·rw[i]at h;grind
    ·have y:=(k.kZ c b g f i).2 G;rw[n.behind c h]at y;grind
  ·exact d.still s f g
def Inv.want(b:Dr P cx cf base mask m ops E Hs ws ou)(c:Inv cx base mask m ops E Hs ws ou listed a w μ q)(k:Na ops listed j o){d:Bool}(g:kC ops mask (E j) o.guard=some d):
 Region.wanted o (yielded ops a.tmps)=d:=
 CD (c.PE b k) (λh i l e f=>by rw[c.size];exact b.dst h i l e f) (by rw[J5];exact g)
def Dr.made(c:Dr P cx cf base mask m ops E Hs ws ou)(g:j<ops.size){b:Nat}(d:b<(Hs ops.size).size):vw Hs b ops.size=j+1↔((Hs j).size<=b/\b<(Hs (j+1)).size):=by
 have e:=ll c.mono d (show j<=ops.size by omega);have f:=ll c.mono d (show j+1<=ops.size by omega);omega
def Dr.cr0(c:Dr P cx cf base mask m ops E Hs ws ou){b:Nat}(d:b<(Hs ops.size).size)(e:(Hs 0).size<=b):0<vw Hs b ops.size:=by
 rcases Nat.eq_zero_or_pos (vw Hs b ops.size)with h|h
 ·have:=(ll c.mono d (aw _)).2 J;omega
 omega
def Dr.BK(c:Dr P cx cf base mask m ops E Hs ws ou)(f:j<ops.size){b:Nat}(d:b<(Hs ops.size).size)(e:(Hs 0).size<=b)(g:¬((Hs j).size<=b/\b<(Hs (j+1)).size)):
 (listed.setIfInBounds j true).getD (vw Hs b ops.size-1) false=listed.getD (vw Hs b ops.size-1) false:=by
 refine getD_set_ne false λh=>g ?_;have:=c.cr0 d e;exact(c.made f d).1 J 
def Inv.HC(f:Dr P cx cf base mask m ops E Hs ws ou)(k:Inv cx base mask m ops E Hs ws ou listed a w μ q)(h:Na ops listed j o)(g:(Hs (j+1)).size=(Hs j).size){i:Mu}(l:∀b,i b≠none↔μ b≠none):
 ∀b,i b≠none↔(ou b≠none\/((Hs 0).size<=b/\b<(Hs ops.size).size/\(listed.setIfInBounds j true).getD (vw Hs b ops.size-1) false=true)):=by
 intro b;rw[l,k.UL];refine or_congr Iff.rfl ⟨λ⟨c,d,e⟩=>⟨c,d,?_⟩,λ⟨c,d,e⟩=>⟨c,d,?_⟩⟩
 ·rw[f.BK h.lt d c (by rw[g];omega)];exact e
 ·rw[f.BK h.lt d c (by rw[g];omega)]at e;exact e
def Dq(c:Na ops listed j o)(d:iG o.op=false\/kC ops mask (E j) o.guard=some false):¬pN mask ops E j:=by
 rintro⟨g,b,e,f⟩;rw[c.op]at b;grind
def Inv.D5(d:Inv cx base mask m ops E Hs ws ou listed a w μ q)(h:¬pN mask ops E j):
 ∀b c,pN mask ops E b->c<(Hs b).size->fh (Hs b) (Hs (b+1)) c=false->((listed.setIfInBounds j true).getD b false=true↔b<q c):=by
 intro b c f e g;have:j≠b:=by grind
 rw[getD_set_ne false this];exact d.kZ b c f e g
variable {Q:Exit->Act->World->Prop}
def Inv.skip(d:Dr P cx cf base mask m ops E Hs ws ou)(b:Inv cx base mask m ops E Hs ws ou listed a w μ q)(c:Na ops listed j o)(g:kC ops mask (E j) o.guard=some false)
 (f:(E j).dst mask o.dst .undef=some (E (j+1))) (e:Hs (j+1)=Hs j):Inv cx base mask m ops E Hs ws ou (listed.setIfInBounds j true) (a.put o.dst Go.undef) w μ q:=
 ⟨b.cl.set c,by rw[Act.qB];exact b.size,by rw[Act.qC];exact b.OI,b.JY,b.D5 (Dq c (.inr g)),b.st,
   b.CN d c (Ext.refl _ _) .undef f,b.HC d c (by rw[e]) λ_=>Iff.rfl,b.ext⟩
def Inv.quiet(k:Dr P cx cf base mask m ops E Hs ws ou)(e:Inv cx base mask m ops E Hs ws ou listed a w μ q)(i:Na ops listed j o)(cp:kC ops mask (E j) o.guard=some true)(U:iG o.op=false){v:T}
 (a8:Fh cx cf mask (E j) (Hs j) o.op v (Hs (j+1))) (ca:(E j).dst mask o.dst v=some (E (j+1))):
 Ay P (λY O=>∃s,Inv cx base mask m ops E Hs ws ou (listed.setIfInBounds j true) (a.put o.dst Y) O s q) ((execOp a.eval o).run P w):=by
 have b8:=Dq (mask:=mask) (E:=E) i (.inl U);have b9:=Jo U a8;have aA:∀A∈o.op.operands,fN cx mask (E j) A=fN cx mask (C1 mask (E j) (o.looksAt ops)) A:=λA a8=>AQ a8;rw[AR aA]at b9;have dm:∀b,ij cx mask (C1 mask (E j) (o.looksAt ops)) (Hs j) o.op=some b->b<(Hs j).size->(PH Hs ops.size q).get b=(Hs j).get b:=by
  intro b c bX;rw[<-wL aA]at c;exact e.looked k i U cp c (au _) (bw i.lt) bX (.inl rfl)
 rcases Iy U dm b9 with⟨ae,a6⟩|⟨f,A,F,c,ec,ae,a6⟩
 ·
  refine((zG k.jq e.st (e.PE k i) a6).ran).mono λY O av=>?_;obtain⟨s,y,t,x,N⟩:=av;refine⟨s,e.cl.set i,by rw[Act.qB];exact e.size,by rw[Act.qC];exact e.OI,e.JY,e.D5 b8,t,e.CN k i x.ext y ca,?_,e.ext.trans x⟩;refine e.HC k i (by rw[ae]) λb=>⟨λc=>?_,λc=>?_⟩
  ·rcases N.2.1 b c with h|h
   ·exact h
   ·omega
  ·have⟨d,M⟩:=Option.ne_none_iff_exists'.1 c;have⟨X,al,_⟩:=x.ext.mu b d M;rw[al];simp
 ·
  subst ec;have ap:(PH Hs ops.size q).size=(Hs ops.size).size:=rfl;have cb:(Hs (j+1)).size=(Hs j).size+1:=by rw[ae];rfl
  have bH:(Hs j).size<(Hs ops.size).size:=by
   have:=nI k.mono (show j+1<=ops.size from i.lt) (au _);omega
  have bB:(Hs 0).size<=(Hs j).size:=nI k.mono (aw _) (bw i.lt);have bN:vw Hs (Hs j).size ops.size=j+1:=(k.made i.lt bH).2 ⟨au _,J⟩;have eB:μ (Hs j).size=none:=by
   cases dn:μ (Hs j).size with
   |none=>rfl
   |some d=>
    exfalso;rcases(e.UL (Hs j).size).1 (by rw[dn];simp)with h|⟨_,_,h⟩
    ·have:=k.lt0 h;omega
    ·rw[bN]at h;simp only[Nat.add_sub_cancel]at h;rw[i.not]at h;grind
  have di:(Hs (j+1)).get (Hs j).size=some A:=by rw[ae];exact H.tU (k.wf j (bw i.lt)) A
  have dv:(PH Hs ops.size q).get (Hs j).size=some A:=by
   rw[<-wL aA]at c;rw[e.looked k i U cp c (show j<=j+1 by omega) i.lt J (.inr rfl)];omega
  refine((zG k.jq e.st (e.PE k i) a6).ran).mono λY O av=>?_;obtain⟨s,y,t,x,N⟩:=av;rw[ap]at y N;have dd:((PH Hs ops.size q).cons A).size=(Hs ops.size).size+1:=rfl;rw[dd]at N;have er:s (Hs ops.size).size≠none:=N.2.2 _ (au _) J;have b6:∀b d,μ b=some d->b<(Hs ops.size).size:=λb d c=>e.st.fa c;have bS:∀b,b≠(Hs ops.size).size->(s b≠none↔μ b≠none):=by
   intro b ey;constructor
   ·intro c;rcases N.2.1 b c with h|h
    ·exact h
    ·omega
   ·intro c;have⟨d,M⟩:=Option.ne_none_iff_exists'.1 c;have⟨X,al,_⟩:=x.ext.mu b d M;rw[al];simp
  have eo:s (Hs j).size=none:=by
   grind
  have⟨et,eu⟩:=Option.ne_none_iff_exists'.1 er
  let B:Mu:=⟨λb=>if b=(Hs j).size then s (Hs ops.size).size else if b=(Hs ops.size).size then none else s b,s.pM⟩
  have C:B (Hs j).size=s (Hs ops.size).size:=by grind
  have S:B (Hs ops.size).size=none:=by
   have:(Hs ops.size).size≠(Hs j).size:=J
   grind
  have L:∀b,b≠(Hs j).size->b≠(Hs ops.size).size->B b=s b:=λb p r=>by grind
  have bT:∀K,nR B K->nR s K:=by
   rintro K (⟨b,d,c,hl⟩|hr)
   ·by_cases p:b=(Hs j).size
    ·subst p;rw[C]at c;exact .inl ⟨_,d,c,hl⟩
    ·by_cases r:b=(Hs ops.size).size
     ·subst r;rw[S]at c;grind
     ·rw[L b p r]at c;exact .inl ⟨b,d,c,hl⟩
   ·exact .inr hr
  have b7:∀b d,b<(Hs ops.size).size->s b=some d->B b=some d:=by
   intro b d c M;have p:b≠(Hs j).size:=by rintro rfl;rw[eo]at M;grind
   rw[L b p J];exact M
  have aN:Ext w.heap μ O.heap B:=by
   refine⟨x.ext.size,λK dk ds=>?_,λb d c=>?_,x.ext.pM,x.ext.kept⟩
   ·have⟨eC,eD⟩:=x.ext.nZ K dk ds
    grind
   ·have⟨X,al,eA⟩:=x.ext.mu b d c
    grind
  have ea:fI O.heap B (f (Hs j).size) Y:=by
   rcases F with F|⟨l,F⟩|F|F
   ·rw[F]at y|-;cases y with|ptr _ _ _ _ d R c aE c6=>exact .ptr _ _ _ _ d R (by rw[C];exact c) aE c6
   ·rw[F]at y|-;cases y with|arr _ _ _ _ _ d R cL c aE hl h=>exact .arr _ _ _ _ _ d R cL (by rw[C];exact c) aE hl h
   ·rw[F]at y|-;cases y with|iter _ d R c h=>exact .iter _ d R (by rw[C];exact c) h
   ·rw[F]at y|-;cases y with|map _ d K c h=>exact .map _ d K (by rw[C];exact c) h
  have eb:St cx base O.heap B (PH Hs ops.size q):=by
   refine⟨Gq _ _ _,t.fit,λb d c=>?_,λb cy d X c c7 hl=>?_,λb d c=>?_,λb d c=>?_,t.rE,λg c1 de=>?_⟩
   ·by_cases p:b=(Hs j).size
    ·subst p;rw[C]at c;have⟨W,V,aX⟩:=t.box _ d c;have ef:W=A:=by
      have:=H.tU (Gq Hs ops.size q) A;rw[ap,V]at this
      grind
     subst ef;refine⟨W,dv,aX.conv (n:=(Hs ops.size).size) (λu a7=>?_) b7 bT⟩;exact(k.aco (j+1) i.lt _ W (.inr bB) di u a7).mono J
    ·by_cases r:b=(Hs ops.size).size
     ·subst r;rw[S]at c;grind
     ·rw[L b p r]at c;have⟨W,V,aX⟩:=t.box b d c;have c9:μ b≠none:=(bS b r).1 (by rw[c];simp);have⟨bn,bC⟩:=Option.ne_none_iff_exists'.1 c9;have bX:=b6 b bn bC;rw[H.nC (by rw[ap];omega)]at V;refine⟨W,V,aX.conv (n:=(Hs ops.size).size) (λu a7=>?_) b7 bT⟩;have⟨z,bi,eh⟩:=e.st.box b bn bC;rw[V]at bi;simp only[ar]at bi;subst bi;exact eh.low b6 u a7
   ·have bs:∀b d,B b=some d->(b=(Hs j).size/\s (Hs ops.size).size=some d)\/(b≠(Hs j).size/\b≠(Hs ops.size).size/\s b=some d):=by
     grind
    rcases bs b d c with⟨G,D⟩|⟨G,D,I⟩<;>rcases bs cy X c7 with⟨c4,an⟩|⟨c4,an,bu⟩
    ·omega
    ·exact absurd (t.inj _ _ _ _ D bu hl).symm an
    ·exact absurd (t.inj _ _ _ _ I an hl) D
    ·exact t.inj _ _ _ _ I bu hl
   ·by_cases p:b=(Hs j).size
    ·subst p;rw[C]at c;exact t.low _ _ c
    ·by_cases r:b=(Hs ops.size).size
     ·subst r;rw[S]at c;grind
     ·rw[L b p r]at c;exact t.low _ _ c
   ·by_cases p:b=(Hs j).size
    ·subst p;rw[C]at c;exact t.apart _ _ c
    ·by_cases r:b=(Hs ops.size).size
     ·subst r;rw[S]at c;grind
     ·rw[L b p r]at c;exact t.apart _ _ c
   ·exact(e.st.Ab g c1 de).ext aN
  refine⟨B,e.cl.set i,by rw[Act.qB];exact e.size,by rw[Act.qC];exact e.OI,e.JY,e.D5 b8,eb,e.CN k i aN ea ca,λb=>?_,
   e.ext.trans ⟨aN,x.os,x.tape,x.output⟩⟩
  by_cases p:b=(Hs j).size
  ·subst p;refine⟨λ_=> .inr ⟨bB,bH,?_⟩,λ_=>by rw[C];omega⟩;rw[bN];exact wn e.cl i
  ·by_cases r:b=(Hs ops.size).size
   ·subst r;refine⟨λh=>absurd S h,λh=>?_⟩;rcases h with h|⟨_,h,_⟩
    ·have:=k.lt0 h;omega
    ·omega
   ·rw[L b p r,bS b r,e.UL];refine or_congr Iff.rfl ⟨λ⟨G,D,I⟩=>⟨G,D,?_⟩,λ⟨G,D,I⟩=>⟨G,D,?_⟩⟩
    ·rw[k.BK i.lt D G (by rw[cb];omega)];exact I
    ·rw[k.BK i.lt D G (by rw[cb];omega)]at I;exact I
def Inv.afU(k:Dr P cx cf base mask m ops E Hs ws ou)(f:Inv cx base mask m ops E Hs ws ou listed a w μ q)(F:Na ops listed j o)(ds:kC ops mask (E j) o.guard=some true)(c4:iG o.op=true)
 (b9:∀i X,ops[i]? =some X->iG X.op=true->(i<j->jT ops i j=true)/\(j<i->jT ops j i=true)) {v:T}
 (A:Fh cx cf mask (E j) (Hs j) o.op v (Hs (j+1))) (di:(E j).dst mask o.dst v=some (E (j+1))):
 Ay P (λc al=>∃G,Inv cx base mask m ops E Hs ws ou (listed.setIfInBounds j true) (a.put o.dst c) al G (λ_=>j+1)) ((execOp a.eval o).run P w):=by
 have eh:pN mask ops E j:=⟨o,F.op,c4,ds⟩;have bT:∀i,pN mask ops E i->i<j->listed.getD i false=true:=by
  rintro i ⟨X,K,C,_⟩ bs;exact F.before i ((b9 i X K C).1 bs)
 have bS:∀i,pN mask ops E i->j<i->listed.getD i false=false:=by
  rintro i ⟨X,K,C,_⟩ bs;exact F.behind i ((b9 i X K C).2 bs)
 have r:=F.lt;have et:(Hs j).size<=(Hs (j+1)).size:=k.mono j r;have eu:(Hs (j+1)).size<=(Hs ops.size).size:=nI k.mono (show j+1<=ops.size from r) (au _);have ec:(Hs 0).size<=(Hs j).size:=nI k.mono (aw _) (bw r);have cL:∀b,b<(Hs j).size->(PH Hs ops.size q).get b=(Hs j).get b:=by
  intro b e;have t:b<(Hs ops.size).size:=J;rw[k.xY (f.JY _) t];have bX:vw Hs b ops.size<=j:=(ll k.mono t (bw r)).1 e;rcases Nat.le_total (max (q b) (vw Hs b ops.size)) j with c9|c7
  ·refine(mw k.mono c9 λi bi bn=>?_).symm;have R:b<(Hs i).size:=(ll k.mono t J).2 J;refine k.same J R λC Y=>?_;have:=(f.kZ i b C R Y).1 (bT i C bn);omega
  ·refine mw k.mono c7 λi bi bn=>?_;have de:=f.JY b;have R:b<(Hs i).size:=(ll k.mono t J).2 J;refine k.same J R λC Y=>?_;have hl:=(f.kZ i b C R Y).2 J;rcases Nat.eq_or_lt_of_le bi with h|h
   ·subst h;rw[F.not]at hl;grind
   grind
 have c6:∀b d,μ b=some d->b<(Hs j).size\/(Hs (j+1)).size<=b:=by
  intro b d e;rcases aQ b (Hs j).size with h|h
  ·omega
  ·right;rcases aQ b (Hs (j+1)).size with l|l
   ·exfalso;have t:b<(Hs ops.size).size:=J;rcases(f.UL b).1 (by rw[e];simp)with g|⟨_,_,g⟩
    ·have:=k.lt0 g;omega
    ·rw[(k.made r t).2 ⟨h,l⟩]at g;simp only[Nat.add_sub_cancel]at g;rw[F.not]at g;grind
   omega
 have c1:∀b,μ b≠none->ou b≠none\/(Hs 0).size<=b:=λb e=>by
  rcases(f.UL b).1 e with g|⟨g,_⟩
  ·grind
  omega
 let V:Mu:=⟨λb=>if b<(Hs j).size then μ b else none,λp=>μ.pM p\/∃b d,(Hs j).size<=b/\μ b=some d/\d.ja=p⟩
 have bB:∀b,b<(Hs j).size->V b=μ b:=λb e=>by grind
 have O:∀b d,V b=some d->b<(Hs j).size/\μ b=some d:=by
  grind
 have an:∀p,nR V p->nR μ p:=by
  rintro p (⟨b,d,e,hl⟩|hr|⟨b,d,e,I,hl⟩)
  ·exact .inl ⟨b,d,(O b d e).2,hl⟩
  ·exact .inr hr
  ·exact .inl ⟨b,d,I,hl⟩
 have ap:∀b d,b<(Hs j).size->μ b=some d->V b=some d:=λb d e I=>by rw[bB b e];exact I
 have eb:St cx base w.heap V (Hs j):=by
  refine⟨k.wf j (bw r),f.st.fit,λb d e=>?_,λb L d B e aE hl=>?_,λb d e=>?_,λb d e=>?_,λp hr=>?_,λg aX a7=>?_⟩
  ·have⟨x,l⟩:=O b d e;have⟨U,A,K⟩:=f.st.box b d l;rw[cL b x]at A;exact⟨U,A,K.conv (k.aco j (bw r) b U (c1 b (by rw[l];simp)) A) ap an⟩
  ·exact f.st.inj b L d B (O b d e).2 (O L B aE).2 hl
  ·exact f.st.low b d (O b d e).2
  ·rintro(hr|⟨L,B,aE,aA,hl⟩)
   ·exact f.st.apart b d (O b d e).2 hr
   ·have:=f.st.inj L b B d aA (O b d e).2 hl;have:=(O b d e).1;omega
  ·rcases hr with hr|⟨b,d,_,I,hl⟩
   ·exact f.st.rE p hr
   ·rw[<-hl];exact f.st.lt I
  ·have b6:=f.st.Ab g aX a7;refine b6.conv (n:=0) ?_ (λb d e=>by omega) an;have⟨_,_,_,_,_,_,_,_,_,dk,_⟩:=b6.mh;exact .jH _ λu W=>(dk u W).2.low 0
 have ea:kz w.heap V mask (C1 mask (E j) (o.looksAt ops)) a.tmps:=by
  intro s u W;refine(f.PE k F s u W).conv (n:=(Hs j).size) ?_ ap an
  rw[zp]at W;split at W
  ·exact k.afT j (bw r) s u W
  grind
 have dv:=A.congr (e':=C1 mask (E j) (o.looksAt ops)) λU A=>AQ A;refine(D2 k.jq k.ck eb ea dv).mono λc al cy=>?_;obtain⟨⟨G,ca,S,D,cb⟩,_⟩:=cy
 let N:Mu:=⟨λb=>if b<(Hs (j+1)).size then G b else μ b,μ.pM⟩
 have a6:∀b,b<(Hs (j+1)).size->N b=G b:=λb e=>by grind
 have bC:∀b,(Hs (j+1)).size<=b->N b=μ b:=λb e=>by
  have:¬b<(Hs (j+1)).size:=J
  grind
 have bu:G.pM=V.pM:=D.ext.pM;have eo:∀b d,(Hs (j+1)).size<=b->μ b=some d->G.pM d.ja:=by
  intro b d e I;rw[bu]
  grind
 have bH:∀p,nR N p->nR G p:=by
  rintro p (⟨b,d,e,hl⟩|hr)
  ·by_cases h:b<(Hs (j+1)).size
   ·rw[a6 b h]at e;exact .inl ⟨b,d,e,hl⟩
   ·rw[bC b J]at e;right;rw[<-hl];grind
  ·right;rw[bu];grind
 have b8:∀b d,G b=some d->b<(Hs (j+1)).size:=λb d e=>S.fa e;have bN:∀b d,b<(Hs (j+1)).size->G b=some d->N b=some d:=λb d e I=>by rw[a6 b e];exact I
 have aN:Ext w.heap μ al.heap N:=by
  refine⟨D.ext.size,λp a8 dd=>?_,λb d e=>?_,rfl,λp a8 hr=>D.ext.kept p a8 (.inl hr)⟩
  ·have⟨y,z⟩:=D.ext.nZ p a8 λh=>dd (an p h)
   grind
  ·rcases c6 b d e with h|h
   ·have⟨B,aA,er⟩:=D.ext.mu b d (ap b d h e)
    grind
   grind
 have dm:St cx base al.heap N (PH Hs ops.size (λ_=>j+1)):=by
  have ae:∀b d,N b=some d->(b<(Hs (j+1)).size/\G b=some d)\/((Hs (j+1)).size<=b/\μ b=some d):=by
   grind
  refine⟨Gq _ _ _,S.fit,λb d e=>?_,λb L d B e aE hl=>?_,λb d e=>?_,λb d e hr=>?_,λp hr=>?_,λg aX a7=>(f.st.Ab g aX a7).ext aN⟩
  ·rcases ae b d e with⟨x,l⟩|⟨x,l⟩
   ·have⟨U,A,K⟩:=S.box b d l;have t:b<(Hs ops.size).size:=J;have bX:vw Hs b ops.size<=j+1:=(ll k.mono t (show j+1<=ops.size from r)).1 x;refine⟨U,?_,K.conv (K.low b8) bN bH⟩;rw[k.xY (q:=λ_=>j+1) (show j+1<=ops.size from r) t,show max (j+1) (vw Hs b ops.size)=j+1 by omega];exact A
   ·have⟨U,A,K⟩:=f.st.box b d l;have t:b<(Hs ops.size).size:=f.st.fa l;have bX:¬vw Hs b ops.size<=j+1:=λh=>by
     have:=(ll k.mono t (show j+1<=ops.size from r)).2 h;omega
    refine⟨U,?_,K.ext aN ?_⟩
    ·rw[k.xY (f.JY _) t]at A;rw[k.xY (q:=λ_=>j+1) (show j+1<=ops.size from r) t,show max (j+1) (vw Hs b ops.size)=vw Hs b ops.size by omega];rw[<-A];refine(mw k.mono J λi bi bn=>?_).symm;have de:=f.JY b;have ef:=HH Hs b ops.size;have R:b<(Hs i).size:=(ll k.mono t J).2 J;refine k.same J R λC Y=>?_;have hl:=(f.kZ i b C R Y).2 J;rw[bS i C J]at hl;grind
    ·exact D.ext.kept d.ja (f.st.lt l) (.inr ⟨b,d,J,l,rfl⟩)
  ·rcases ae b d e with⟨x,l⟩|⟨x,l⟩<;>rcases ae L B aE with⟨cp,av⟩|⟨cp,av⟩
   ·exact S.inj b L d B l av hl
   ·exact absurd (by rw[hl];grind) (S.apart b d l)
   ·exact absurd (by rw[<-hl];grind) (S.apart L B av)
   ·exact f.st.inj b L d B l av hl
  ·rcases ae b d e with⟨x,l⟩|⟨x,l⟩
   ·exact S.low b d l
   ·exact f.st.low b d l
  ·rcases ae b d e with⟨x,l⟩|⟨x,l⟩
   ·exact S.apart b d l (by rw[bu];grind)
   ·exact f.st.apart b d l hr
  ·exact bD (f.st.rE p hr) D.ext.size
 have dn:fI al.heap N v c:=ca.conv (ca.low b8) bN bH;refine⟨N,f.cl.set F,by rw[Act.qB];exact f.size,by rw[Act.qC];exact f.OI,λ_=>r,λi b b7 _ _=>?_,dm,f.CN k F aN dn di,λb=>?_,
  f.ext.trans ⟨aN,D.os,D.tape,D.output⟩⟩
 ·rcases Nat.lt_trichotomy i j with h|h|h
  ·rw[getD_set_ne false J,bT i b7 h];grind
  ·subst h;rw[wn f.cl F];simp
  ·rw[getD_set_ne false J,bS i b7 h];grind
 ·by_cases x:b<(Hs (j+1)).size
  ·rw[a6 b x];have t:b<(Hs ops.size).size:=J;by_cases l:b<(Hs j).size
   ·have:G b≠none↔μ b≠none:=by
     constructor
     ·intro e;rcases cb.2.1 b e with g|g
      ·rwa[bB b l]at g
      ·omega
     ·intro e;have⟨d,I⟩:=Option.ne_none_iff_exists'.1 e;have⟨B,aA,_⟩:=D.ext.mu b d (ap b d l I);rw[aA];simp
    rw[this,f.UL];refine or_congr Iff.rfl ⟨λ⟨y,z,M⟩=>⟨y,z,?_⟩,λ⟨y,z,M⟩=>⟨y,z,?_⟩⟩
    ·rw[k.BK r z y J];exact M
    ·rw[k.BK r z y J]at M;exact M
   ·refine⟨λ_=> .inr ⟨J,t,?_⟩,λ_=>cb.2.2 b J x⟩;rw[(k.made r t).2 ⟨J,x⟩];exact wn f.cl F
  ·rw[bC b J,f.UL];refine or_congr Iff.rfl ⟨λ⟨y,z,M⟩=>⟨y,z,?_⟩,λ⟨y,z,M⟩=>⟨y,z,?_⟩⟩
   ·rw[k.BK r z y J];exact M
   ·rw[k.BK r z y J]at M;exact M
def Po{e l f:H}{B:Ty}{c z n A:Nat}{p:T}(b:e.store B (.ptr c z n A) p=some l)(S:e.fG.length=e.size)(U:f.fG.length=f.size)(F:f.get c=e.get c):
 l.size=e.size/\(∀g,g≠c->l.get g=e.get g)/\fh e l c=false/\c<e.size/\∃d,f.store B (.ptr c z n A) p=some d/\d.size=f.size/\d.fG.length=d.size/\d.get c=l.get c/\∀g,g≠c->d.get g=f.get g:=by
 have b:gX (Nat.beq (kY p.cells) B.size) (dW (e.get c) λD=> @iX.rec (λ_=>aa H) (λu h r exact t k=>
  gX (Nat.beq h z) (@Bool.rec (λ_=>aa H) (dW (mM k n) λx=>dW (mK x A p.cells) λy=>dW (kO k n y) λs=>
   dW (iq (Nat.succ r)) λi=>e.put c ⟨u,h,i,exact,false,s⟩) none t)) D)=some l:=b
 have⟨V,b⟩:=dQ.1 b;replace b:=dI.1 b;obtain⟨⟨u,h,r,I,t,k⟩,v,b⟩:=b;have⟨W,b⟩:=dQ.1 b;cases t with
 |true=>grind
 |false=>
  replace b:=dI.1 b;obtain⟨x,X,b⟩:=b;replace b:=dI.1 b;obtain⟨y,Y,b⟩:=b;replace b:=dI.1 b;obtain⟨s,ae,b⟩:=b;replace b:=dI.1 b;obtain⟨i,G,b⟩:=b;have R:i=r+1:=by rw[iM]at G;grind
  have⟨p1,p2,p3,p4⟩:=Cg b S;have O:c<f.size:=H.fa (F.trans v);have C:∃d,f.put c ⟨u,h,i,I,false,s⟩=some d:=⟨_,H.wF.2 ⟨O,J,rfl⟩⟩;obtain⟨d,C⟩:=C;have⟨K,L,M,N⟩:=Cg C U;refine⟨p1,p4,?_,H.fa v,d,?_,K,L,by rw[M,p3],N⟩
  ·unfold fh;rw[v,p3];show Nat.beq r i=false;rw[R]
   grind [aF,Nat.beq]
  ·show gX (Nat.beq (kY p.cells) B.size) (dW (f.get c) λD=> @iX.rec (λ_=>aa H) (λu h r exact t k=>
    gX (Nat.beq h z) (@Bool.rec (λ_=>aa H) (dW (mM k n) λx=>dW (mK x A p.cells) λy=>dW (kO k n y) λs=>
     dW (iq (Nat.succ r)) λi=>f.put c ⟨u,h,i,exact,false,s⟩) none t)) D)=some d
   rw[F,v];simp_all
def Dr.Pp(r:Dr P cx cf base mask m ops E Hs ws ou){c:Nat}{k:Oper}(n:ops[c]? =some k)(F:py k.op=true)(O:pN mask ops E c):
 ∃e,WQ cx mask ops E c e/\e<(Hs c).size/\(Hs (c+1)).size=(Hs c).size/\(∀f,f≠e->(Hs (c+1)).get f=(Hs c).get f)/\fh (Hs c) (Hs (c+1)) e=false/\
  ∀d:H,d.fG.length=d.size->d.get e=(Hs c).get e->∃g,jr k.op cx mask (E c) d=some (.val .undef g)/\g.size=d.size/\g.fG.length=g.size/\g.get e=(Hs (c+1)).get e/\∀f,f≠e->g.get f=d.get f:=by
 obtain⟨ap,t,_,G⟩:=O;rw[n]at t;simp only[ar]at t;subst t;have D:c<ops.size:=(Array.getElem?_eq_some_iff.1 n).1;rcases nj (r.tr.step c _ n)with⟨R,_⟩|⟨_,h,b,_⟩
 ·rw[G]at R;grind
 ·cases u:k.op with
  |store x y z=>
   rw[u]at b;rcases b with b|⟨M,I,b,_⟩
   ·have b:(dW (cx.ty x) λp=>dW (fN cx mask (E c) y) λa=>dW (fN cx mask (E c) z) λh=>gX h.ir (dW ((Hs c).store p a h) λl=>some (lQ.val .undef l)))=some (.val h (Hs (c+1))):=b;replace b:=dI.1 b;obtain⟨p,K,b⟩:=b;replace b:=dI.1 b;obtain⟨S,A,b⟩:=b;replace b:=dI.1 b;obtain⟨av,L,b⟩:=b;have⟨X,b⟩:=dQ.1 b;replace b:=dI.1 b;obtain⟨l,B,b⟩:=b;simp only[ar,lQ.val.injEq]at b;obtain⟨rfl,rfl⟩:=b;cases S with
    |ptr e Y i an=>
     have C:∀d:H,d.fG.length=d.size->d.get e=(Hs c).get e->_:=λd v s=>Po B (r.wf c (bw D)) v s;have⟨T,U,V,W,_⟩:=C (Hs c) (r.wf c (bw D)) rfl;refine⟨e,⟨k,x,y,z,n,u,G,by rw[A];rfl⟩,W,T,U,V,λd v s=>?_⟩;have⟨_,_,_,_,g,ae,N⟩:=C d v s;refine⟨g,?_,N⟩;show(dW (cx.ty x) λp=>dW (fN cx mask (E c) y) λa=>dW (fN cx mask (E c) z) λh=>gX h.ir (dW (d.store p a h) λl=>some (lQ.val .undef l)))=_;rw[K,A,L];simp_all
    |_=>simp[H.store]at B
   ·exact absurd b (Du (λf al=>by grind) M I)
  |_=>rw[u]at F;simp[py]at F
def Inv.acp(g:Dr P cx cf base mask m ops E Hs ws ou)(i:Inv cx base mask m ops E Hs ws ou listed a w μ q)(k:Na ops listed j o)(b9:kC ops mask (E j) o.guard=some true)(C:py o.op=true)
 {F:T} (t:Fh cx cf mask (E j) (Hs j) o.op F (Hs (j+1))) (bX:(E j).dst mask o.dst F=some (E (j+1))):
 Ay P (λL ae=>∃G cy,Inv cx base mask m ops E Hs ws ou (listed.setIfInBounds j true) (a.put o.dst L) ae G cy) ((execOp a.eval o).run P w):=by
 have O:iG o.op=true:=by cases bB:o.op<;>rw[bB]at C<;>simp[py]at C<;>rfl
 have R:pN mask ops E j:=⟨o,k.op,O,b9⟩;have A:=k.lt;have⟨d,aN,M,b6,bH,b8,X⟩:=g.Pp k.op C R;have v:d<(Hs ops.size).size:=bD M (nI g.mono (bw A) (au _));have K:∀b,pN mask ops E b->b<j->fh (Hs b) (Hs (b+1)) d=false->listed.getD b false=true:=by
  intro b l x e;rcases g.tr.both j b d aN l x with h|h
  ·rw[e]at h;grind
  ·exact k.before b h
 have al:∀b,pN mask ops E b->j<b->fh (Hs b) (Hs (b+1)) d=false->listed.getD b false=false:=by
  intro b l x e;have a7:=l;obtain⟨cp,V,bi,_⟩:=a7;rcases g.FD j b o cp k.op V x with⟨_,h⟩|h
  ·have⟨y,aX,_,_,bN,_⟩:=g.Pp V (h O bi).2 l;have:y=d:=by
    rcases Nat.decEq y d with bu|rfl
    ·exfalso;have z:=bN d (bm bu);unfold fh at e;rw[z]at e;cases s:(Hs b).get d with
     |none=>rw[s]at e;grind
     |some n=>
      rw[s]at e;have e:Nat.beq n.ver n.ver=false:=e;simp at e
    ·rfl
   subst this;rcases g.tr.both b j y aX R x with h|h
   ·rw[b8]at h;grind
   ·exact k.behind b h
  ·exact k.behind b h
 have c7:vw Hs d ops.size<=j:=(ll g.mono v (bw A)).1 M;have bS:(PH Hs ops.size q).get d=(Hs j).get d:=by
  rw[g.xY (i.JY _) v];have dd:=i.JY d;rcases Nat.le_total (max (q d) (vw Hs d ops.size)) j with bs|a8
  ·refine(mw g.mono bs λb S U=>?_).symm;have r:d<(Hs b).size:=(ll g.mono v J).2 J;refine g.same J r λl e=>?_;have:=(i.kZ b d l r e).1 (K b l U e);omega
  ·refine mw g.mono a8 λb S U=>?_;have r:d<(Hs b).size:=(ll g.mono v J).2 J;refine g.same J r λl e=>?_;have hl:=(i.kZ b d l r e).2 J;rcases Nat.eq_or_lt_of_le S with h|h
   ·subst h;rw[k.not]at hl;grind
   grind
 have⟨c6,W,an,c4,ap,av⟩:=X (PH Hs ops.size q) (Gq _ _ _) bS;have b7:F= .undef:=by
  have⟨c9,bC,_⟩:=X (Hs j) (g.wf j (bw A)) rfl;rcases t with t|⟨f,c1,t,_⟩
  ·rw[bC]at t;grind
  grind
 subst b7;have a6:∀n∈o.op.operands,fN cx mask (E j) n=fN cx mask (C1 mask (E j) (o.looksAt ops)) n:=λn t=>AQ t;rw[AR a6]at W;refine((zG g.jq i.st (i.PE g k) W).ran).mono λL ae s=>?_;obtain⟨G,ca,Y,D,cb⟩:=s;refine⟨G,λc=>if c=d then j+1 else q c,i.cl.set k,by rw[Act.qB];exact i.size,by rw[Act.qC];exact i.OI,λc=>?_,λb c B r e=>?_,
  Y.congr (Gq _ _ _) λc I u=>?_,i.CN g k D.ext ca bX,i.HC g k b6 λc=>⟨λu=>?_,λu=>?_⟩,i.ext.trans D⟩
 ·show(if c=d then j+1 else q c)<=ops.size;have:=i.JY c;split<;>omega
 ·show _↔b<(if c=d then j+1 else q c);by_cases p:c=d
  ·subst p;rw[aq rfl];rcases Nat.lt_trichotomy b j with h|h|h
   ·rw[getD_set_ne false J,K b B h e];grind
   ·subst h;rw[wn i.cl k];simp
   ·rw[getD_set_ne false J,al b B h e];grind
  ·rw[ao p];have bn:j≠b:=by
    rintro rfl;have z:=bH c p;unfold fh at e;rw[z]at e;cases s:(Hs j).get c with
    |none=>rw[s]at e;grind
    |some n=>
     rw[s]at e;have e:Nat.beq n.ver n.ver=false:=e;simp at e
   rw[getD_set_ne false bn];exact i.kZ b c B r e
 ·have N:c<(Hs ops.size).size:=by
   have:=Y.fa u;rw[an]at this;exact this
  have bT:(if c=d then j+1 else q c)<=ops.size:=by have:=i.JY c;split<;>omega
  rw[g.xY (q:=λc=>if c=d then j+1 else q c) bT N];by_cases p:c=d
  ·subst p;rw[aq rfl,ap,show max (j+1) (vw Hs c ops.size)=j+1 by omega]
  ·rw[ao p,av c p,g.xY (i.JY _) N]
 ·rcases cb.2.1 c u with h|h
  ·exact h
  omega
 ·have⟨I,aA⟩:=Option.ne_none_iff_exists'.1 u;have⟨cL,aE,_⟩:=D.ext.mu c I aA;rw[aE];simp
def Inv.step(c:Dr P cx cf base mask m ops E Hs ws ou)(d:Inv cx base mask m ops E Hs ws ou listed a w μ q)(z:j∈Region.ready .any ops listed):
 wpOp P ops Q j (λx i=>∃B A,Inv cx base mask m ops E Hs ws ou (listed.setIfInBounds j true) x i B A) a w:=by
 have⟨o,b⟩:=rdy d.cl z;unfold wpOp;simp only[b.op];rcases nj (c.tr.step j o b.op)with⟨e,f,y⟩|⟨e,C,p,f⟩
 ·simp only[d.want c b e,cF,bE];exact⟨μ,q,d.skip c b e f y⟩
 ·simp only[d.want c b e,bF];left;cases g:iG o.op with
  |false=>exact Ay.wp (d.quiet c b e g p f) λr i k=>by grind
  |true=>
   cases n:py o.op with
   |true=>exact Ay.wp (d.acp c b e n p f) λr i k=>k
   |false=>
    refine Ay.wp (d.afU c b e g (λu v t s=>⟨λl=>?_,λl=>?_⟩) p f) λr i k=>by grind
    ·rcases c.FD u j v o t b.op l with⟨_,h⟩|h
     ·have:=(h s g).2;rw[n]at this;grind
     omega
    ·rcases c.FD j u o v b.op t l with⟨_,h⟩|h
     ·have:=(h g s).1;rw[n]at this;grind
     omega
def unl(listed:af Bool):Nat:=(listed.toList.filter λb=> !b).length
def Lf:∀(b:List Bool) (j:Nat),b[j]? =some false->((b.set j true).filter λc=> !c).length+1=(b.filter λc=> !c).length:=by
 intro b;induction b with
 |nil=>simp
 |cons f b e=>
  intro j d;cases j with
  |zero=>grind
  |succ j=>
   simp at d;have:=e j d;cases f<;>simp[cI]<;>omega
def LU(b:listed.getD j true=false):unl (listed.setIfInBounds j true)+1=unl listed:=by
 have c:j<listed.size:=by
  grind
 unfold unl;rw[Array.toList_setIfInBounds];simp_all[Lf]
def LG(d:Dr P cx cf base mask m ops E Hs ws ou)(e:Cl ops listed)(hr:Region.ready .any ops listed=[]):∀b,b<ops.size->listed.getD b false=true:=by
 intro b;induction b using Nat.strongRecOn with
 |_ b n=>
  intro i;cases k:listed.getD b false with
  |true=>rfl
  |false=>
   have c:ops[b]? =some ops[b]:=dy;have:b∈Region.ready .any ops listed:=by
    refine mem_ready.2 ⟨?_,ops[b],c,λf h g=>?_⟩
    ·have:b<listed.size:=by rw[e.size];exact i
     grind
    ·have l:=d.back b _ c f h g
     grind
   rw[hr]at this
   grind
def Inv.ac3(c:Dr P cx cf base mask m ops E Hs ws ou)(f:Inv cx base mask m ops E Hs ws ou listed a w μ q)(p:∀g,g<ops.size->listed.getD g false=true):
 St cx base w.heap μ (Hs ops.size)/\kz w.heap μ mask (E ops.size) a.tmps/\yS ou μ (Hs 0).size (Hs ops.size).size:=by
 refine⟨f.st.congr (c.wf _ (au _)) λd N r=>?_,λs h K=>f.Pu s h ?_,?_⟩
 ·have u:=f.lt c r;rw[c.xY (f.JY _) u];have R:=HH Hs d ops.size;have:=f.JY d;refine mw c.mono J λg T y=>?_;have t:d<(Hs g).size:=(ll c.mono u J).2 J;refine c.same y t λF I=>?_;have:=(f.kZ g d F t I).1 (p g y);omega
 ·
  have M:∀b,sO ops listed s ops.size+b<=ops.size->(E (sO ops listed s ops.size+b)).get mask s=(E (sO ops listed s ops.size)).get mask s:=by
   intro b;induction b with
   |zero=>simp
   |succ b L=>
    intro S;have x:sO ops listed s ops.size+b<ops.size:=J;have z:ops[sO ops listed s ops.size+b]? =some ops[sO ops listed s ops.size+b]:=dy;rw[<-L J];have A:ops[sO ops listed s ops.size+b].dst≠some s:=by
     intro D;have:=KV (n:=ops.size) x (p _ x) (by rw[z];exact D);omega
    have V:∀h i,(E (sO ops listed s ops.size+b)).dst mask ops[sO ops listed s ops.size+b].dst h=some i->i.get mask s=(E (sO ops listed s ops.size+b)).get mask s:=by
     intro h i e;cases v:ops[sO ops listed s ops.size+b].dst with
     |none=>rw[v]at e;have e:some _=some i:=e;simp only[ar]at e;rw[e]
     |some B=>
      rw[v]at e A;have G:s≠B:=λC=>A (by rw[C]);rw[Env.Cn (show Env.set mask _ B h=some i from e) s,ao G]
    rcases nj (c.tr.step _ _ z)with⟨_,e,_⟩|⟨_,h,_,e⟩
    ·grind
    grind
  have U:=Yb (ops:=ops) (listed:=listed) (s:=s) ops.size;have:=M (ops.size-sO ops listed s ops.size) J;rw[show sO ops listed s ops.size+(ops.size-sO ops listed s ops.size)=ops.size by omega]at this;rw[<-this];exact K
 ·refine⟨nI c.mono (aw _) (au _),λd r=>?_,λd k l=>?_⟩
  ·rcases(f.UL d).1 r with O|⟨k,l,_⟩
   ·grind
   omega
  ·refine(f.UL d).2 (.inr ⟨k,l,p _ ?_⟩);have:=c.cr0 l k;have:=HH Hs d ops.size;omega
def OV(f:Dr P cx cf base mask m ops E Hs ws ou)
 (p:∀a w μ,St cx base w.heap μ (Hs ops.size)->kz w.heap μ mask (E ops.size) a.tmps->yS ou μ (Hs 0).size (Hs ops.size).size->qg ws ou w μ->a.tmps.size=m->a.defers=[]->Q .normal a w):
 ∀(c:Nat) (listed:af Bool) (a:Act) (w:World),unl listed<=c->(∃μ q,Inv cx base mask m ops E Hs ws ou listed a w μ q)->wpAny P .any ops Q c listed a w:=by
 have fin:∀(listed:af Bool) (a:Act) (w:World),(∃μ q,Inv cx base mask m ops E Hs ws ou listed a w μ q)->Region.ready .any ops listed=[]->Q .normal a w:=by
  rintro listed a w ⟨μ,q,b⟩ hr;have⟨k,l,n⟩:=b.ac3 f (LG f b.cl hr);exact p a w μ k l n b.ext b.size b.OI
 intro c;induction c with
 |zero=>
  intro listed a w r d;have hr:Region.ready .any ops listed=[]:=by
   cases hr:Region.ready .any ops listed with
   |nil=>rfl
   |cons g u=>
    have e:g∈Region.ready .any ops listed:=by rw[hr];simp
    have:=LU (mem_ready.1 e).1;omega
  exact⟨hr,fin listed a w d hr⟩
 |succ c s=>
  intro listed a w r d;refine⟨λhr=>fin listed a w d hr,λg e=>?_⟩;obtain⟨μ,q,b⟩:=d;have:=LU (mem_ready.1 e).1;exact wpOp_mono (λh t i=>s _ h t J i) (b.step f e)
theorem chain{n:World}{p:Mu}{h:H}{u:Env}{g c:H}{f:Env}(jq:jg P cx)(t:nY P cx cf)(v:Gs m ops){l:Nat}(y:ops[l]? =some o)(K:lJ cx cf mask ops u g o=some (f,c))
 (r:t7 cx base mask m n p h u g a w):(∃B e,t7 cx base mask m n p h f c B e)/\lr g c:=by
 have A:=r;obtain⟨μ,b,d,M,C,D,x,O⟩:=A;rcases nj K with⟨L,k,rfl⟩|⟨L,R,z,k⟩
 ·exact⟨⟨_,w,μ,b,kz.put d .undef (λb i=>by rw[x];exact v l o b y i) k,M,C,D,by rw[Act.qB];exact x,by rw[Act.qC];omega⟩,lr.refl b.wf⟩
 ·have hr:=D2 (P:=P) jq t b d z;have⟨s,e,G⟩:=hr.some;have F:Ay P (λs e=>t7 cx base mask m n p h f c (a.put o.dst s) e) ((execOp a.eval o).run P w):=
   r.after (λb i=>v l o b y i) k λbase μ b d=>D2 jq t b d z
  have⟨N,S,I⟩:=F.some;exact⟨⟨_,_,I⟩,G.2⟩
def Ln(b7:P.follows .mixedOrders=true)(jq:jg P cx)(U:nY P cx cf):Tj P cx cf pB:=by
 intro base mask m dk dm de ops e bu h bC a w Q id W Y b9 bi bN;have⟨E,Hs,cy,c1,a6,R,c4,_,_,c6,c7,_,cL⟩:=EC ops.toList 0 ⟨[],[]⟩ e bu h bC (λt=>by simp) b9;simp only[Nat.zero_add,cJ]at a6 R;have a7:Trace cx cf mask ops E Hs:=⟨λb o k=>c4 b o (aw _) k,λb B c u v A=>c6 b B c (aw _) u v A,λb B c u v A=>c7 b B c (aw _) u v A,λb B c u v A=>cL b B c (aw _) u v A⟩;obtain⟨ou,p,r,x,bs,g,an,ae⟩:=bi;subst cy c1;have K:∀b,b<=ops.size->∃L G,t7 cx base mask m w ou (Hs 0) (E b) (Hs b) L G:=by
  intro b;induction b with
  |zero=>intro _;exact⟨a,w,ou,p,r,qg.refl _ _,yS.refl _ _,lr.refl p.wf,an,ae⟩
  |succ b O=>
   intro f;have⟨a1,I,T⟩:=O J;have k:ops[b]? =some ops[b]:=dy;exact(chain jq U Y k (a7.step b _ k) T).1
 have V:∀b,b<ops.size->lr (Hs b) (Hs (b+1)):=by
  intro b f;have⟨a1,I,T⟩:=K b J;have k:ops[b]? =some ops[b]:=dy
  grind [chain]
 have D:Dr P cx cf base mask m ops E Hs {w with drawn:=w.drawn+1} ou:=by
  refine⟨jq,U,Y,a7,p,λi j di cp bS b6 bT=>Jr W bS b6 bT,λj o k=>Lo W k,λb f sl C n=>?_,λb f c y d av C n=>?_,V,λb f=>?_⟩
  ·have⟨a1,I,S,s,r1,_⟩:=K b f;exact(r1 sl C n).low λc l d=>s.fa d
  ·have⟨a1,I,S,s,r1,c9,bn,_⟩:=K b f;have bX:S c≠none:=by
    rcases d with d|d
    ·have⟨l,M⟩:=Option.ne_none_iff_exists'.1 d;have⟨dd,bH,_⟩:=c9.ext.mu c l M;rw[bH];simp
    ·exact bn.2.2 c d (H.fa av)
   have⟨l,M⟩:=Option.ne_none_iff_exists'.1 bX;have⟨z,N,b8⟩:=s.box c l M;rw[av]at N;simp only[ar]at N;subst N;exact b8.low (λc l d=>s.fa d) C n
  ·have⟨a1,I,S,s,_⟩:=K b f;exact s.wf
 have bB:∀b,b<=ops.size->lr (Hs 0) (Hs b):=by
  intro b;induction b with
  |zero=>intro _;exact lr.refl p.wf
  |succ b O=>intro f;exact(O J).trans (V b J)
 refine wp_region_any b7 (OV D (λL G a8 aA aE aN F ca cb=>?_) ops.size _ a _ (by simp[unl]) ⟨ou,λ_=>0,?_⟩)
 ·rw[a6]at aE;rw[R]at aA aN;have aX:qg w ou G a8:=⟨F.ext,F.os,F.tape,F.output⟩;exact bN L G ⟨a8,aA,aE,x.trans aX,bs.trans (hp:=w.heap) aN aX.ext,by have:=bB ops.size (au _);rw[R]at this;exact g.trans this,ca,cb⟩
 ·have ap:∀b,(Array.replicate ops.size false).getD b false=false:=by
   intro b;rcases aQ b ops.size with h|h<;>simp[h]
  refine⟨⟨dy,λj cp _ hl=>?_⟩,an,ae,λ_=>aw _,λb c _ _ _=>?_,?_,λsl C n=>?_,λc=>?_,⟨Ext.refl _ _,rfl,rfl,rfl⟩⟩
  ·rw[ap]at hl;grind
  ·rw[ap];simp
  ·refine p.congr (Gq _ _ _) λc l d=>?_;have al:=p.fa d;have X:c<(Hs ops.size).size:=bD al (nI D.mono (aw _) (au _));rw[D.xY (q:=λ_=>0) (aw _) X];have:vw Hs c ops.size<=0:=(ll D.mono X (aw _)).1 al;rw[show max 0 (vw Hs c ops.size)=0 by omega]
  ·have:sO ops (Array.replicate ops.size false) sl ops.size=0:=by
    grind [Array.replicate,zQ]
   rw[this]at n;exact r sl C n
  grind
end
end
section
section
variable {P:ai}{cx:Ctx}{cf:je}{base mask m:Nat}{w0 w:World}{μ0 μ:Mu}{h0 h h':H}{e e':Env}{a:Act}
def AS{d:List T}{cs:af am}{g:af Obj}(b:gY g μ d cs.toList):fI g μ (jS d) (if h:cs.size=1 then cs[0]else .tuple cs):=by
 have c:∀(j:cs.size≠1),fI g μ (.tuple d) (if h:cs.size=1 then cs[0]else .tuple cs):=by
  intro j;rw[dif_neg j];exact .tuple d cs (by simpa using b.1.symm) λn i l=>by simpa[cg,List.getD]using b.2 n i l
 have f:=b.1
 match d,b,f,c with
 | [],b,f,c=>exact c (by grind)
 | [i],b,f,c=>
  have k:cs.size=1:=by grind
  rw[dif_pos k];have:=b.2 0 i dy
  grind [List.getD,jS]
 |o::p::d,b,f,c=>exact c (by grind)
def qx(c:af am):ResultVar->Sem am
 | .tmp b=>pure (c.getD b Go.undef)
 | .cell d b=>do loadVar b (<-asAddr (c.getD d Go.undef))
def CU(c:Func)(d:af am):results c d=(do let b<-c.results.mapM (qx d);pure (if h:b.size=1 then b[0]else .tuple b)):=by
 unfold results;congr 1
def Gw(jq:jg P cx)(E:St cx base w.heap μ h)(r:kz w.heap μ mask e a.tmps):∀(g:List ResultVar) (k:List T),nq cx mask e h g=some k->
 ∃d:List am,gY w.heap μ k d/\(g.mapM (qx a.tmps)).run P w= .ok d w:=by
 intro g;induction g with
 |nil=>
  intro k b;have b:some []=some k:=b;simp_all[ar,gY.nil]
 |cons n g D=>
  intro k b;unfold nq at b;rw[jO]at b;replace b:=dI.1 b;obtain⟨j,c,b⟩:=b;replace b:=dI.1 b;obtain⟨s,C,b⟩:=b;simp only[ar]at b;subst b;have⟨d,x,A⟩:=D s C;have q:∀f,(qx a.tmps n).run P w= .ok f w->fI w.heap μ j f->∃d:List am,gY w.heap μ (j::s) d/\((n::g).mapM (qx a.tmps)).run P w= .ok d w:=by
   intro f y hr;refine⟨f::d,gY.cons hr x,?_⟩;rw[List.mapM_cons,Sem.run_bind,y,Result.andThen_ok,Sem.run_bind,A,Result.andThen_ok,Sem.run_pure]
  cases n with
  |tmp i=>
   have c:e.get mask i=some j:=c;exact q _ (by rfl) (r i j c)
  |cell p i=>
   have c:(dW (e.get mask p) λl=>dW (cx.ty i) λo=>h.load o l)=some j:=c;replace c:=dI.1 c;obtain⟨l,z,c⟩:=c;replace c:=dI.1 c;obtain⟨o,B,c⟩:=c;have⟨F,f,t,u,v⟩:=Dz (jq.ty i o B) E (r p l z) c;exact q f (by simp only[qx,t,asAddr,Sem.run_bind,Sem.run_pure,Result.andThen_ok,u]) v
def ED(jq:jg P cx)(j:St cx base w.heap μ h)(i:kz w.heap μ mask e a.tmps){b:Func}{d:List T}(f:nq cx mask e h b.results.toList=some d):
 ∃c,(results b a.tmps).run P w= .ok c w/\fI w.heap μ (jS d) c:=by
 have⟨cs,k,g⟩:=Gw (P:=P) jq j i _ _ f;refine⟨_,?_,AS (cs:=cs.toArray) J⟩;rw[CU];have:b.results.mapM (qx a.tmps)=List.toArray<$>b.results.toList.mapM (qx a.tmps):=by
  rw[<-List.mapM_toArray]
 rw[this,Sem.run_bind,Sem.run_map,g];rfl
def EK:∀(f d:Nat) (k:List T) (o:fZ),mP mask f d k=some o->∀n j,dL o n=some j->(∃c,n=d+c/\c<f/\(k[c]? =some j\/(k.length<=c/\j= .undef))):=by
 intro f;induction f with
 |zero=>
  intro d k o b n j g;have b:some fZ.nil=some o:=b;simp only[ar]at b;subst b
  grind [dL]
 |succ f u=>
  intro d k o b n j g;have b:(dW (iq (Nat.succ d)) λp=> @List.rec T (λ_=>aa fZ)
   (@Bool.rec (λ_=>aa fZ) (mP mask f p []) (dW (mP mask f p []) λi=>some (.cons d .undef i)) (kq mask d))
   (λa l _=>dW (mP mask f p l) λi=>some (.cons d a i)) k)=some o:=b
  simp only[iM,ed]at b;have q:∀{l:List T} {i:fZ},mP mask f (d+1) l=some i->dL i n=some j->∃c,n=d+(c+1)/\c<f/\(l[c]? =some j\/(l.length<=c/\j= .undef)):=by
   grind
  cases k with
  |nil=>
   simp only at b;cases hl:kq mask d with
   |false=>
    rw[hl]at b;have⟨c,r,s,t⟩:=q b g;simp_all
   |true=>
    rw[hl]at b;replace b:=dI.1 b;obtain⟨i,ht,b⟩:=b;simp only[ar]at b;subst b;rw[nM]at g;split at g
    ·simp_all
    ·have⟨c,r,s,t⟩:=q ht g;simp_all
  |cons v l=>
   simp only at b;replace b:=dI.1 b;obtain⟨i,ht,b⟩:=b;simp only[ar]at b;subst b;rw[nM]at g;split at g
   ·simp_all
   ·have⟨c,r,s,t⟩:=q ht g;simp_all
def K5{n:Nat}{d:List T}{i:fZ}{l:af Obj}{c:af am}(k:gY l μ d c.toList)(o:mP mask n 0 d=some i):
 kz l μ mask ⟨i,.nil⟩ (c++Array.replicate (n-c.size) Go.undef):=by
 intro b j f;have f: @Bool.rec (λ_=>aa T) (dL .nil b) (dL i b) (kq mask b)=some j:=f;cases hl:kq mask b with
 |false=>rw[hl]at f;grind [dL]
 |true=>
  rw[hl]at f;have⟨q,r,s,g⟩:=EK n 0 d i o b j f;have p:b=q:=J;subst p;have t:d.length=c.size:=by simpa using k.1
  rcases g with g|⟨g,rfl⟩
  ·have u:b<d.length:=by
    grind
   have hr:=k.2 b j g;have:(c++Array.replicate (n-c.size) Go.undef).getD b Go.undef=c.toList.getD b Go.undef:=by
    rw[cg,Array.getElem?_append_left J];simp
   rw[this];exact hr
  ·have:(c++Array.replicate (n-c.size) Go.undef).getD b Go.undef=Go.undef:=by
    rw[cg,Array.getElem?_append_right J]
    grind
   rw[this];exact .undef
def IN{m g:Nat}{f:af Oper->Bool}(p:m<=g):∀(b:Code),mV m f b=true->mV g f b=true:=by
 intro b;induction b with
 |region id q o=>
  intro h;simp only[mV,ax]at h|-;refine⟨?_,h.2⟩;have d:=h.1;unfold UK at d|-;rw[bW]at d|-;intro i j;have:=d i j
  grind [aJ]
 |seq a c l n=>simp_all[ax,mV]
 |cond i a c l n=>simp_all[ax,mV]
 |block id c k=>grind [mV]
 |loop c k=>grind [mV]
 |_=>intro _;rfl
def Er(P:ai)(cx:Ctx)(f:aj)(g:Prim):Prop:=
 ∀b h d h',Da g b h=some (d,h')->∀base w μ (c:af am),St cx base w.heap μ h->gY w.heap μ b c.toList->Ay P (ry cx base w μ h d h') ((callFunc f c).run P w)
def x8(b:Fun):Bool:= !(b.fn.name== "runtime.NumGoroutine")&&match b.fn.body with
 |none=>false
 |some c=>mV b.fn.ntmps pB c
def oG{c:aj}{b:Func}{f:Code}(i:P.funcs[c]? =some b)(k:(b.name== "runtime.NumGoroutine")=false)(g:b.body=some f)(d:af am)(w:World):
 (callFunc c d).run P w= .ok (.enter c d) w:=by
 have j:¬b.name= "runtime.NumGoroutine" :=by grind
 simp[callFunc,i,j,g]
theorem LB(V:P.follows .mixedOrders=true)(jq:jg P cx)(z:nY P cx cf){r:aj}{b:Fun}(C:P.funcs[r]? =some b.fn)(g:x8 b=true){B:Nat}{x:List T}{o:T}
 (c:tL cx cf B b.fn b.mask b.kU x h=some (o,h')) (F:St cx base w.heap μ h) {f:af am} (S:gY w.heap μ x f.toList):
 Ay P (ry cx base w μ h o h') ((callFunc r f).run P w):=by
 unfold x8 at g;simp only[ax,bK]at g;obtain⟨W,g⟩:=g;unfold tL at c;cases l:b.fn.body with
 |none=>rw[l]at g;grind
 |some y=>
  rw[l]at g c;simp only at g;obtain⟨d,t,k⟩:=h;simp only at c;replace c:=dI.1 c;obtain⟨a6,al,c⟩:=c;replace c:=dI.1 c;obtain⟨⟨q,A,s⟩,U,c⟩:=c;simp only[ma]at c;have j:(q= .normal\/q= .ret)/\(dW (nq cx b.mask A s b.fn.results.toList) λI=>DA b.kU d t (jS I) s)=some (o,h'):=by
   cases q with
   |normal=>grind
   |exit i=>grind
   |ret=>grind
  obtain⟨ap,j⟩:=j;replace j:=dI.1 j;obtain⟨I,an,j⟩:=j;rw[oG C W l];show Calls P r f w _;refine calls_of_wp C l ?_;have G:St cx base w.heap μ ⟨d,d,k⟩:=F.L5 d;have X:=K5 (mask:=b.mask) (n:=b.fn.ntmps) S al;have K:t7 cx base b.mask (f.size+(b.fn.ntmps-f.size)) w μ ⟨d,d,k⟩ ⟨a6,.nil⟩ ⟨d,d,k⟩ {tmps:=f++Array.replicate (b.fn.ntmps-f.size) Go.undef,defers:=[]} w:=
   ⟨μ,G,X,qg.refl _ _,yS.refl _ _,lr.refl G.wf,dy,rfl⟩
  refine Lt (m:=f.size+(b.fn.ntmps-f.size)) (w0:=w) (μ0:=μ) (h0:=⟨d,d,k⟩) (base:=base) (mask:=b.mask) jq z (Ln V jq z) B y (IN J y g) _ _ q A s U _ _ _ K λv u L=>?_;have E:v.defers=[]/\∃p,(results b.fn v.tmps).run P u= .ok p u/\ry cx base w μ ⟨d,t,k⟩ o h' p u:=by
   obtain⟨bi,D,av,aA,aE,aN,a8,aX⟩:=L;have⟨p,Y,ae⟩:=ED (P:=P) jq D av an;have⟨⟨a7,M,N,O,Q⟩,R⟩:=IZ (low0:=t) F D aN aA aE ae j;exact⟨aX,p,Y,⟨a7,M,N,O,Q⟩,R⟩
  rcases ap with rfl|rfl
  ·exact E
  ·exact E
