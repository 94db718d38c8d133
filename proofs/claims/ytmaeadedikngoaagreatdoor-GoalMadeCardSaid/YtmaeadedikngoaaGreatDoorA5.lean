/- Texts TiEnv to TiDraw2. -/
import Derived.Test.YtmaeadedikngoaaGreatDoorA4
import Derived.Orders
set_option linter.unusedVariables false
set_option linter.unusedSimpArgs false
namespace Go.TI
noncomputable section
theorem mz(b:Nat)(d:T)(c:eZ)(a:Nat):dt (.cons b d c) a=if b=a then some d else dt c a:=by
 show @Bool.rec (λ_=>aa T) (dt c a) (some d) (Nat.beq b a)=_
 cases e:Nat.beq b a with
 |true=>have:=aC e;simp[this]
 |false=>have:=cJ e;simp[this]
theorem E1{l e:eZ}{c:Nat}{g:T}(a:kT l c g=some e)(f:Nat):dt e f=if f=c then some g else dt l f:=by
 induction l generalizing e with
 |nil=>
  have a:some (eZ.cons c g .nil)=some e:=a
  simp only[ar]at a;subst a
  rw[mz]
  by_cases b:c=f
  ·simp[b]
  ·simp[b,br b]
 |cons d m i o=>
  have a: @Bool.rec (λ_=>aa eZ) (dB (kT i c g) λj=>some (.cons d m j)) (some (.cons d g i)) (Nat.beq d c)=some e:=a
  cases h:Nat.beq d c with
  |true=>
   rw[h]at a
   have k:=aC h
   have a:some (eZ.cons d g i)=some e:=a
   simp only[ar]at a;subst a
   rw[mz,mz,k]
   by_cases b:c=f
   ·simp[b]
   ·simp[b,br b]
  |false=>
   rw[h]at a
   have k:=cJ h
   have a:(dB (kT i c g) λj=>some (eZ.cons d m j))=some e:=a
   obtain⟨j,ht,a⟩:=dj.1 a
   simp only[ar]at a;subst a
   rw[mz,mz,o ht]
   by_cases b:d=f
   ·have:f≠c:=λn=>k (b.trans n)
    simp[b,this]
   ·simp[b]
theorem Env.Ae{d:Nat}{m g:Env}{c:Nat}{f:T}(a:m.set d c f=some g)(b:Nat):g.get d b=if b=c then some f else m.get d b:=by
 obtain⟨l,k⟩:=m
 have a: @Bool.rec (λ_=>aa Env) (some ⟨l,.cons c f k⟩) (dB (kT l c f) λj=>some ⟨j,k⟩) (jJ d c)=some g:=a
 have get:∀(h i:eZ),(⟨h,i⟩:Env).get d b=if jJ d b=true then dt h b else dt i b:=by
  intro h i
  show @Bool.rec (λ_=>aa T) (dt i b) (dt h b) (jJ d b)=_
  cases jJ d b<;>rfl
 cases hl:jJ d c with
 |false=>
  rw[hl]at a
  have a:some (⟨l,.cons c f k⟩:Env)=some g:=a
  simp only[ar]at a;subst a
  rw[get,get,mz]
  by_cases e:b=c
  ·subst e;simp[hl]
  ·simp[e,br e]
 |true=>
  rw[hl]at a
  have a:(dB (kT l c f) λj=>some (⟨j,k⟩:Env))=some g:=a
  obtain⟨j,n,a⟩:=dj.1 a
  simp only[ar]at a;subst a
  rw[get,get,E1 n]
  by_cases e:b=c
  ·subst e;simp[hl]
  ·simp[e]
theorem jS.put{j:af Obj}{l:Mu}{g:Nat}{e f:Env}{h:Act}{d:aa Tmp}{k:T}{m:am}(o:jS j l g e h.tmps)(s:eg j l k m)(q:∀b,d=some b->b<h.tmps.size)
 (a:e.dst g d k=some f):jS j l g f (h.put d m).tmps:=by
 cases d with
 |none=>
  have a:some e=some f:=a
  simp only[ar]at a;subst a
  exact o
 |some b=>
  have a:e.set g b k=some f:=a
  intro p t c
  rw[Env.Ae a]at c
  have r:=q b rfl
  by_cases i:p=b
  ·subst i
   simp only[aY,ar]at c;subst c
   simpa[Act.put,aW,r]using s
  ·simp only[i,bm]at c
   have:=o p t c
   simpa[Act.put,aW,Array.getElem?_setIfInBounds_ne (br i)]using this
theorem Act.oU(a:Act)(b:aa Tmp)(c:am):(a.put b c).tmps.size=a.tmps.size:=by cases b<;>simp[Act.put]
theorem Act.oX(a:Act)(b:aa Tmp)(c:am):(a.put b c).defers=a.defers:=by cases b<;>rfl
theorem Ar{x:af Obj}{A:Mu}{l:Nat}{j:Env}{c:Act}{g:af Oper}{i:Oper}{d:Bool}(z:jS x A l j c.tmps)(v:∀(f:Nat) (b:Oper) t,g[f]? =some b->b.dst=some t->t<c.tmps.size)
 (a:jU g l j i.guard=some d):Region.wanted i (yielded g c.tmps)=d:=by
 unfold Region.wanted
 cases o:i.guard with
 |none=>
  rw[o]at a
  have a:some true=some d:=a
  simpa using a
 |some b=>
  obtain⟨f,n⟩:=b
  rw[o]at a
  have a:(dB (dB (dB (kW g.toList f) λi=>i.dst) λe=>j.get l e) λm=>
   match m with
   | .bool d=>some (@Bool.rec (λ_=>Bool) (@Bool.rec (λ_=>Bool) true false n) n d)
   |_=>some false)=some d:=a
  replace a:=dj.1 a;obtain⟨m,h,a⟩:=a
  replace h:=dj.1 h;obtain⟨e,k,h⟩:=h
  replace k:=dj.1 k;obtain⟨b,p,r⟩:=k
  rw[j9]at p
  have q:g[f]? =some b:=by simpa using p
  have w:=v f b e q r
  have s:=z e m h
  have y:((g[f]?).bind (·.dst)).bind (c.tmps[·]?)=some (c.tmps.getD e Go.undef):=by
   simp[q,r,aW,w]
  simp only[yielded,y]
  generalize c.tmps.getD e Go.undef=B at s
  cases s<;>simp only[ar]at a<;>first
   |(subst a;rfl)
   |skip
  rename_i u
  subst a
  cases u<;>cases n<;>rfl
def pK(cx:Ctx)(base:Nat)(w:World)(f:Mu)(h:H)(c:T)(h':H)(b:am)(d:World):Prop:=Tf cx base w f h.size c h' b d/\kv h h'
def mN(P:ai)(cx:Ctx)(cf:ir):Prop:=
 ∀f c h g h',cf f c h=some (g,h')->∀base w b (d:af am),St cx base w.heap b h->fI w.heap b c d.toList->xV P (pK cx base w b h g h') ((callFunc f d).run P w)
def rR(cx:Ctx)(base mask m:Nat)(w0:World)(μ0:Mu)(h0:H)(e:Env)(h:H)(a:Act)(w:World):Prop:=
 ∃b,St cx base w.heap b h/\jS w.heap b mask e a.tmps/\oI w0 μ0 w b/\wZ μ0 b h0.size h.size/\kv h0 h/\a.tmps.size=m/\a.defers=[]
section
variable {P:ai}{cx:Ctx}{cf:ir}{base mask m:Nat}{w0 w:World}{μ0:Mu}{h0 h h':H}{e e':Env}{a:Act}{ops:af Oper}{Q:Exit->Act->World->Prop}
def Dg(m:Nat)(ops:af Oper):Prop:=∀(d:Nat) (b:Oper) c,ops[d]? =some b->b.dst=some c->c<m
theorem rR.after(H:rR cx base mask m w0 μ0 h0 e h a w){d:aa Tmp}(r:∀b,d=some b->b<m){l:T}(u:e.dst mask d l=some e')
 {g:Result Next} (hr:∀base c,St cx base w.heap c h->jS w.heap c mask e a.tmps->xV P (pK cx base w c h l h') g):xV P (λi n=>rR cx base mask m w0 μ0 h0 e' h' (a.put d i) n) g:=by
 obtain⟨c,b,k,A,o,p,j,s⟩:=H
 refine(hr base c b k).mono λi n q=> ?_
 obtain⟨⟨B,v,x,f,y⟩,z⟩:=q
 refine⟨B,x,?_,A.trans f,o.trans (hp:=w.heap) y f.ext,p.trans z,by rw[Act.oU];exact j,by rw[Act.oX];exact s⟩
 exact jS.put (k.ext f.ext) v (λb t=>by rw[j];exact r b t) u
theorem Hq(iB:iG P cx)(G:mN P cx cf){n:Nat}{d:Oper}(s:ops[n]? =some d)(r:Dg m ops)(b:kK cx cf mask ops e h d=some (e',h'))
 (H:rR cx base mask m w0 μ0 h0 e h a w) {z:Act->World->Prop} (v:∀A o,rR cx base mask m w0 μ0 h0 e' h' A o->z A o):wpOp P ops Q n z a w:=by
 have E:=H
 obtain⟨t,c,f,V,I,J,x,M⟩:=E
 unfold wpOp
 simp only[s]
 replace b:=dj.1 b;obtain⟨U,R,b⟩:=b
 have D:=Ar f (λS T c N i=>by rw[x];exact r S T c N i) R
 cases U with
 |false=>
  have b:(dB (e.dst mask d.dst .undef) λe'=>some (e',h))=some (e',h'):=b
  replace b:=dj.1 b;obtain⟨C,l,b⟩:=b
  simp only[ar,ax]at b
  obtain⟨rfl,rfl⟩:=b
  simp only[D,ci,bm]
  refine v _ _ ⟨t,c,jS.put f .undef (λc i=>by rw[x];exact r n d c s i) l,V,I,J,by rw[Act.oU];exact x,by rw[Act.oX];exact M⟩
 |true=>
  simp only[D,aY]
  left
  have b:(dB (iO d.op cx mask e h) λu=> @kx.rec (λ_=>aa (Env×TI.H))
   (λg h'=>dB (e.dst mask d.dst g) λe'=>some (e',h'))
   (λq p=>dB (cf q p h) λf=>two f λg h'=>dB (e.dst mask d.dst g) λe'=>some (e',h')) u)=some (e',h'):=b
  replace b:=dj.1 b;obtain⟨u,y,b⟩:=b
  cases u with
  |val g j=>
   have b:(dB (e.dst mask d.dst g) λe'=>some (e',j))=some (e',h'):=b
   replace b:=dj.1 b;obtain⟨C,l,b⟩:=b
   simp only[ar,ax]at b
   obtain⟨rfl,rfl⟩:=b
   refine xV.wp (H.after (λc i=>r n d c s i) l (h':=j) λbase t c f=> ?_) (λB o k=>v _ _ k)
   exact((xm iB c f y).X9).mono λB o k=>⟨k,Np c.wf g j y⟩
  |«call» q p=>
   have b:(dB (cf q p h) λf=>two f λg h'=>dB (e.dst mask d.dst g) λe'=>some (e',h'))=some (e',h'):=b
   replace b:=dj.1 b;obtain⟨⟨g,j⟩,L,b⟩:=b
   simp only[jX]at b
   replace b:=dj.1 b;obtain⟨C,l,b⟩:=b
   simp only[ar,ax]at b
   obtain⟨rfl,rfl⟩:=b
   refine xV.wp (H.after (λc i=>r n d c s i) l (h':=j) λbase t c f=> ?_) (λB o k=>v _ _ k)
   obtain⟨_,F,K,O⟩:=Fi (P:=P) c f y
   rw[O]
   exact G q p h g j L base w t F c K
theorem Dm(iB:iG P cx)(n:mN P cx cf)(q:Dg m ops):∀(c:List Oper) (d:Nat) (e:Env) (h:H) (a:Act) (w:World),(∀g,c[g]? =ops[d+g]?)->
 j2 cx cf mask ops c e h=some (e',h')->rR cx base mask m w0 μ0 h0 e h a w->(∀f i,rR cx base mask m w0 μ0 h0 e' h' f i->Q .normal f i)->wpOps P ops Q (List.range' d c.length) a w:=by
 intro c
 induction c with
 |nil=>
  intro d e h a w _ b H j
  have b:some (e,h)=some (e',h'):=b
  simp only[ar,ax]at b
  obtain⟨rfl,rfl⟩:=b
  exact j a w H
 |cons k c t=>
  intro d e h a w hl b H j
  have b:(dB (kK cx cf mask ops e h k) λu=>two u λe' h'=>j2 cx cf mask ops c e' h')=some (e',h'):=b
  replace b:=dj.1 b;obtain⟨⟨o,p⟩,s,b⟩:=b
  simp only[jX]at b
  simp only[aZ,List.range'_succ]
  rw[wpOps_cons]
  have r:ops[d]? =some k:=by have:=hl 0;simpa using this.symm
  refine Hq iB n r q s H λf i l=>t (d+1) o p f i (λg=> ?_) b l j
  have:=hl (g+1)
  simp only[cZ]at this
  rw[this];congr 1;omega
def Qj(m:Nat)(ops:af Oper):Bool:=ops.toList.all λb=>match b.dst with|some c=>Nat.blt c m|none=>true
theorem Qi(b:Qj m ops=true):Dg m ops:=by
 intro g f i c d
 unfold Qj at b
 rw[cu]at b
 have:=b f (by simpa using Array.mem_of_getElem? c)
 rw[d]at this
 simpa[aG]using this
def lL(m:Nat)(nU:af Oper->Bool):Code->Bool
 | .region _ ops c=>Qj m ops&&(!c||nU ops)
 | .seq a b=>lL m nU a&&lL m nU b
 | .cond _ a b=>lL m nU a&&lL m nU b
 | .block _ b=>lL m nU b
 | .loop b=>lL m nU b
 |_=>true
def ZU:Ex->Exit
 | .normal=> .normal
 | .exit b=> .exit b
 | .ret=> .ret
def OX(P:ai)(cx:Ctx)(cf:ir)(nU:af Oper->Bool):Prop:=
 ∀(base mask m:Nat) (w0:World) (μ0:Mu) (h0:H) (ops:af Oper) (e e':Env) (h h':H) (a:Act) (w:World) (Q:Exit->Act->World->Prop) (id:Nat),nU ops=true->Dg m ops->
  jx cx cf mask ops ops.toList 0 ⟨[],[]⟩ e h=some (e',h')->rR cx base mask m w0 μ0 h0 e h a w->(∀b c,rR cx base mask m w0 μ0 h0 e' h' b c->Q .normal b c)->(Code.region id ops true).wp P Q a w
theorem rR.drop(H:rR cx base mask m w0 μ0 h0 e h a w):rR cx base mask m w0 μ0 h0 ⟨e.vars,.nil⟩ h a w:=by
 obtain⟨q,n,l,p,g,i,k,j⟩:=H
 refine⟨q,n,λb d c=>l b d ?_,p,g,i,k,j⟩
 obtain⟨f,o⟩:=e
 have c: @Bool.rec (λ_=>aa T) (dt .nil b) (dt f b) (jJ mask b)=some d:=c
 show @Bool.rec (λ_=>aa T) (dt o b) (dt f b) (jJ mask b)=some d
 cases hl:jJ mask b with
 |true=>rw[hl]at c;exact c
 |false=>rw[hl]at c;simp[dt]at c
def wpL(P:ai)(d:Code)(Q:Exit->Act->World->Prop)(a:Act)(w:World):Prop:=
 ∀(c:Frame) (g:List Item) (f:List Frame),∃e b i,Q e b i/\Arrives P (lone (c.at a (.code d:: .inLoop d::g)) f w) c g f e b i
theorem Ka{b:Code}(h:b.wp P (Exit.then (wpL P b Q) Q) a w):wpL P b Q a w:=by
 intro i k j
 obtain⟨e,f,g,d,c⟩:=h i (.inLoop b::k) j
 cases e with
 |normal=>
  obtain⟨n,l,q,p,o⟩:=d i k j
  exact⟨n,l,q,p,.of_steps (Steps.trans c (.one step_inLoop)) o⟩
 |exit id=>exact⟨_,f,g,d,.pass (x:= .inLoop b) rfl (λ_ _=> .inl (by simp)) c⟩
 |goto s=>exact⟨_,f,g,d,.pass (x:= .inLoop b) rfl (λ_ _=> .inl (by simp)) c⟩
 |ret=>exact⟨_,f,g,d,.pass (x:= .inLoop b) rfl (λ_ _=> .inl (by simp)) c⟩
 |panic r=>exact⟨_,f,g,d,.pass (x:= .inLoop b) rfl (λ_ _=> .inl (by simp)) c⟩
 |outgrown=>exact⟨_,f,g,d,.pass (x:= .inLoop b) rfl (λ_ _=> .inl (by simp)) c⟩
theorem J9{b:Code}(h:wpL P b Q a w):(Code.loop b).wp P Q a w:=by
 intro d j f
 obtain⟨e,c,k,i,g⟩:=h d j f
 exact⟨e,c,k,i,.of_steps (.one step_loop) g⟩
def aas(P:ai)(cx:Ctx)(base mask m:Nat)(w0:World)(μ0:Mu)(h0:H)(f:Code)(g:Env->H->Out):Prop:=
 ∀e h d e' h',g e h=some (d,e',h')->∀a w Q,rR cx base mask m w0 μ0 h0 e h a w->(∀b c,rR cx base mask m w0 μ0 h0 e' h' b c->Q (ZU d) b c)->f.wp P Q a w
theorem H5{p:Code}{j:Env->H->Out}(s:aas P cx base mask m w0 μ0 h0 p j):∀(f:Nat) (e:Env) (h:H) (c:Ex) (e':Env) (h':H),ni j f e h=some (c,e',h')->
 ∀a w Q,rR cx base mask m w0 μ0 h0 e h a w->(∀d g,rR cx base mask m w0 μ0 h0 e' h' d g->Q (ZU c) d g)->wpL P p Q a w:=by
 intro f
 induction f with
 |zero=>intro e h c e' h' b;simp[ni]at b
 |succ f t=>
  intro e h c e' h' b a w Q H n
  have b:(dB (j e h) λu=>three u λc e' h'=> @Ex.rec (λ_=>Out) (ni j f e' h') (λo=>some (.exit o,e',h')) (some (.ret,e',h')) c)=some (c,e',h'):=b
  replace b:=dj.1 b;obtain⟨⟨q,i,k⟩,r,b⟩:=b
  refine Ka (s e h q i k r a w _ H λd g l=> ?_)
  cases q with
  |normal=>
   have b:ni j f i k=some (c,e',h'):=b
   exact t i k c e' h' b d g Q l n
  |exit o=>
   have b:some (Ex.exit o,i,k)=some (c,e',h'):=b
   simp only[ar,ax]at b
   obtain⟨rfl,rfl,rfl⟩:=b
   exact n d g l
  |ret=>
   have b:some (Ex.ret,i,k)=some (c,e',h'):=b
   simp only[ar,ax]at b
   obtain⟨rfl,rfl,rfl⟩:=b
   exact n d g l
theorem IA(iB:iG P cx)(I:mN P cx cf){nU:af Oper->Bool}(J:OX P cx cf nU)(p:Nat):∀(s:Code),lL m nU s=true->aas P cx base mask m w0 μ0 h0 s (jy cx cf p mask s):=by
 intro s
 induction s with
 |skip=>
  intro _ e h c e' h' b a w Q H d
  have b:some (Ex.normal,e,h)=some (c,e',h'):=b
  simp only[ar,ax]at b
  obtain⟨rfl,rfl,rfl⟩:=b
  exact wp_skip (d a w H)
 |exit id=>
  intro _ e h c e' h' b a w Q H d
  have b:some (Ex.exit id,e,h)=some (c,e',h'):=b
  simp only[ar,ax]at b
  obtain⟨rfl,rfl,rfl⟩:=b
  exact wp_exit (d a w H)
 |ret=>
  intro _ e h c e' h' b a w Q H d
  have b:some (Ex.ret,e,h)=some (c,e',h'):=b
  simp only[ar,ax]at b
  obtain⟨rfl,rfl,rfl⟩:=b
  exact wp_ret (d a w H)
 |region id ops K=>
  intro f e h c e' h' b a w Q H d
  simp only[lL,ay]at f
  have F:=Qi f.1
  have n:=H.drop
  obtain⟨D,O⟩:=e
  cases K with
  |false=>
   have b:(dB (j2 cx cf mask ops ops.toList ⟨D,.nil⟩ h) λo=>two o λe' h'=>some (Ex.normal,(⟨e'.vars,.nil⟩:Env),h'))=some (c,e',h'):=b
   replace b:=dj.1 b;obtain⟨⟨k,j⟩,q,b⟩:=b
   simp only[jX,ar,ax]at b
   obtain⟨rfl,rfl,rfl⟩:=b
   refine wp_region ?_
   rw[List.range_eq_range']
   have:=Dm (Q:=Q) iB I F ops.toList 0 ⟨D,.nil⟩ h a w (λN=>by simp) q n λg i x=>d g i x.drop
   simpa using this
  |true=>
   have b:(dB (jx cx cf mask ops ops.toList 0 ⟨[],[]⟩ ⟨D,.nil⟩ h) λo=>two o λe' h'=>some (Ex.normal,(⟨e'.vars,.nil⟩:Env),h'))=some (c,e',h'):=b
   replace b:=dj.1 b;obtain⟨⟨k,j⟩,q,b⟩:=b
   simp only[jX,ar,ax]at b
   obtain⟨rfl,rfl,rfl⟩:=b
   exact J base mask m w0 μ0 h0 ops _ _ h j a w Q id (by simpa using f.2) F q n λg i x=>d g i x.drop
 |seq r y A B=>
  intro f e h c e' h' b a w Q H d
  simp only[lL,ay]at f
  have b:(dB (jy cx cf p mask r e h) λo=>three o λc e' h'=> @Ex.rec (λ_=>Out) (jy cx cf p mask y e' h') (λl=>some (.exit l,e',h')) (some (.ret,e',h')) c)=some (c,e',h'):=b
  replace b:=dj.1 b;obtain⟨⟨t,k,j⟩,q,b⟩:=b
  refine wp_seq (A f.1 e h t k j q a w _ H λg i n=> ?_)
  cases t with
  |normal=>exact B f.2 k j c e' h' b g i Q n d
  |exit l=>
   have b:some (Ex.exit l,k,j)=some (c,e',h'):=b
   simp only[ar,ax]at b
   obtain⟨rfl,rfl,rfl⟩:=b
   exact d g i n
  |ret=>
   have b:some (Ex.ret,k,j)=some (c,e',h'):=b
   simp only[ar,ax]at b
   obtain⟨rfl,rfl,rfl⟩:=b
   exact d g i n
 |cond G r y A B=>
  intro f e h c e' h' b a w Q H d
  simp only[lL,ay]at f
  have b:(dB (eJ cx mask e G) λC=>match C with
   | .bool v=> @Bool.rec (λ_=>Out) (jy cx cf p mask y e h) (jy cx cf p mask r e h) v
   |_=>none)=some (c,e',h'):=b
  replace b:=dj.1 b;obtain⟨C,L,b⟩:=b
  cases C<;>simp only[reduceCtorEq]at b
  rename_i v
  have E:a.eval G= .bool v:=by
   obtain⟨R,M,o,_⟩:=H
   exact(fG M o L).pf
  cases v with
  |true=>exact wp_cond_true E (A f.1 e h c e' h' b a w Q H d)
  |false=>exact wp_cond_false E (B f.2 e h c e' h' b a w Q H d)
 |block id r z=>
  intro f e h c e' h' b a w Q H d
  have b:(dB (jy cx cf p mask r e h) λo=>three o λc e' h'=> @Ex.rec (λ_=>Out) (some (.normal,e',h')) (λl=> @Bool.rec (λ_=>Out) (some (.exit l,e',h')) (some (.normal,e',h')) (Nat.beq l id)) (some (.ret,e',h')) c)=some (c,e',h'):=b
  replace b:=dj.1 b;obtain⟨⟨t,k,j⟩,q,b⟩:=b
  refine wp_block (z f e h t k j q a w _ H λg i n=> ?_)
  cases t with
  |normal=>
   have b:some (Ex.normal,k,j)=some (c,e',h'):=b
   simp only[ar,ax]at b
   obtain⟨rfl,rfl,rfl⟩:=b
   exact d g i n
  |exit l=>
   have b: @Bool.rec (λ_=>Out) (some (.exit l,k,j)) (some (.normal,k,j)) (Nat.beq l id)=some (c,e',h'):=b
   show(if l=id then Q .normal g i else Q (.exit l) g i)
   cases u:Nat.beq l id with
   |true=>
    rw[u]at b
    simp only[ar,ax]at b
    obtain⟨rfl,rfl,rfl⟩:=b
    rw[aq (aC u)]
    exact d g i n
   |false=>
    rw[u]at b
    simp only[ar,ax]at b
    obtain⟨rfl,rfl,rfl⟩:=b
    rw[ao (cJ u)]
    exact d g i n
  |ret=>
   have b:some (Ex.ret,k,j)=some (c,e',h'):=b
   simp only[ar,ax]at b
   obtain⟨rfl,rfl,rfl⟩:=b
   exact d g i n
 |loop r z=>
  intro f e h c e' h' b a w Q H d
  exact J9 (H5 (z f) p e h c e' h' b a w Q H d)
 |_=>intro _ e h c e' h' b;exact absurd b (by simp[jy])
end
end
noncomputable section
theorem my{d i:Type}{b c:d->aa i}:∀{a:List d},(∀x∈a,b x=c x)->eK b a=eK c a
 | [],_=>rfl
 |x::a,h=>by
  rw[jc,jc,h x (by simp),my λg f=>h g (by simp[f])]
section
variable {cx:Ctx}{mask:Nat}{e e':Env}{h h1 h2:H}
theorem za{a:List ah}(c:∀b∈a,eJ cx mask e b=eJ cx mask e' b):oY cx mask e a=oY cx mask e' a:=my c
theorem vV{b:List (Nat×ah)}(d:∀a∈b,eJ cx mask e a.2=eJ cx mask e' a.2):partsOf cx mask e b=partsOf cx mask e' b:=by
 unfold partsOf
 refine my λa c=> ?_
 obtain⟨f,g⟩:=a
 simp only[jX]
 rw[d (f,g) c]
theorem tI{b:aa ah}(f:∀a,b=some a->eJ cx mask e a=eJ cx mask e' a):jm cx mask e b=jm cx mask e' b:=by
 cases b with
 |none=>rfl
 |some a=>
  show(dB (eJ cx mask e a) λd=>dB (mR d) λc=>some (some c))=(dB (eJ cx mask e' a) λd=>dB (mR d) λc=>some (some c))
  rw[f a rfl]
theorem yo{f:Op}(b:∀a∈f.operands,eJ cx mask e a=eJ cx mask e' a):iO f cx mask e h=iO f cx mask e' h:=by
 cases f with
 |move a=>have h1:=b a (by simp[Op.operands]);simp only[iO,Bk,h1]
 |assign a=>have h1:=b a (by simp[Op.operands]);simp only[iO,Bk,h1]
 |pick d g i=>
  have h1:=b d (by simp[Op.operands]);have h2:=b g (by simp[Op.operands]);have p:=b i (by simp[Op.operands])
  simp only[iO,C1,h1,h2,p]
 |alloc c=>rfl
 |box c a=>have h1:=b a (by simp[Op.operands]);simp only[iO,K3,h1]
 |build c m=>
  have h1:partsOf cx mask e m.toList=partsOf cx mask e' m.toList:=vV λl r=>b l.2 (by simp only[Op.operands,List.mem_toArray,List.mem_map];exact⟨l,r,rfl⟩)
  simp only[iO,yG,h1]
 |buildSlice c D m=>
  have h1:partsOf cx mask e m.toList=partsOf cx mask e' m.toList:=vV λl r=>b l.2 (by simp only[Op.operands,List.mem_toArray,List.mem_map];exact⟨l,r,rfl⟩)
  simp only[iO,nl,h1]
 |load c g=>have h1:=b g (by simp[Op.operands]);simp only[iO,F4,h1]
 |store c g a=>have h1:=b g (by simp[Op.operands]);have h2:=b a (by simp[Op.operands]);simp only[iO,Bh,h1,h2]
 |nilCheck a=>have h1:=b a (by simp[Op.operands]);simp only[iO,qj,h1]
 |binOp f c a z F=>
  have h1:=b a (by simp[Op.operands]);have h2:=b z (by simp[Op.operands])
  cases f<;>simp only[iO,UD,K4,h1,h2]
 |unOp f c a=>have h1:=b a (by simp[Op.operands]);simp only[iO,Zs,h1]
 |convert y A a=>have h1:=b a (by simp[Op.operands]);simp only[iO,Ju,h1]
 |makeInterface c a=>have h1:=b a (by simp[Op.operands]);simp only[iO,yD,h1]
 |makeFunc B g i=>
  have h1:oY cx mask e i.toList=oY cx mask e' i.toList:=za λa q=>b a (by simp only[Op.operands,Array.mem_append];right;simpa using q)
  simp only[iO,Bl,h1]
 |makeSlice c x d=>have h1:=b x (by simp[Op.operands]);have h2:=b d (by simp[Op.operands]);simp only[iO,ox,h1,h2]
 |slice c a t s u=>
  have h1:=b a (by simp[Op.operands])
  have h2:jm cx mask e t=jm cx mask e' t:=tI λk j=>b k (by subst j;simp[Op.operands])
  have p:jm cx mask e s=jm cx mask e' s:=tI λk j=>b k (by subst j;simp[Op.operands])
  have v:jm cx mask e u=jm cx mask e' u:=tI λk j=>b k (by subst j;simp[Op.operands])
  simp only[iO,Bi,h1,h2,p,v]
 |fieldAddr c a o=>have h1:=b a (by simp[Op.operands]);simp only[iO,oz,h1]
 |field c a o=>have h1:=b a (by simp[Op.operands]);simp only[iO,yF,h1]
 |indexAddr c a n=>have h1:=b a (by simp[Op.operands]);have h2:=b n (by simp[Op.operands]);simp only[iO,oy,h1,h2]
 |index c a n=>have h1:=b a (by simp[Op.operands]);have h2:=b n (by simp[Op.operands]);simp only[iO,yC,h1,h2]
 |extract a n=>have h1:=b a (by simp[Op.operands]);simp only[iO,sS,h1]
 |makeMap c E=>rfl
 |lookup=>rfl
 |mapUpdate=>rfl
 |range c a=>have h1:=b a (by simp[Op.operands]);simp only[iO,xw,Bj,h1]
 |next it y=>have h1:=b it (by simp[Op.operands]);simp only[iO,F2,uF,h1]
 |entry=>rfl
 |«call» d=>
  have h1:oY cx mask e d.args.toList=oY cx mask e' d.args.toList:=za λa q=>b a (by simp only[Op.operands,Call.operands,Array.mem_append];right;simpa using q)
  simp only[iO,Bn,h1]
  cases w:d.callee with
  |builtin i=>rfl
  |invoke a C=>rfl
  |value o=>
   have h2:=b o (by simp only[Op.operands,Call.operands,w];simp)
   simp only[h2]
 |_=>rfl
theorem uB{c:Op}(b:∀a∈c.operands,eJ cx mask e a=eJ cx mask e' a):fk cx mask e h c=fk cx mask e' h c:=by
 cases c with
 |load d a=>have h1:=b a (by simp[Op.operands]);simp only[fk,h1]
 |indexAddr d a f=>have h1:=b a (by simp[Op.operands]);simp only[fk,h1]
 |slice d a j i k=>have h1:=b a (by simp[Op.operands]);simp only[fk,h1]
 |convert m g a=>have h1:=b a (by simp[Op.operands]);simp only[fk,h1]
 |lookup d a f l=>have h1:=b a (by simp[Op.operands]);simp only[fk,h1]
 |_=>rfl
def iY(h1 h2:H)(c d:aa kx):Prop:=∀b a,c=some (.val b a)->a=h1/\d=some (.val b h2)
theorem iY.none:iY h1 h2 none none:=λ_ _ a=>by simp at a
theorem iY.val{a:aa T}:iY h1 h2 (val h1 a) (val h2 a):=λd c b=>by
 obtain⟨rfl,rfl⟩:=ff.1 b
 exact⟨rfl,ff.2 ⟨rfl,rfl⟩⟩
theorem iY.some{a:T}:iY h1 h2 (some (.val a h1)) (some (.val a h2)):=λa c b=>by
 simp only[ar,kx.val.injEq]at b
 obtain⟨rfl,rfl⟩:=b
 exact⟨rfl,rfl⟩
theorem iY.dB{f:Type}{b:aa f}{c d:f->aa kx}(g:∀a,b=Option.some a->iY h1 h2 (c a) (d a)):iY h1 h2 (dB b c) (dB b d):=by
 cases b with
 |none=>exact iY.none
 |some a=>exact g a rfl
theorem iY.fy{a:Bool}{b c:aa kx}(d:iY h1 h2 b c):iY h1 h2 (fy a b) (fy a c):=by
 cases a with
 |false=>exact iY.none
 |true=>exact d
theorem iY.bool{a:Bool}{b d c f:aa kx}(g:iY h1 h2 b c)(i:iY h1 h2 d f):iY h1 h2 (Bool.casesOn a b d) (Bool.casesOn a c f):=by
 cases a<;>assumption
def J7(b:Nat->T):Prop:=(∀a,b a= .ptr a 0 0 0)\/(∃c,∀a,b a= .arr a 0 0 c false)\/(∀a,b a= .iter a)\/(∀a,b a= .map a)
def Mk(h1 h2:H)(f g:aa kx):Prop:=∀c b,f=some (.val c b)->∃a d,J7 a/\c=a h1.size/\b=h1.cons d/\g=some (.val (a h2.size) (h2.cons d))
theorem Mk.none:Mk h1 h2 none none:=λ_ _ a=>by simp at a
theorem Mk.new{f:Nat->T}{c:iE}(d:J7 f):Mk h1 h2 (iV (h1.new f c)) (iV (h2.new f c)):=λi g a=>by
 rw[iS,H.j4]at a
 simp only[ar,ax]at a
 obtain⟨rfl,rfl⟩:=a
 exact⟨f,c,d,rfl,rfl,by rw[iS,H.j4]⟩
theorem Mk.dB{f:Type}{b:aa f}{c d:f->aa kx}(g:∀a,b=Option.some a->Mk h1 h2 (c a) (d a)):Mk h1 h2 (dB b c) (dB b d):=by
 cases b with
 |none=>exact Mk.none
 |some a=>exact g a rfl
theorem Mk.fy{a:Bool}{b c:aa kx}(d:Mk h1 h2 b c):Mk h1 h2 (fy a b) (fy a c):=by
 cases a with
 |false=>exact Mk.none
 |true=>exact d
theorem Nq{a:ab}:Mk h1 h2 (iO (.alloc a) cx mask e h1) (iO (.alloc a) cx mask e h2):=by
 simp only[iO,Bo]
 refine Mk.dB λb _=> ?_
 cases vm cx b<;>exact Mk.new (.inl λ_=>rfl)
theorem Uk{a:ab}{b:ah}:Mk h1 h2 (iO (.box a b) cx mask e h1) (iO (.box a b) cx mask e h2):=by
 simp only[iO,K3]
 exact Mk.dB λc _=>Mk.fy (Mk.new (.inl λ_=>rfl))
theorem Cc{c:ab}{b:Nat}{a:af (Nat×ah)}:Mk h1 h2 (iO (.buildSlice c b a) cx mask e h1) (iO (.buildSlice c b a) cx mask e h2):=by
 simp only[iO,nl]
 refine Mk.dB λd _=> ?_
 cases d.u<;>first
  |exact Mk.none
  |exact Mk.dB λg _=>Mk.dB λa _=>Mk.fy (Mk.fy (Mk.dB λf _=>Mk.new (.inr (.inl ⟨_,λ_=>rfl⟩))))
theorem DF{c:ab}{b a:ah}:Mk h1 h2 (iO (.makeSlice c b a) cx mask e h1) (iO (.makeSlice c b a) cx mask e h2):=by
 simp only[iO,ox]
 refine Mk.dB λd _=> ?_
 cases d.u<;>first
  |exact Mk.none
  |exact Mk.dB λf _=>Mk.dB λ_ _=>Mk.dB λ_ _=>Mk.dB λ_ _=>Mk.dB λ_ _=>Mk.fy (Mk.fy (Mk.fy (Mk.fy (Mk.new (.inr (.inl ⟨_,λ_=>rfl⟩))))))
theorem HY{b:ab}{a:aa ah}:Mk h1 h2 (iO (.makeMap b a) cx mask e h1) (iO (.makeMap b a) cx mask e h2):=Mk.none
theorem KV{f:Ty}{c g:T}(hl:∀a,dE c=some a->a<h1.size->h2.get a=h1.get a)(b:h1.load f c=some g):h2.load f c=some g:=by
 cases c with
 |ptr a j k m=>
  have b:(dB (h1.elem a j k) λe=>dB (je m e.cells) λi=>jK f i)=some g:=b
  show(dB (h2.elem a j k) λe=>dB (je m e.cells) λi=>jK f i)=some g
  replace b:=dj.1 b;obtain⟨n,l,b⟩:=b
  have o:h2.elem a j k=some n:=by
   have d:=l
   unfold H.elem at d|-
   replace d:=dj.1 d;obtain⟨q,p,_⟩:=d
   rw[hl a rfl (H.dL p)]
   exact l
  rw[o];exact b
 |_=>exact b
theorem Ci{g:Ty}{j:T}{b:Nat}(hl:∀a,dE j=some a->a<h1.size->h2.get a=h1.get a):iY h1 h2 (kG h1 g j b) (kG h2 g j b):=by
 cases j with
 |dq s m=>exact iY.dB λ_ _=>iY.fy iY.some
 |arr a d l k m=>
  intro o n f
  have q:=f
  have f:fy (Nat.blt b k) (dB (h1.get a) λc=>fy (Nat.beq c.sz g.size)<|fy (Nat.beq c.ep d) (dB (fF (Nat.add l b)) λi=>some (kx.val (.ptr a d i 0) h1)))=some (.val o n):=f
  obtain⟨_,f⟩:=dz.1 f
  obtain⟨j,r,_⟩:=dj.1 f
  have p:=hl a rfl (H.dL r)
  have:kG h2 g (.arr a d l k m) b=fy (Nat.blt b k) (dB (h1.get a) λc=>fy (Nat.beq c.sz g.size)<|fy (Nat.beq c.ep d) (dB (fF (Nat.add l b)) λi=>some (kx.val (.ptr a d i 0) h2))):=by
   rw[<-p];rfl
  rw[this]
  exact(iY.fy (iY.dB λ_ _=>iY.fy (iY.fy (iY.dB λ_ _=>iY.some))):iY h1 h2 (fy (Nat.blt b k) (dB (h1.get a) λc=>fy (Nat.beq c.sz g.size)<|fy (Nat.beq c.ep d) (dB (fF (Nat.add l b)) λi=>some (kx.val (.ptr a d i 0) h1)))) _) o n q
 |_=>exact iY.none
theorem Cj{f:Nat}{g:Ty}{b:T}{d:Nat}(hl:∀a,dE b=some a->a<h1.size->h2.get a=h1.get a):iY h1 h2 (nT h1 f g b d) (nT h2 f g b d):=by
 unfold nT
 refine iY.fy ?_
 cases b<;>first
  |exact iY.none
  |exact iY.dB λ_ _=>iY.some
  |skip
 rename_i a k m n
 simp only
 cases c:h1.get a with
 |none=>intro o l i;simp at i
 |some j=>
  rw[hl a rfl (H.dL c),c]
  simp only[dD]
  exact iY.bool (iY.dB λ_ _=>iY.some) (iY.fy (iY.dB λ_ _=>iY.some))
theorem H9{b:T}{f:List T}(hl:∀a,dE b=some a->a<h1.size->h2.get a=h1.get a)(c:h1.iy b=some f):h2.iy b=some f:=by
 cases b with
 |arr a j m l k=>
  have d:=c
  unfold H.iy at d|-
  simp only at d|-
  obtain⟨i,g,_⟩:=dj.1 d
  rw[hl a rfl (H.dL g)]
  exact c
 |_=>exact c
theorem AC{g:U}{f:T}(hl:∀b,dE f=some b->b<h1.size->h2.get b=h1.get b)(a:iQ cx h1 g f=true):iQ cx h2 g f=true:=by
 cases g with
 |slice e=>
  unfold iQ at a|-
  simp only at a|-
  cases d:cx.ty e with
  |none=>rw[d]at a;exact a
  |some k=>
   rw[d]at a
   cases f with
   |arr b j q o l=>
    simp only at a|-
    cases c:h1.get b with
    |none=>rw[c]at a;simp at a
    |some i=>rw[hl b rfl (H.dL c),c];rw[c]at a;exact a
   |_=>exact a
 |array p e=>
  unfold iQ at a|-
  simp only at a|-
  cases d:cx.ty e with
  |none=>rw[d]at a;exact a
  |some k=>
   rw[d]at a
   cases f with
   |ptr b j m n=>
    simp only at a|-
    cases c:h1.get b with
    |none=>rw[c]at a;simp at a
    |some i=>rw[hl b rfl (H.dL c),c];rw[c]at a;exact a
   |_=>exact a
 |_=>exact a
theorem Fh{k:Op}(A:fZ k=false)(hl:∀f,fk cx mask e h1 k=some f->f<h1.size->h2.get f=h1.get f){c:T}{g:H}(b:iO k cx mask e h1=some (.val c g)):
 (g=h1/\iO k cx mask e h2=some (.val c h2))\/
 (∃m a,J7 m/\fk cx mask e h1 k=some h1.size/\c=m h1.size/\g=h1.cons a/\iO k cx mask e h2=some (.val (m h2.size) (h2.cons a))):=by
 have F:Mk h1 h2 (iO k cx mask e h1) (iO k cx mask e h2)->fk cx mask e h1 k=some h1.size->(g=h1/\iO k cx mask e h2=some (.val c h2))\/
  (∃m a,J7 m/\fk cx mask e h1 k=some h1.size/\c=m h1.size/\g=h1.cons a/\iO k cx mask e h2=some (.val (m h2.size) (h2.cons a))):=λU w=>by
  obtain⟨m,a,L,M,aN,aX⟩:=U c g b
  exact Or.inr ⟨m,a,L,w,M,aN,aX⟩
 cases k with
 |alloc d=>exact F Nq rfl
 |box d a=>exact F Uk rfl
 |buildSlice d n N=>exact F Cc rfl
 |makeSlice d l y=>exact F DF rfl
 |range=>simp[fZ]at A
 |entry=>simp[fZ]at A
 |store=>simp[fZ]at A
 |next=>simp[fZ]at A
 |load d i=>
  left
  have b:(dB (cx.ty d) λj=>dB (eJ cx mask e i) λi=>val h1 (h1.load j i))=some (.val c g):=b
  replace b:=dj.1 b;obtain⟨j,J,b⟩:=b
  replace b:=dj.1 b;obtain⟨q,t,b⟩:=b
  obtain⟨B,rfl⟩:=ff.1 b
  refine⟨rfl,?_⟩
  show(dB (cx.ty d) λj=>dB (eJ cx mask e i) λi=>val h2 (h2.load j i))=some (.val c h2)
  rw[J,t]
  exact ff.2 ⟨KV (λf w z=>hl f (by show dB (eJ cx mask e i) dE=some f;rw[t];exact w) z) B,rfl⟩
 |indexAddr d a E=>
  left
  have S:∀q,eJ cx mask e a=some q->∀f,dE q=some f->f<h1.size->h2.get f=h1.get f:=λq t f w z=>
   hl f (by show dB (eJ cx mask e a) dE=some f;rw[t];exact w) z
  have:iY h1 h2 (iO (.indexAddr d a E) cx mask e h1) (iO (.indexAddr d a E) cx mask e h2):=by
   simp only[iO,oy]
   refine iY.dB λj _=>iY.dB λq t=>iY.dB λ_ _=>iY.dB λK _=> ?_
   cases j.u<;>first
    |exact iY.none
    |exact iY.dB λO _=>Ci (S q t)
    |exact iY.dB λO _=>Cj (S q t)
  exact this c g b
 |slice d a v o p=>
  left
  have b:(dB (cx.ty d) λj=>dB (eJ cx mask e a) λa=>fy (iQ cx h1 j.u a)<|dB (jm cx mask e v) λv=>dB (jm cx mask e o) λo=>dB (jm cx mask e p) λp=>
   fy (xp o p) (val h1 (og (asSlice j.u a) v o p)))=some (.val c g):=b
  replace b:=dj.1 b;obtain⟨j,J,b⟩:=b
  replace b:=dj.1 b;obtain⟨q,t,b⟩:=b
  obtain⟨X,b⟩:=dz.1 b
  have Y:iQ cx h2 j.u q=true:=AC (λf w z=>hl f (by show dB (eJ cx mask e a) dE=some f;rw[t];exact w) z) X
  have:iY h1 h2 (dB (jm cx mask e v) λv=>dB (jm cx mask e o) λo=>dB (jm cx mask e p) λp=>fy (xp o p) (val h1 (og (asSlice j.u q) v o p)))
   (dB (jm cx mask e v) λv=>dB (jm cx mask e o) λo=>dB (jm cx mask e p) λp=>fy (xp o p) (val h2 (og (asSlice j.u q) v o p))):=
   iY.dB λ_ _=>iY.dB λ_ _=>iY.dB λ_ _=>iY.fy iY.val
  obtain⟨L,M⟩:=this c g b
  refine⟨L,?_⟩
  show(dB (cx.ty d) λj=>dB (eJ cx mask e a) λa=>fy (iQ cx h2 j.u a)<|dB (jm cx mask e v) λv=>dB (jm cx mask e o) λo=>dB (jm cx mask e p) λp=>
   fy (xp o p) (val h2 (og (asSlice j.u a) v o p)))=some (.val c h2)
  rw[J,t]
  simp only[dD,Y,fO]
  exact M
 |«call» y=>
  left
  have:iY h1 h2 (iO (.call y) cx mask e h1) (iO (.call y) cx mask e h2):=by
   simp only[iO,Bn]
   refine iY.dB λQ _=> ?_
   cases R:y.callee with
   |invoke a U=>exact iY.none
   |value m=>simp[fZ,R]at A
   |builtin f=>
    cases f<;>simp[fZ,R]at A<;>simp only[kH]
    case len=>
     match Q with
     | []=>exact iY.none
     | [a]=>
      simp only[Lm]
      refine iY.dB λ_ _=>iY.dB λj _=> ?_
      cases j.u<;>first
       |exact iY.none
       |exact iY.val
       |(cases a<;>first|exact iY.none|exact iY.val)
     |_::_::_=>exact iY.none
    all_goals
     match Q with
     | []=>exact iY.none
     | [a]=>exact iY.none
     | [a,P]=>exact iY.val
     |_::_::_::_=>exact iY.none
  exact this c g b
 |binOp k d a P D=>
  left
  have:iY h1 h2 (iO (.binOp k d a P D) cx mask e h1) (iO (.binOp k d a P D) cx mask e h2):=by
   cases k<;>simp only[iO,UD,K4]<;>first
    |exact iY.dB λ_ _=>iY.dB λ_ _=>iY.dB λ_ _=>iY.fy (iY.dB λ_ _=>iY.val)
    |exact iY.dB λ_ _=>iY.dB λ_ _=>iY.val
  exact this c g b
 |move a=>left;exact(show iY h1 h2 (iO (.move a) cx mask e h1) (iO (.move a) cx mask e h2)from iY.val) c g b
 |assign a=>left;exact(show iY h1 h2 (iO (.assign a) cx mask e h1) (iO (.assign a) cx mask e h2)from iY.val) c g b
 |pick y i f=>
  left
  have:iY h1 h2 (iO (.pick y i f) cx mask e h1) (iO (.pick y i f) cx mask e h2):=by
   simp only[iO,C1]
   refine iY.dB λc _=> ?_
   cases c<;>first|exact iY.none|exact iY.bool iY.val iY.val
  exact this c g b
 |build d N=>
  left
  have:iY h1 h2 (iO (.build d N) cx mask e h1) (iO (.build d N) cx mask e h2):=by
   simp only[iO,yG]
   refine iY.dB λj _=>iY.dB λ_ _=> ?_
   cases j.u<;>first|exact iY.none|exact iY.dB λ_ _=>iY.val|exact iY.dB λ_ _=>iY.dB λ_ _=>iY.val
  exact this c g b
 |nilCheck a=>
  left
  have:iY h1 h2 (iO (.nilCheck a) cx mask e h1) (iO (.nilCheck a) cx mask e h2):=by
   simp only[iO,qj]
   refine iY.dB λc _=> ?_
   cases c<;>first|exact iY.none|exact iY.some
  exact this c g b
 |unOp k d a=>left;exact(show iY h1 h2 (iO (.unOp k d a) cx mask e h1) (iO (.unOp k d a) cx mask e h2)from iY.dB λ_ _=>iY.val) c g b
 |convert C x a=>
  left
  have b:(dB (cx.ty C) λ_=>dB (eJ cx mask e a) λi=>dB (cx.ty x) λG=>match G.u with
   | .slice _=>val h1 (BP cx x i)
   | .str=>(match i with
    | .str _=>val h1 (conv cx x i)
    |_=>val h1 (EY cx h1 C i))
   |_=>val h1 (conv cx x i))=some (.val c g):=b
  show g=h1/\(dB (cx.ty C) λ_=>dB (eJ cx mask e a) λi=>dB (cx.ty x) λG=>match G.u with
   | .slice _=>val h2 (BP cx x i)
   | .str=>(match i with
    | .str _=>val h2 (conv cx x i)
    |_=>val h2 (EY cx h2 C i))
   |_=>val h2 (conv cx x i))=some (.val c h2)
  obtain⟨a8,ap,b⟩:=dj.1 b
  obtain⟨q,t,b⟩:=dj.1 b
  obtain⟨a6,al,b⟩:=dj.1 b
  rw[ap,t,al]
  simp only[dD]
  have Z:∀{D:T},EY cx h1 C q=some D->EY cx h2 C q=some D:=by
   intro D s
   unfold EY at s|-
   obtain⟨t2,ae,s⟩:=dj.1 s
   rw[ae]
   simp only[dD]
   cases aA:t2.u<;>rw[aA]at s<;>simp only[reduceCtorEq]at s|-
   obtain⟨O,an,s⟩:=dj.1 s
   rw[an]
   simp only[dD]
   cases aE:O.u<;>rw[aE]at s<;>simp only[reduceCtorEq]at s|-
   obtain⟨V,s⟩:=dz.1 s
   rw[V,fO]
   obtain⟨a7,W,s⟩:=dj.1 s
   rw[H9 (λf w z=>hl f (by show dB (eJ cx mask e a) dE=some f;rw[t];exact w) z) W]
   exact s
  cases av:a6.u<;>rw[av]at b<;>simp only at b|-
  case str=>
   cases q<;>simp only at b|- <;>(obtain⟨B,rfl⟩:=ff.1 b)<;>first
    |exact⟨rfl,ff.2 ⟨Z B,rfl⟩⟩
    |exact⟨rfl,ff.2 ⟨B,rfl⟩⟩
  all_goals
   obtain⟨B,rfl⟩:=ff.1 b
   exact⟨rfl,ff.2 ⟨B,rfl⟩⟩
 |lookup=>exact .inl ((iY.none:iY h1 h2 _ _) c g b)
 |makeMap d r=>exact F HY rfl
 |mapUpdate=>simp[fZ]at A
 |makeInterface d a=>
  left
  have:iY h1 h2 (iO (.makeInterface d a) cx mask e h1) (iO (.makeInterface d a) cx mask e h2):=by
   simp only[iO,yD]
   refine iY.dB λj _=> ?_
   cases j.u<;>first|exact iY.none|exact iY.dB λ_ _=>iY.fy iY.val
  exact this c g b
 |makeFunc I i f=>
  left
  have:iY h1 h2 (iO (.makeFunc I i f) cx mask e h1) (iO (.makeFunc I i f) cx mask e h2):=by
   simp only[iO,Bl]
   cases I<;>first
    |exact iY.none
    |(cases i.toList<;>first|exact iY.none|exact iY.dB λ_ _=>iY.val)
  exact this c g b
 |fieldAddr d a m=>
  left
  have:iY h1 h2 (iO (.fieldAddr d a m) cx mask e h1) (iO (.fieldAddr d a m) cx mask e h2):=by
   simp only[iO,oz]
   refine iY.dB λ_ _=>iY.dB λc _=> ?_
   cases c<;>first|exact iY.none|exact iY.dB λ_ _=>iY.some
  exact this c g b
 |field d a m=>
  left
  have:iY h1 h2 (iO (.field d a m) cx mask e h1) (iO (.field d a m) cx mask e h2):=by
   simp only[iO,yF]
   refine iY.dB λ_ _=>iY.dB λ_ _=>iY.dB λc _=> ?_
   cases c<;>first|exact iY.none|exact iY.dB λ_ _=>iY.val
  exact this c g b
 |index d a E=>
  left
  have:iY h1 h2 (iO (.index d a E) cx mask e h1) (iO (.index d a E) cx mask e h2):=by
   simp only[iO,yC]
   refine iY.dB λj _=>iY.dB λc _=>iY.dB λ_ _=>iY.dB λ_ _=> ?_
   cases j.u<;>first
    |exact iY.none
    |(cases c<;>first|exact iY.none|exact iY.dB λ_ _=>iY.val|exact iY.dB λ_ _=>iY.fy (iY.dB λ_ _=>iY.val))
  exact this c g b
 |extract a K=>
  left
  have:iY h1 h2 (iO (.extract a K) cx mask e h1) (iO (.extract a K) cx mask e h2):=by
   simp only[iO,sS]
   refine iY.dB λc _=> ?_
   cases c<;>first|exact iY.none|exact iY.val
  exact this c g b
 |_=>exact absurd b (by simp[iO])
end
end
noncomputable section
theorem GV{c:List Nat}{b:List Edge}{e:Nat}(h:(vy c b).testBit e=true):
 ∃a∈b,Region.binds .any a=true/\(e=a.on\/(c.getD a.on 0).testBit e=true):=by
 induction b with
 |nil=>simp[vy]at h
 |cons a b j=>
  have h:(@Bool.rec (λ_=>Nat) (vy c b) ((vy c b)|||((1<<<a.on)|||(c.getD a.on 0))) (Region.binds .any a)).testBit e=true:=h
  cases d:Region.binds .any a with
  |false=>
   rw[d]at h
   obtain⟨f,g,i⟩:=j h
   exact⟨f,by simp[g],i⟩
  |true=>
   rw[d]at h
   simp only[Nat.testBit_or,bR]at h
   rcases h with h|h|h
   ·obtain⟨f,g,i⟩:=j h
    exact⟨f,by simp[g],i⟩
   ·refine⟨a,by simp,d,.inl ?_⟩
    rw[Nat.one_shiftLeft,Nat.testBit_two_pow]at h
    exact(of_decide_eq_true h).symm
   ·exact⟨a,by simp,d,.inr h⟩
structure Cl(ops:af Oper)(listed:af Bool):Prop where
 size:listed.size=ops.size
 closed:∀j oj,ops[j]? =some oj->listed.getD j false=true->∀e∈oj.after,Region.binds .any e=true->listed.getD e.on false=true
theorem QP{ops:af Oper}{g:af Bool}(q:Cl ops g):∀(k:List Oper) (d:List Nat),(∀n:Nat,k[n]? =ops[d.length+n]?)->
 (∀(b c:Nat),d[b]? =some c->∀f,c.testBit f=true->∀i,ops[b]? =some i->(∀a∈i.after,Region.binds .any a=true->g.getD a.on false=true)->g.getD f false=true)->
 ∀(b c:Nat),(IJ k d)[b]? =some c->∀f,c.testBit f=true->∀i,ops[b]? =some i->(∀a∈i.after,Region.binds .any a=true->g.getD a.on false=true)->g.getD f false=true:=by
 intro k
 induction k with
 |nil=>intro d _ l b c e;exact l b c e
 |cons i k B=>
  intro d hl l
  refine B (d++[vy d i.after.toList]) (λn=> ?_) ?_
  ·have:=hl (n+1)
   simp only[cZ]at this
   rw[this];congr 1;simp;omega
  ·intro b c e f u C m s
   by_cases v:b<d.length
   ·rw[bW v]at e
    exact l b c e f u C m s
   ·rw[cq (by omega)]at e
    have z:b=d.length:=by
     rcases Nat.eq_or_lt_of_le (Nat.le_of_not_lt v)with h|h
     ·exact h.symm
     ·rw[aM (by simp;omega)]at e;simp at e
    subst z
    simp at e;subst e
    have r:=hl 0
    simp at r
    rw[<-r]at m
    simp at m;subst m
    obtain⟨a,x,w,j⟩:=GV u
    have o:=s a (by simpa using x) w
    rcases j with rfl|j
    ·exact o
    ·have y:a.on<g.size:=by
      rcases aD a.on g.size with h|h
      ·exact h
      ·simp[cN h]at o
     have A:a.on<ops.size:=by rw[<-q.size];exact y
     have t:ops[a.on]? =some ops[a.on]:=by simp[A]
     cases p:d[a.on]? with
     |none=>rw[List.getD_eq_getElem?_getD,p]at j;simp at j
     |some c=>
      rw[List.getD_eq_getElem?_getD,p]at j
      exact l a.on c p f j ops[a.on] t (q.closed a.on _ t o)
theorem AT{ops:af Oper}{e:af Bool}(i:Cl ops e){d b:Nat}{f:Oper}(a:jg ops d b=true)(l:ops[b]? =some f)
 (j:∀g∈f.after,Region.binds .any g=true->e.getD g.on false=true):e.getD d false=true:=by
 unfold jg at a
 rw[List.getD_eq_getElem?_getD]at a
 cases c:(IJ ops.toList [])[b]? with
 |none=>rw[c]at a;simp at a
 |some h=>
  rw[c]at a
  exact QP i ops.toList [] (λn=>by simp) (λm h k=>by simp at k) b h c d a f l j
def nR:Op->Bool
 | .store .. =>true
 |_=>false
def nU(ops:af Oper):Bool:=
 let e:=IJ ops.toList []
 let d:=ops.toList.zipIdx
 d.all λa=>(a.1.after.toList.all λc=> !Region.binds .any c||Nat.blt c.on a.2)&&
  d.all λb=> !Nat.blt b.2 a.2||(b.1.apart ops a.1&&(!(fZ b.1.op&&fZ a.1.op)||(nR b.1.op&&nR a.1.op)))||(e.getD a.2 0).testBit b.2
theorem mem_zipIdx{ops:af Oper}{a:Nat}{b:Oper}(c:ops[a]? =some b):(b,a)∈ops.toList.zipIdx:=by
 rw[List.mem_iff_getElem?]
 exact⟨a,by simp[c]⟩
theorem Is{ops:af Oper}(f:nU ops=true){b:Nat}{c:Oper}(i:ops[b]? =some c):∀a∈c.after,Region.binds .any a=true->a.on<b:=by
 intro a h g
 unfold nU at f
 have d:=List.all_eq_true.1 f (c,b) (mem_zipIdx i)
 simp only[ay]at d
 have e:=List.all_eq_true.1 d.1 a (by simpa using h)
 simp only[g,cH,Bool.false_or,aG]at e
 exact e
theorem Gu{ops:af Oper}(h:nU ops=true){c d:Nat}{e f:Oper}(j:ops[c]? =some e)(l:ops[d]? =some f)(k:c<d):
 (e.apart ops f=true/\(fZ e.op=true->fZ f.op=true->nR e.op=true/\nR f.op=true))\/jg ops c d=true:=by
 unfold nU at h
 have g:=List.all_eq_true.1 h (f,d) (mem_zipIdx l)
 simp only[ay]at g
 have b:=List.all_eq_true.1 g.2 (e,c) (mem_zipIdx j)
 have i:Nat.blt c d=true:=by rw[aG];exact k
 simp only[i,cH,Bool.false_or,bR,ay,bP,Bool.and_eq_false_iff]at b
 rcases b with⟨b,a⟩|b
 ·left
  refine⟨b,λm n=> ?_⟩
  rcases a with(a|a)|a
  ·rw[m]at a;simp at a
  ·rw[n]at a;simp at a
  ·exact a
 ·right;exact b
section
variable {cx:Ctx}{cf:ir}{mask:Nat}{ops:af Oper}
def oa(mask:Nat)(ops:af Oper)(c:Nat->Env)(b:Nat):Prop:=∃a,ops[b]? =some a/\fZ a.op=true/\jU ops mask (c b) a.guard=some true
def wj(cx:Ctx)(mask:Nat)(ops:af Oper)(c:Nat->Env)(d:Nat->H)(a e:Nat):Prop:=
 ∃b,ops[a]? =some b/\fZ b.op=false/\jU ops mask (c a) b.guard=some true/\fk cx mask (c a) (d a) b.op=some e
def S9(cx:Ctx)(mask:Nat)(ops:af Oper)(c:Nat->Env)(a e:Nat):Prop:=
 ∃b f d g,ops[a]? =some b/\b.op= .store f d g/\jU ops mask (c a) b.guard=some true/\dB (eJ cx mask (c a) d) dE=some e
structure Trace(cx:Ctx)(cf:ir)(mask:Nat)(ops:af Oper)(E:Nat->Env)(Hs:Nat->H):Prop where
 step:∀k o,ops[k]? =some o->kK cx cf mask ops (E k) (Hs k) o=some (E (k+1),Hs (k+1))
 ahead:∀k k' b,wj cx mask ops E Hs k b->oa mask ops E k'->k<k'->dY (Hs k') (Hs (k'+1)) b=true\/jg ops k k'=true
 behind:∀k k' b,wj cx mask ops E Hs k b->oa mask ops E k'->k'<k->dY (Hs k') (Hs (k'+1)) b=true\/jg ops k' k=true
 both:∀k k' b,S9 cx mask ops E k b->oa mask ops E k'->k'<k->dY (Hs k') (Hs (k'+1)) b=true\/jg ops k' k=true
theorem wU{a b:Bool}(c: @Bool.rec (λ_=>Bool) b true a=true):a=true\/b=true:=by cases a<;>simp_all
theorem xd{e:Oper}{k:List Oper}{d:Nat}{c:Seen}{g n:Env}{a o:H}(b:jx cx cf mask ops (e::k) d c g a=some (n,o)):
 ∃h f j,kK cx cf mask ops g a e=some (h,f)/\jU ops mask g e.guard=some j/\
  ∃m,jx cx cf mask ops k (d+1) m h f=some (n,o)/\(∀l∈c.ly,l∈m.ly)/\(∀l∈c.kt,l∈m.kt)/\
   (j=true->fZ e.op=true->v8 ops d a f c.ly=true/\(d,a,f)∈m.kt/\pR cx mask ops d g c.kt e.op=true)/\
   (j=true->fZ e.op=false->∀i,fk cx mask g a e.op=some i->nh ops d i c.kt=true/\(d,i)∈m.ly):=by
 have b:(dB (kK cx cf mask ops g a e) λl=>two l λh f=>
  dB (jU ops mask g e.guard) λj=> @Bool.rec (λ_=>aa (Env×H)) (jx cx cf mask ops k (d+1) c h f)
   (@Bool.rec (λ_=>aa (Env×H))
     (@Option.rec Nat (λ_=>aa (Env×H)) (jx cx cf mask ops k (d+1) c h f)
       (λi=>fy (nh ops d i c.kt) (jx cx cf mask ops k (d+1) ⟨(d,i)::c.ly,c.kt⟩ h f)) (fk cx mask g a e.op))
     (fy (v8 ops d a f c.ly) (fy (pR cx mask ops d g c.kt e.op) (jx cx cf mask ops k (d+1) ⟨c.ly,(d,a,f)::c.kt⟩ h f))) (fZ e.op)) j)=some (n,o):=b
 replace b:=dj.1 b;obtain⟨⟨h,f⟩,t,b⟩:=b
 simp only[jX]at b
 replace b:=dj.1 b;obtain⟨j,u,b⟩:=b
 refine⟨h,f,j,t,u,?_⟩
 cases j with
 |false=>exact⟨c,b,λ_ a=>a,λ_ a=>a,λa=>by simp at a,λa=>by simp at a⟩
 |true=>
  cases r:fZ e.op with
  |true=>
   rw[r]at b
   obtain⟨p,b⟩:=dz.1 b
   obtain⟨s,b⟩:=dz.1 b
   exact⟨_,b,λ_ a=>a,λ_ a=>by simp[a],λ_ _=>⟨p,by simp,s⟩,λ_ a=>by simp at a⟩
  |false=>
   rw[r]at b
   cases q:fk cx mask g a e.op with
   |none=>
    rw[q]at b
    exact⟨c,b,λ_ a=>a,λ_ a=>a,λ_ a=>by simp at a,λ_ _ i a=>by simp at a⟩
   |some i=>
    rw[q]at b
    obtain⟨p,b⟩:=dz.1 b
    exact⟨_,b,λ_ a=>by simp[a],λ_ a=>a,λ_ a=>by simp at a,λ_ _ v a=>by simp only[ar]at a;subst a;exact⟨p,by simp⟩⟩
theorem B8:∀(C:List Oper) (c:Nat) (u:Seen) (w D:Env) (q E:H),(∀M,C[M]? =ops[c+M]?)->jx cx cf mask ops C c u w q=some (D,E)->
 ∃(i:Nat->Env) (j:Nat->H),i c=w/\j c=q/\i (c+C.length)=D/\j (c+C.length)=E/\
  (∀a h,c<=a->ops[a]? =some h->kK cx cf mask ops (i a) (j a) h=some (i (a+1),j (a+1)))/\
  (∀a b,c<=a->wj cx mask ops i j a b->∀g∈u.kt,dY g.2.1 g.2.2 b=true\/jg ops g.1 a=true)/\
  (∀a,c<=a->oa mask ops i a->∀g∈u.ly,dY (j a) (j (a+1)) g.2=true\/jg ops g.1 a=true)/\
  (∀a d b,c<=a->wj cx mask ops i j a b->oa mask ops i d->a<d->dY (j d) (j (d+1)) b=true\/jg ops a d=true)/\
  (∀a d b,c<=d->wj cx mask ops i j a b->oa mask ops i d->d<a->dY (j d) (j (d+1)) b=true\/jg ops d a=true)/\
  (∀a b,c<=a->S9 cx mask ops i a b->∀g∈u.kt,dY g.2.1 g.2.2 b=true\/jg ops g.1 a=true)/\
  (∀a d b,c<=d->S9 cx mask ops i a b->oa mask ops i d->d<a->dY (j d) (j (d+1)) b=true\/jg ops d a=true):=by
 intro C
 induction C with
 |nil=>
  intro c u w D q E hl I
  have I:some (w,q)=some (D,E):=I
  simp only[ar,ax]at I
  obtain⟨rfl,rfl⟩:=I
  have B:∀a h,c<=a->ops[a]? =some h->False:=λa h e m=>by
   have:=hl (a-c)
   rw[show c+(a-c)=a by omega,m]at this
   simp at this
  refine⟨λ_=>w,λ_=>q,rfl,rfl,rfl,rfl,λa h e m=>(B a h e m).elim,?_,?_,?_,?_,?_,?_⟩
  ·rintro a b e ⟨h,m,_⟩;exact(B a h e m).elim
  ·rintro a e ⟨h,m,_⟩;exact(B a h e m).elim
  ·rintro a d b e ⟨h,m,_⟩;exact(B a h e m).elim
  ·rintro a d b e _ ⟨h,m,_⟩;exact(B d h e m).elim
  ·rintro a b e ⟨h,_,_,_,m,_⟩;exact(B a h e m).elim
  ·rintro a d b e _ ⟨h,m,_⟩;exact(B d h e m).elim
 |cons h C aN=>
  intro c u w D q E hl I
  obtain⟨W,F,bu,aE,T,U,aA,ap,X,S,av⟩:=xd I
  have O:ops[c]? =some h:=by have:=hl 0;simpa using this.symm
  obtain⟨i,j,aX,a7,a8,bi,bk,ae,al,bn,bp,Z,a6⟩:=aN (c+1) U W D F E (λM=>by
   have:=hl (M+1)
   simp only[cZ]at this
   rw[this];congr 1;omega) aA
  let p:Nat->Env:=λa=>if a=c then w else i a
  let y:Nat->H:=λa=>if a=c then q else j a
  have hE:∀a,a≠c->p a=i a:=λa e=>by simp[p,e]
  have o:∀a,a≠c->y a=j a:=λa e=>by simp[y,e]
  have A:p c=w:=by simp[p]
  have G:y c=q:=by simp[y]
  have an:p (c+1)=W:=by rw[hE _ (by omega),aX]
  have N:y (c+1)=F:=by rw[o _ (by omega),a7]
  have J:∀a,a≠c->oa mask ops p a->oa mask ops i a:=λa e=>by unfold oa;rw[hE a e];exact id
  have P:∀a b,a≠c->wj cx mask ops p y a b->wj cx mask ops i j a b:=λa b e=>by unfold wj;rw[hE a e,o a e];exact id
  have V:∀a b,a≠c->S9 cx mask ops p a b->S9 cx mask ops i a b:=λa b e=>by unfold S9;rw[hE a e];exact id
  have bs:∀b,S9 cx mask ops p c b->nh ops c b u.kt=true:=by
   rintro b ⟨Q,M,x,v,l,t,k,L⟩
   rw[O]at l;simp only[ar]at l;subst l
   rw[A,T]at k
   rw[A]at L
   simp only[ar]at k
   have:=(S k (by rw[t];rfl)).2.2
   rw[t]at this
   have this: @Option.rec Nat (λ_=>Bool) true (λb=>nh ops c b u.kt) (dB (eJ cx mask w x) dE)=true:=this
   rw[L]at this
   exact this
  have R:oa mask ops p c->v8 ops c q F u.ly=true/\(c,q,F)∈U.kt:=by
   rintro⟨Q,l,t,k⟩
   rw[O]at l;simp only[ar]at l;subst l
   rw[A,T]at k
   simp only[ar]at k
   exact⟨(S k t).1,(S k t).2.1⟩
  have Y:∀b,wj cx mask ops p y c b->nh ops c b u.kt=true/\(c,b)∈U.ly:=by
   rintro b ⟨Q,l,t,k,L⟩
   rw[O]at l;simp only[ar]at l;subst l
   rw[A,T]at k
   rw[A,G]at L
   simp only[ar]at k
   exact av k t b L
  refine⟨p,y,A,G,?_,?_,?_,?_,?_,?_,?_,?_,?_⟩
  ·rw[hE _ (by simp),<-a8];congr 1;simp;omega
  ·rw[o _ (by simp),<-bi];congr 1;simp;omega
  ·intro a Q e l
   by_cases f:a=c
   ·subst f
    rw[O]at l;simp only[ar]at l;subst l
    rw[A,G,an,N];exact aE
   ·rw[hE a f,o a f,hE (a+1) (by omega),o (a+1) (by omega)]
    exact bk a Q (by omega) l
  ·intro a b e n g z
   by_cases f:a=c
   ·subst f
    obtain⟨t,_⟩:=Y b n
    exact wU (pj t g z)
   ·exact ae a b (by omega) (P a b f n) g (X g z)
  ·intro a e r g z
   by_cases f:a=c
   ·subst f
    obtain⟨t,_⟩:=R r
    rw[G,N]
    exact wU (pj t g z)
   ·rw[o a f,o (a+1) (by omega)]
    exact al a (by omega) (J a f r) g (ap g z)
  ·intro a d b e n r K
   have s:d≠c:=by omega
   rw[o d s,o (d+1) (by omega)]
   by_cases f:a=c
   ·subst f
    obtain⟨_,k⟩:=Y b n
    exact al d (by omega) (J d s r) (a,b) k
   ·exact bn a d b (by omega) (P a b f n) (J d s r) K
  ·intro a d b e n r K
   have f:a≠c:=by omega
   by_cases s:d=c
   ·subst s
    obtain⟨_,k⟩:=R r
    rw[G,N]
    exact ae a b (by omega) (P a b f n) (d,q,F) k
   ·rw[o d s,o (d+1) (by omega)]
    exact bp a d b (by omega) (P a b f n) (J d s r) K
  ·intro a b e n g z
   by_cases f:a=c
   ·subst f
    exact wU (pj (bs b n) g z)
   ·exact Z a b (by omega) (V a b f n) g (X g z)
  ·intro a d b e n r K
   have f:a≠c:=by omega
   by_cases s:d=c
   ·subst s
    obtain⟨_,k⟩:=R r
    rw[G,N]
    exact Z a b (by omega) (V a b f n) (d,q,F) k
   ·rw[o d s,o (d+1) (by omega)]
    exact a6 a d b (by omega) (V a b f n) (J d s r) K
def Cw(cx:Ctx)(cf:ir)(mask:Nat)(c:Env)(a:H)(f:Op)(g:T)(e:H):Prop:=
 iO f cx mask c a=some (.val g e)\/∃d b,iO f cx mask c a=some (.call d b)/\cf d b a=some (g,e)
theorem mc{e b:Env}{g c:H}{f:Oper}(a:kK cx cf mask ops e g f=some (b,c)):
 (jU ops mask e f.guard=some false/\e.dst mask f.dst .undef=some b/\c=g)\/
 (jU ops mask e f.guard=some true/\∃d,Cw cx cf mask e g f.op d c/\e.dst mask f.dst d=some b):=by
 replace a:=dj.1 a;obtain⟨r,p,a⟩:=a
 cases r with
 |false=>
  left
  have a:(dB (e.dst mask f.dst .undef) λb=>some (b,g))=some (b,c):=a
  replace a:=dj.1 a;obtain⟨m,h,a⟩:=a
  simp only[ar,ax]at a
  obtain⟨rfl,rfl⟩:=a
  exact⟨p,h,rfl⟩
 |true=>
  right
  refine⟨p,?_⟩
  have a:(dB (iO f.op cx mask e g) λk=> @kx.rec (λ_=>aa (Env×TI.H))
   (λd c=>dB (e.dst mask f.dst d) λb=>some (b,c))
   (λj i=>dB (cf j i g) λl=>two l λd c=>dB (e.dst mask f.dst d) λb=>some (b,c)) k)=some (b,c):=a
  replace a:=dj.1 a;obtain⟨k,o,a⟩:=a
  cases k with
  |val d n=>
   have a:(dB (e.dst mask f.dst d) λb=>some (b,n))=some (b,c):=a
   replace a:=dj.1 a;obtain⟨m,h,a⟩:=a
   simp only[ar,ax]at a
   obtain⟨rfl,rfl⟩:=a
   exact⟨d,.inl o,h⟩
  |«call» j i=>
   have a:(dB (cf j i g) λl=>two l λd c=>dB (e.dst mask f.dst d) λb=>some (b,c))=some (b,c):=a
   replace a:=dj.1 a;obtain⟨⟨d,n⟩,q,a⟩:=a
   simp only[jX]at a
   replace a:=dj.1 a;obtain⟨m,h,a⟩:=a
   simp only[ar,ax]at a
   obtain⟨rfl,rfl⟩:=a
   exact⟨d,.inr ⟨j,i,o,q⟩,h⟩
theorem BA{P:ai}{h:Nat}{a:World}{g:Mu}{j:Env}{b c:H}{i:Act}{k:Oper}{f:T}(iB:iG P cx)(o:mN P cx cf)
 (e:St cx h a.heap g b) (l:jS a.heap g mask j i.tmps) (u:Cw cx cf mask j b k.op f c):xV P (pK cx h a g b f c) ((execOp i.eval k).run P a):=by
 rcases u with d|⟨p,m,d,s⟩
 ·exact((xm iB e l d).X9).mono λv w r=>⟨r,Np e.wf f c d⟩
 ·obtain⟨_,n,q,t⟩:=Fi (P:=P) e l d
  rw[t]
  exact o p m b f c s h a g n e q
theorem Cw.congr{b e':Env}{c d:H}{a:Op}{f:T}(h:∀g∈a.operands,eJ cx mask b g=eJ cx mask e' g)(e:Cw cx cf mask b c a f d):Cw cx cf mask e' c a f d:=by
 unfold Cw at*
 rw[yo h]at e
 exact e
theorem Ia{b:Call}{e:Env}{g:H}{f:aj}{d:List T}(a:iO (.call b) cx mask e g=some (.call f d)):fZ (.call b)=true:=by
 have a:Bn b cx mask e g=some (.call f d):=a
 replace a:=dj.1 a;obtain⟨j,hl,a⟩:=a
 cases c:b.callee with
 |builtin h=>rw[c]at a;exact(ud a).elim
 |invoke l k=>rw[c]at a;simp at a
 |value i=>simp[fZ,c]
theorem Gq{d:Env}{e f:H}{c:Op}{i:T}(h:fZ c=false)(l:Cw cx cf mask d e c i f):iO c cx mask d e=some (.val i f):=by
 rcases l with b|⟨k,j,b,_⟩
 ·exact b
 ·by_cases g:∃a,c= .call a
  ·obtain⟨a,rfl⟩:=g
   rw[Ia b]at h;simp at h
  ·exact absurd b (A4 (λa m=>g ⟨a,m⟩) k j)
def xg(mask:Nat)(a:Env):List Nat->eZ
 | []=> .nil
 |s::b=>match a.get mask s with
  |some c=> .cons s c (xg mask a b)
  |none=>xg mask a b
theorem H6{d:Env}{c:Nat}:∀(b:List Nat),dt (xg mask d b) c=if c∈b then d.get mask c else none:=by
 intro b
 induction b with
 |nil=>simp[xg,dt]
 |cons e b g=>
  unfold xg
  cases f:d.get mask e with
  |none=>
   simp only[g,cv]
   by_cases a:c=e
   ·subst a;simp[f]
   ·simp[a]
  |some h=>
   simp only[mz,g,cv]
   by_cases a:e=c
   ·subst a;simp[f]
   ·simp[a,br a]
def AK(mask:Nat)(a:Env)(b:List Nat):Env:=⟨xg mask a b,xg mask a b⟩
theorem xh{b:Env}{a:Nat}{c:List Nat}:(AK mask b c).get mask a=if a∈c then b.get mask a else none:=by
 show @Bool.rec (λ_=>aa T) (dt (xg mask b c) a) (dt (xg mask b c) a) (jJ mask a)=_
 rw[H6]
 cases jJ mask a<;>rfl
theorem yn{a:Env}{c:Oper}{b:ah}(e:b∈c.op.operands):eJ cx mask a b=eJ cx mask (AK mask a (c.looksAt ops)) b:=by
 cases b with
 |tmp d=>
  show a.get mask d=(AK mask a (c.looksAt ops)).get mask d
  rw[xh,aq]
  unfold Oper.looksAt
  exact c8 _ (List.mem_filterMap.2 ⟨.tmp d,by simpa using e,rfl⟩)
 |const f=>rfl
 |global h=>rfl
 |func g=>rfl
theorem Hg{c:Env}{a:Oper}:jU ops mask (AK mask c (a.looksAt ops)) a.guard=jU ops mask c a.guard:=by
 cases h:a.guard with
 |none=>rfl
 |some f=>
  obtain⟨d,k⟩:=f
  show(dB (dB (dB (kW ops.toList d) λa=>a.dst) λb=>(AK mask c (a.looksAt ops)).get mask b) λj=>_)=(dB (dB (dB (kW ops.toList d) λa=>a.dst) λb=>c.get mask b) λj=>_)
  cases e:(dB (kW ops.toList d) λa=>a.dst)with
  |none=>rfl
  |some b=>
   simp only[dD]
   rw[xh,aq]
   unfold Oper.looksAt
   refine List.mem_append_right _ ?_
   replace e:=dj.1 e;obtain⟨f,g,i⟩:=e
   rw[j9]at g
   have:ops[d]? =some f:=by simpa using g
   simp[h,this,i]
end
end
noncomputable section
theorem eg.conv{E:af Obj}{B C:Mu}{b:T}{r:am}(a:eg E B b r){n:Nat}(hl:oP n b)(s:∀c e,c<n->B c=some e->C c=some e)
 (D:∀k,mG C k->mG B k):eg E C b r:=by
 induction a with
 |undef=>exact .undef
 |bool c=>exact .bool c
 |int d Q=>exact .int d Q
 |str S a=>exact .str S a
 |jz=>exact .jz
 |ptr c w k O e h j x L=>cases hl with|ptr _ _ _ _ a=>exact .ptr c w k O e h (s c e a j) x L
 |iT v t off arr q fz A y i p hr g=>
  cases hl with|iT _ a=>exact .iT v t off arr q fz (λd=>A (D _ d)) y i p λd b f=>g d b f (a b (az f))
 |mP m h=>exact .mP m h
 |dq I J m t off u U arr q fz A y z M N i p hr g=>
  cases hl with|dq _ _ a=>exact .dq I J m t off u U arr q fz (λd=>A (D _ d)) y z M N i p λd b f=>g d b f (a b (az f))
 |fg h u=>exact .fg h u
 |arr c w R P m e h G j x z o=>cases hl with|arr _ _ _ _ _ a=>exact .arr c w R P m e h G (s c e a j) x z o
 |func K F l i hr g=>cases hl with|func _ _ a=>exact .func K F l i λd b f=>g d b f (a b (az f))
 |j3=>exact .j3
 |ka=>exact .ka
 |iface q b r a g=>cases hl with|iface _ _ a=>exact .iface q b r (g a)
 |iter c e h j o=>cases hl with|iter _ a=>exact .iter c e h (s c e a j) o
 |map c e k j o=>cases hl with|map _ a=>exact .map c e k (s c e a j) o
 |mL=>exact .mL
 |agg v l i p hr g=>cases hl with|agg _ a=>exact .agg v l i p λd b f=>g d b f (a b (az f))
 |tuple V l i hr g=>cases hl with|tuple _ a=>exact .tuple V l i λd b f=>g d b f (a b (az f))
theorem pQ.conv{u:af Obj}{s t:Mu}{e:Loc}{q:iE}(i:pQ u s e q){n:Nat}(hl:∀c∈d6 q.dO,oP n c)(k:∀m e,m<n->s m=some e->t m=some e)
 (j:∀l,mG t l->mG s l):pQ u t e q:=by
 refine⟨i.ep,i.sz,λb=> ?_,λb=> ?_⟩
 ·have h:=i.plain b
  obtain⟨x,L,a,f,d⟩:=h.row
  exact⟨⟨x,L,a,f,d.1,λb c v=>(d.2 b c v).conv (hl c (az v)) k j⟩,h.room,h.rQ,h.size,h.scalar⟩
 ·obtain⟨p,a|⟨z,a,f,d⟩|⟨G,F,J,K,y,a,f,d,E⟩⟩:=i.iter b
  ·exact⟨p,.inl a⟩
  rotate_left
  ·exact⟨p,.inr (.inr ⟨G,F,J,K,y,a,f.conv (hl _ (by rw[a];simp[d6,T.cells])) k j,d,E⟩)⟩
  ·refine⟨p,.inr (.inl ⟨z,a,f,λl r w=> ?_⟩)⟩
   obtain⟨b,c,I,o,A,B,C,D⟩:=d l r w
   have g:=hl r (List.mem_flatMap.2 ⟨r,az w,by rw[o];simp[T.cells]⟩)
   rw[o]at g
   cases g with|tuple _ g=>exact⟨b,c,I,o,A,B,C.conv (g b (by simp)) k j,D.conv (g c (by simp)) k j⟩
theorem oP.mono{n c:Nat}{d:T}(a:oP n d)(g:n<=c):oP c d:=by
 induction a with
 |ptr b e h i a=>exact .ptr _ _ _ _ (by omega)
 |arr b e k j f a=>exact .arr _ _ _ _ _ (by omega)
 |iter b a=>exact .iter _ (by omega)
 |map b a=>exact .map _ (by omega)
 |_=>constructor<;>assumption
theorem St.congr{cx:Ctx}{f:Nat}{i:af Obj}{e:Mu}{g d:H}(a:St cx f i e g)(m:d.ec.length=d.size)(k:∀b c,e b=some c->d.get b=g.get b):St cx f i e d:=
 ⟨m,a.fit,λb c h=>by obtain⟨o,j,l⟩:=a.box b c h;exact⟨o,by rw[k b c h];exact j,l⟩,a.inj,a.low,a.apart,a.pM,a.xz⟩
theorem H.get_some{a:H}(e:a.ec.length=a.size){b:Nat}(c:b<a.size):∃d,a.get b=some d:=by
 rw[H.get_eq,aq c]
 exact⟨a.ec[a.size-1-b]'(by omega),by simp⟩
def sZ(Hs:Nat->H)(a:Nat):Nat->Nat
 |0=>0
 |k+1=>if a<(Hs k).size then sZ Hs a k else k+1
theorem EA(Hs:Nat->H)(a n:Nat):sZ Hs a n<=n:=by
 induction n with
 |zero=>simp[sZ]
 |succ n b=>unfold sZ;split<;>omega
theorem U5{Hs:Nat->H}{b:Nat}{n:Nat}(e:∀a,a<n->(Hs a).size<=(Hs (a+1)).size)(c:b<(Hs n).size):b<(Hs (sZ Hs b n)).size:=by
 induction n with
 |zero=>exact c
 |succ n f=>
  unfold sZ
  split
  ·rename_i d;exact f (λa g=>e a (by omega)) d
  ·exact c
theorem Qx{Hs:Nat->H}{d:Nat}:∀{n p:Nat},p<sZ Hs d n->(∀b,b<n->(Hs b).size<=(Hs (b+1)).size)->(Hs p).size<=d:=by
 intro n
 induction n with
 |zero=>intro p a;simp[sZ]at a
 |succ n g=>
  intro p a e
  unfold sZ at a
  split at a
  ·exact g a λb j=>e b (by omega)
  ·rename_i i
   have:∀c,p+c=n->(Hs p).size<=(Hs n).size:=by
    intro c
    induction c generalizing p with
    |zero=>intro f;rw[show p=n by omega];exact au _
    |succ c h=>
     intro f
     have:=e p (by omega)
     have:=h (p:=p+1) (by omega) (by omega)
     omega
   have:=this (n-p) (by omega)
   omega
section
variable {Hs:Nat->H}{n:Nat}
theorem mv(f:∀c,c<n->(Hs c).size<=(Hs (c+1)).size){b d:Nat}(e:b<=d)(j:d<=n):(Hs b).size<=(Hs d).size:=by
 obtain⟨a,rfl⟩:=Nat.exists_eq_add_of_le e
 clear e
 induction a with
 |zero=>exact au _
 |succ a g=>
  have h:=g (by omega)
  have i:=f (b+a) (by omega)
  have:b+(a+1)=b+a+1:=by omega
  rw[this];omega
theorem ku(c:∀a,a<n->(Hs a).size<=(Hs (a+1)).size){b a:Nat}(e:b<(Hs n).size)(g:a<=n):b<(Hs a).size↔sZ Hs b n<=a:=by
 constructor
 ·intro d
  rcases aD a (sZ Hs b n)with h|f
  ·have:=Qx h c;omega
  ·exact f
 ·intro d
  have:=U5 c e
  have:=mv c d g
  omega
theorem li(l:∀a,a<n->(Hs a).size<=(Hs (a+1)).size){c b e:Nat}(g:b<=e)(f:∀a,b<=a->a<e->(Hs (a+1)).get c=(Hs a).get c):(Hs e).get c=(Hs b).get c:=by
 obtain⟨d,rfl⟩:=Nat.exists_eq_add_of_le g
 clear g
 induction d with
 |zero=>rfl
 |succ d k=>
  have i:=k λa h c=>f a h (by omega)
  have j:=f (b+d) (by omega) (by omega)
  have:b+(d+1)=b+d+1:=by omega
  rw[this,j,i]
end
def PH(Hs:Nat->H)(n:Nat)(b:Nat->Nat):H:=
 ⟨(Hs n).size,0,(List.range (Hs n).size).reverse.map λa=>((Hs (max (b a) (sZ Hs a n))).get a).getD default⟩
theorem Df(Hs:Nat->H)(n:Nat)(a:Nat->Nat):(PH Hs n a).ec.length=(PH Hs n a).size:=by simp[PH]
theorem VE{Hs:Nat->H}{n a:Nat}{c:Nat->Nat}(g:∀b,b<n->(Hs b).size<=(Hs (b+1)).size)(i:∀b,b<=n->(Hs b).ec.length=(Hs b).size)(k:c a<=n)(d:a<(Hs n).size):
 (PH Hs n c).get a=(Hs (max (c a) (sZ Hs a n))).get a:=by
 have e:max (c a) (sZ Hs a n)<=n:=by have:=EA Hs a n;omega
 have f:a<(Hs (max (c a) (sZ Hs a n))).size:=(ku g d e).2 (by omega)
 obtain⟨l,j⟩:=H.get_some (i _ e) f
 rw[H.get_eq]
 have h:(PH Hs n c).size=(Hs n).size:=rfl
 rw[h,aq d]
 show((List.range (Hs n).size).reverse.map λa=>((Hs (max (c a) (sZ Hs a n))).get a).getD default)[(Hs n).size-1-a]? =_
 rw[aT,List.getElem?_reverse (by simp;omega)]
 have:(List.range (Hs n).size).length-1-((Hs n).size-1-a)=a:=by simp;omega
 rw[this]
 simp[d,j]
def qX(b:af Oper)(a:af Bool)(c:Nat):Nat->Nat
 |0=>0
 |k+1=>if a.getD k false=true/\(b[k]?).bind (·.dst)=some c then k+1 else qX b a c k
theorem xr{ops:af Oper}{listed:af Bool}{s:Nat}:∀(n:Nat),qX ops listed s n=0\/∃a,qX ops listed s n=a+1/\a<n/\listed.getD a false=true/\(ops[a]?).bind (·.dst)=some s:=by
 intro n
 induction n with
 |zero=>left;rfl
 |succ n e=>
  unfold qX
  split
  ·rename_i b;right;exact⟨n,rfl,by omega,b.1,b.2⟩
  ·rcases e with b|⟨a,c,f,d⟩
   ·left;exact b
   ·right;exact⟨a,c,by omega,d⟩
theorem H3{ops:af Oper}{listed:af Bool}{s:Nat}:∀{n a:Nat},a<n->listed.getD a false=true->(ops[a]?).bind (·.dst)=some s->a+1<=qX ops listed s n:=by
 intro n
 induction n with
 |zero=>intro a d;omega
 |succ n g=>
  intro a d b c
  unfold qX
  split
  ·omega
  ·rename_i e
   rcases Nat.eq_or_lt_of_le (Nat.le_of_lt_succ d)with rfl|f
   ·exact absurd ⟨b,c⟩ e
   ·exact g f b c
theorem Un{ops:af Oper}{listed:af Bool}{s:Nat}(n:Nat):qX ops listed s n<=n:=by
 rcases xr (ops:=ops) (listed:=listed) (s:=s) n with a|⟨d,b,c,_⟩<;>omega
theorem KT{c:af Oper}{g h:af Bool}{d:Nat}:∀{n:Nat},(∀a,a<n->(c[a]?).bind (·.dst)=some d->h.getD a false=g.getD a false)->qX c h d n=qX c g d n:=by
 intro n
 induction n with
 |zero=>intro _;rfl
 |succ n b=>
  intro e
  have b:=b λa i=>e a (by omega)
  unfold qX
  by_cases f:(c[n]?).bind (·.dst)=some d
  ·rw[e n (by omega) f,b]
  ·simp[f,b]
end
end Go.TI
