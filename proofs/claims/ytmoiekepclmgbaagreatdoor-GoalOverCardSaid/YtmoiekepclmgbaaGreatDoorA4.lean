/- TiEnv -/
import Derived.Test.YtmoiekepclmgbaaGreatDoorA3
import Derived.Orders
set_option linter.all false
namespace Go.TI
noncomputable section
def oN(b:Nat)(d:T)(c:iz)(a:Nat):d8 (.cons b d c) a=if b=a then some d else d8 c a:=by
 show @Bool.rec (λ_=>aa T) (d8 c a) (some d) (Nat.beq b a)=_;cases e:Nat.beq b a with
 |true=>have:=aF e;simp[this]
 |false=>have:=cY e;simp[this]
def Jj{l e:iz}{c:Nat}{g:T}(a:mX l c g=some e)(f:Nat):d8 e f=if f=c then some g else d8 l f:=by
 induction l generalizing e with
 |nil=>
  have a:some (iz.cons c g .nil)=some e:=a;simp only[ar]at a;subst a;rw[oN];by_cases b:c=f
  ·simp[b]
  ·simp[b,br b]
 |cons d m i o=>
  have a: @Bool.rec (λ_=>aa iz) (Z (mX i c g) λj=>some (.cons d m j)) (some (.cons d g i)) (Nat.beq d c)=some e:=a;cases h:Nat.beq d c with
  |true=>
   rw[h]at a;have k:=aF h;have a:some (iz.cons d g i)=some e:=a;simp only[ar]at a;subst a;rw[oN,oN,k];by_cases b:c=f
   ·simp[b]
   ·simp[b,br b]
  |false=>
   rw[h]at a;have k:=cY h;have a:(Z (mX i c g) λj=>some (iz.cons d m j))=some e:=a;have⟨j,ht,a⟩:=dX.1 a;simp only[ar]at a;subst a;rw[oN,oN,o ht];by_cases b:d=f
   ·have:f≠c:=λn=>k (b.trans n);simp[b,this]
   ·simp[b]
def Env.DE{d:Nat}{m g:Env}{c:Nat}{f:T}(a:m.set d c f=some g)(b:Nat):g.get d b=if b=c then some f else m.get d b:=by
 obtain⟨l,k⟩:=m;have a: @Bool.rec (λ_=>aa Env) (some ⟨l,.cons c f k⟩) (Z (mX l c f) λj=>some ⟨j,k⟩) (kS d c)=some g:=a;have get:∀(h i:iz),(⟨h,i⟩:Env).get d b=if kS d b=true then d8 h b else d8 i b:=by
  intro h i;show @Bool.rec (λ_=>aa T) (d8 i b) (d8 h b) (kS d b)=_;cases kS d b<;>rfl
 cases hl:kS d c with
 |false=>
  rw[hl]at a;have a:some (⟨l,.cons c f k⟩:Env)=some g:=a;simp only[ar]at a;subst a;rw[get,get,oN];by_cases e:b=c
  ·subst e;simp[hl]
  ·simp[e,br e]
 |true=>
  rw[hl]at a;have a:(Z (mX l c f) λj=>some (⟨j,k⟩:Env))=some g:=a;have⟨j,n,a⟩:=dX.1 a;simp only[ar]at a;subst a;rw[get,get,Jj n];by_cases e:b=c
  ·subst e;simp[hl]
  ·simp[e]
theorem lj.put{k:af Obj}{m:Mu}{h:Nat}{f g:Env}{i:Act}{e:aa Tmp}{l:T}{c:am}(o:lj k m h f i.tmps)(s:gW k m l c)(q:∀b,e=some b->b<i.tmps.size)
 (a:f.dst h e l=some g):lj k m h g (i.put e c).tmps:=by
 cases e with
 |none=>
  have a:some f=some g:=a;simp only[ar]at a;subst a;exact o
 |some b=>
  have a:f.set h b l=some g:=a;intro p t d;rw[Env.DE a]at d;have r:=q b rfl;by_cases j:p=b
  ·subst j;simp only[bj,ar]at d;subst d;simpa[Act.put,cd,r]using s
  ·simp only[j,bh]at d;have:=o p t d;simpa[Act.put,cd,Array.getElem?_setIfInBounds_ne (br j)]using this
def Act.rY(a:Act)(b:aa Tmp)(c:am):(a.put b c).tmps.size=a.tmps.size:=by cases b<;>simp[Act.put]
def Act.rZ(a:Act)(b:aa Tmp)(c:am):(a.put b c).defers=a.defers:=by cases b<;>rfl
def DW{x:af Obj}{A:Mu}{l:Nat}{j:Env}{c:Act}{g:af Oper}{i:Oper}{d:Bool}(z:lj x A l j c.tmps)(v:∀(f:Nat) (b:Oper) t,g[f]? =some b->b.dst=some t->t<c.tmps.size)
 (a:lq g l j i.guard=some d):Region.wanted i (yielded g c.tmps)=d:=by
 unfold Region.wanted;cases o:i.guard with
 |none=>
  rw[o]at a;have a:some true=some d:=a;simpa using a
 |some b=>
  obtain⟨f,n⟩:=b;rw[o]at a;have a:(Z (Z (Z (nJ g.toList f) λi=>i.dst) λe=>j.get l e) λm=>
   match m with
   | .bool d=>some (@Bool.rec (λ_=>Bool) (@Bool.rec (λ_=>Bool) true false n) n d)
   |_=>some false)=some d:=a
  replace a:=dX.1 a;obtain⟨m,h,a⟩:=a;replace h:=dX.1 h;obtain⟨e,k,h⟩:=h;replace k:=dX.1 k;obtain⟨b,p,r⟩:=k;rw[lI]at p;have q:g[f]? =some b:=by simpa using p
  have w:=v f b e q r;have s:=z e m h;have y:((g[f]?).bind (·.dst)).bind (c.tmps[·]?)=some (c.tmps.getD e Go.undef):=by
   simp[q,r,cd,w]
  simp only[yielded,y];generalize c.tmps.getD e Go.undef=B at s;cases s<;>simp only[ar]at a<;>first
   |(subst a;rfl)
   |skip
  rename_i u;subst a;cases u<;>cases n<;>rfl
section
def sS(cx:Ctx)(base:Nat)(w:World)(f:Mu)(h:H)(c:T)(h':H)(b:am)(d:World):Prop:=YY cx base w f h.size c h' b d/\mz h h'
def o6(P:ai)(cx:Ctx)(cf:jB):Prop:=
 ∀f c h g h',cf f c h=some (g,h')->∀base w b (d:af am),St cx base w.heap b h->iJ w.heap b c d.toList->BI P (sS cx base w b h g h') ((callFunc f d).run P w)
def vI(cx:Ctx)(base J m:Nat)(w0:World)(μ0:Mu)(h0:H)(e:Env)(h:H)(a:Act)(w:World):Prop:=
 ∃b,St cx base w.heap b h/\lj w.heap b J e a.tmps/\rk w0 μ0 w b/\Ax μ0 b h0.size h.size/\mz h0 h/\a.tmps.size=m/\a.defers=[]
section
variable {P:ai}{cx:Ctx}{cf:jB}{base J m:Nat}{w0 w:World}{μ0:Mu}{h0 h h':H}{e e':Env}{a:Act}{ops:af Oper}{Q:Exit->Act->World->Prop}
def HK(m:Nat)(ops:af Oper):Prop:=∀(d:Nat) (b:Oper) c,ops[d]? =some b->b.dst=some c->c<m
def vI.after(H:vI cx base J m w0 μ0 h0 e h a w){d:aa Tmp}(z:∀b,d=some b->b<m){l:T}(r:e.dst J d l=some e')
 {g:Result Next} (hr:∀base c,St cx base w.heap c h->lj w.heap c J e a.tmps->BI P (sS cx base w c h l h') g):BI P (λi n=>vI cx base J m w0 μ0 h0 e' h' (a.put d i) n) g:=by
 obtain⟨c,b,k,x,o,p,j,A⟩:=H;refine(hr base c b k).mono λi n q=>?_;obtain⟨⟨y,s,t,f,u⟩,v⟩:=q;refine⟨y,t,?_,x.trans f,o.trans (hp:=w.heap) u f.ext,p.trans v,by rw[Act.rY];exact j,by rw[Act.rZ];omega⟩;exact lj.put (k.ext f.ext) s (λb B=>by rw[j];grind) r
def LA(jQ:jF P cx)(K:o6 P cx cf){n:Nat}{d:Oper}(s:ops[n]? =some d)(r:HK m ops)(b:mI cx cf J ops e h d=some (e',h'))
 (H:vI cx base J m w0 μ0 h0 e h a w) {z:Act->World->Prop} (v:∀A o,vI cx base J m w0 μ0 h0 e' h' A o->z A o):wpOp P ops Q n z a w:=by
 have F:=H;obtain⟨t,c,f,X,L,M,x,ae⟩:=F;unfold wpOp;simp only[s];replace b:=dX.1 b;obtain⟨W,T,b⟩:=b;have E:=DW f (λU V c R i=>by rw[x];exact r U V c R i) T;cases W with
 |false=>
  have b:(Z (e.dst J d.dst .undef) λe'=>some (e',h))=some (e',h'):=b;replace b:=dX.1 b;obtain⟨C,l,b⟩:=b;simp only[ar,aB]at b;obtain⟨rfl,rfl⟩:=b;simp only[E,cD,bh];refine v _ _ ⟨t,c,lj.put f .undef (λc i=>by rw[x];exact r n d c s i) l,X,L,M,by rw[Act.rY];exact x,by rw[Act.rZ];omega⟩
 |true=>
  simp only[E,bj];left;have b:(Z (jT d.op cx J e h) λu=> @mS.rec (λ_=>aa (Env×TI.H))
   (λg h'=>Z (e.dst J d.dst g) λe'=>some (e',h'))
   (λq p=>Z (cf q p h) λf=>two f λg h'=>Z (e.dst J d.dst g) λe'=>some (e',h')) u)=some (e',h'):=b
  replace b:=dX.1 b;obtain⟨u,y,b⟩:=b;rcases u with⟨g,j⟩|⟨q,p⟩
  ·skip
   have b:(Z (e.dst J d.dst g) λe'=>some (e',j))=some (e',h'):=b;replace b:=dX.1 b;obtain⟨C,l,b⟩:=b;simp only[ar,aB]at b;obtain⟨rfl,rfl⟩:=b;refine BI.wp (H.after (λc i=>r n d c s i) l (h':=j) λbase t c f=>?_) (λB o k=>v _ _ k);exact((AZ jQ c f y).ran).mono λB o k=>⟨k,Ti c.wf g j y⟩
  ·skip
   have b:(Z (cf q p h) λf=>two f λg h'=>Z (e.dst J d.dst g) λe'=>some (e',h'))=some (e',h'):=b;replace b:=dX.1 b;obtain⟨⟨g,j⟩,O,b⟩:=b;simp only[lQ]at b;replace b:=dX.1 b;obtain⟨C,l,b⟩:=b;simp only[ar,aB]at b;obtain⟨rfl,rfl⟩:=b;refine BI.wp (H.after (λc i=>r n d c s i) l (h':=j) λbase t c f=>?_) (λB o k=>v _ _ k);have⟨_,I,N,S⟩:=JB (P:=P) c f y;rw[S];exact K q p h g j O base w t I c N
def HO(jQ:jF P cx)(n:o6 P cx cf)(q:HK m ops):∀(c:List Oper) (d:Nat) (e:Env) (h:H) (a:Act) (w:World),(∀g,c[g]? =ops[d+g]?)->
 ly cx cf J ops c e h=some (e',h')->vI cx base J m w0 μ0 h0 e h a w->(∀f i,vI cx base J m w0 μ0 h0 e' h' f i->Q .normal f i)->wpOps P ops Q (List.range' d c.length) a w:=by
 intro c;induction c with
 |nil=>
  intro d e h a w _ b H j;have b:some (e,h)=some (e',h'):=b;simp only[ar,aB]at b;obtain⟨rfl,rfl⟩:=b;exact j a w H
 |cons k c t=>
  intro d e h a w hl b H j;have b:(Z (mI cx cf J ops e h k) λu=>two u λe' h'=>ly cx cf J ops c e' h')=some (e',h'):=b;replace b:=dX.1 b;obtain⟨⟨o,p⟩,s,b⟩:=b;simp only[lQ]at b;simp only[aP,List.range'_succ];rw[wpOps_cons];have r:ops[d]? =some k:=by have:=hl 0;grind
  refine LA jQ n r q s H λf i l=>t (d+1) o p f i (λg=>?_) b l j;have:=hl (g+1);simp only[dq]at this;rw[this];grind
def Wx(m:Nat)(ops:af Oper):Bool:=ops.toList.all λb=>match b.dst with|some c=>Nat.blt c m|none=>true
def Ww(b:Wx m ops=true):HK m ops:=by
 intro g d i f c;unfold Wx at b;rw[cz]at b;have:=b d (by grind);rw[c]at this;simp_all
def nU(m:Nat)(qu:af Oper->Bool):Code->Bool
 | .region _ ops c=>Wx m ops&&(!c||qu ops)
 | .seq a b=>nU m qu a&&nU m qu b
 | .cond _ a b=>nU m qu a&&nU m qu b
 | .block _ b=>nU m qu b
 | .loop b=>nU m qu b
 |_=>true
def aeL:Ex->Exit
 | .normal=> .normal
 | .exit b=> .exit b
 | .ret=> .ret
def UX(P:ai)(cx:Ctx)(cf:jB)(qu:af Oper->Bool):Prop:=
 ∀(base J m:Nat) (w0:World) (μ0:Mu) (h0:H) (ops:af Oper) (e e':Env) (h h':H) (a:Act) (w:World) (Q:Exit->Act->World->Prop) (id:Nat),qu ops=true->HK m ops->
  kI cx cf J ops ops.toList 0 ⟨[],[]⟩ e h=some (e',h')->vI cx base J m w0 μ0 h0 e h a w->(∀b c,vI cx base J m w0 μ0 h0 e' h' b c->Q .normal b c)->(Code.region id ops true).wp P Q a w
def vI.drop(H:vI cx base J m w0 μ0 h0 e h a w):vI cx base J m w0 μ0 h0 ⟨e.vars,.nil⟩ h a w:=by
 obtain⟨q,n,l,p,g,i,k,j⟩:=H;refine⟨q,n,λb d c=>l b d ?_,p,g,i,k,j⟩;obtain⟨f,o⟩:=e;have c: @Bool.rec (λ_=>aa T) (d8 .nil b) (d8 f b) (kS J b)=some d:=c;show @Bool.rec (λ_=>aa T) (d8 o b) (d8 f b) (kS J b)=some d;cases hl:kS J b with
 |true=>rw[hl]at c;exact c
 |false=>rw[hl]at c;grind [d8]
def wpL(P:ai)(d:Code)(Q:Exit->Act->World->Prop)(a:Act)(w:World):Prop:=
 ∀(c:Frame) (g:List Item) (f:List Frame),∃e b i,Q e b i/\Arrives P (lone (c.at a (.code d:: .inLoop d::g)) f w) c g f e b i
def OZ{b:Code}(h:b.wp P (Exit.then (wpL P b Q) Q) a w):wpL P b Q a w:=by
 intro i k j;have⟨e,f,g,d,c⟩:=h i (.inLoop b::k) j;cases e with
 |normal=>
  have⟨n,l,q,p,o⟩:=d i k j;exact⟨n,l,q,p,.of_steps (Steps.trans c (.one step_inLoop)) o⟩
 |exit id=>exact⟨_,f,g,d,.pass (x:= .inLoop b) rfl (λ_ _=> .inl Y) c⟩
 |goto s=>exact⟨_,f,g,d,.pass (x:= .inLoop b) rfl (λ_ _=> .inl Y) c⟩
 |ret=>exact⟨_,f,g,d,.pass (x:= .inLoop b) rfl (λ_ _=> .inl Y) c⟩
 |panic r=>exact⟨_,f,g,d,.pass (x:= .inLoop b) rfl (λ_ _=> .inl Y) c⟩
 |outgrown=>exact⟨_,f,g,d,.pass (x:= .inLoop b) rfl (λ_ _=> .inl Y) c⟩
def OY{b:Code}(h:wpL P b Q a w):(Code.loop b).wp P Q a w:=by
 intro d j f;have⟨e,c,k,i,g⟩:=h d j f;exact⟨e,c,k,i,.of_steps (.one step_loop) g⟩
def afi(P:ai)(cx:Ctx)(base J m:Nat)(w0:World)(μ0:Mu)(h0:H)(f:Code)(g:Env->H->Out):Prop:=
 ∀e h d e' h',g e h=some (d,e',h')->∀a w Q,vI cx base J m w0 μ0 h0 e h a w->(∀b c,vI cx base J m w0 μ0 h0 e' h' b c->Q (aeL d) b c)->f.wp P Q a w
def Mr{p:Code}{j:Env->H->Out}(s:afi P cx base J m w0 μ0 h0 p j):∀(f:Nat) (e:Env) (h:H) (c:Ex) (e':Env) (h':H),pT j f e h=some (c,e',h')->
 ∀a w Q,vI cx base J m w0 μ0 h0 e h a w->(∀d g,vI cx base J m w0 μ0 h0 e' h' d g->Q (aeL c) d g)->wpL P p Q a w:=by
 intro f;induction f with
 |zero=>simp[pT]
 |succ f t=>
  intro e h c e' h' b a w Q H n;have b:(Z (j e h) λu=>three u λc e' h'=> @Ex.rec (λ_=>Out) (pT j f e' h') (λo=>some (.exit o,e',h')) (some (.ret,e',h')) c)=some (c,e',h'):=b;replace b:=dX.1 b;obtain⟨⟨q,i,k⟩,r,b⟩:=b;refine OZ (s e h q i k r a w _ H λd g l=>?_);cases q with
  |normal=>
   have b:pT j f i k=some (c,e',h'):=b;exact t i k c e' h' b d g Q l n
  |exit o=>
   have b:some (Ex.exit o,i,k)=some (c,e',h'):=b;simp only[ar,aB]at b;obtain⟨rfl,rfl,rfl⟩:=b;exact n d g l
  |ret=>
   have b:some (Ex.ret,i,k)=some (c,e',h'):=b;simp only[ar,aB]at b;obtain⟨rfl,rfl,rfl⟩:=b;exact n d g l
def MY(jQ:jF P cx)(L:o6 P cx cf){qu:af Oper->Bool}(M:UX P cx cf qu)(p:Nat):∀(s:Code),nU m qu s=true->afi P cx base J m w0 μ0 h0 s (kJ cx cf p J s):=by
 intro s;induction s with
 |skip=>
  intro _ e h c e' h' b a w Q H d;have b:some (Ex.normal,e,h)=some (c,e',h'):=b;simp only[ar,aB]at b;obtain⟨rfl,rfl,rfl⟩:=b;exact wp_skip (d a w H)
 |exit id=>
  intro _ e h c e' h' b a w Q H d;have b:some (Ex.exit id,e,h)=some (c,e',h'):=b;simp only[ar,aB]at b;obtain⟨rfl,rfl,rfl⟩:=b;exact wp_exit (d a w H)
 |ret=>
  intro _ e h c e' h' b a w Q H d;have b:some (Ex.ret,e,h)=some (c,e',h'):=b;simp only[ar,aB]at b;obtain⟨rfl,rfl,rfl⟩:=b;exact wp_ret (d a w H)
 |region id ops N=>
  intro g e h c e' h' b a w Q H d;simp only[nU,ax]at g;have I:=Ww g.1;have n:=H.drop;obtain⟨E,T⟩:=e;cases N with
  |false=>
   have b:(Z (ly cx cf J ops ops.toList ⟨E,.nil⟩ h) λo=>two o λe' h'=>some (Ex.normal,(⟨e'.vars,.nil⟩:Env),h'))=some (c,e',h'):=b;replace b:=dX.1 b;obtain⟨⟨k,j⟩,q,b⟩:=b;simp only[lQ,ar,aB]at b;obtain⟨rfl,rfl,rfl⟩:=b;refine wp_region ?_;rw[List.range_eq_range'];have:=HO (Q:=Q) jQ L I ops.toList 0 ⟨E,.nil⟩ h a w (λS=>by simp) q n λf i x=>d f i x.drop;omega
  |true=>
   have b:(Z (kI cx cf J ops ops.toList 0 ⟨[],[]⟩ ⟨E,.nil⟩ h) λo=>two o λe' h'=>some (Ex.normal,(⟨e'.vars,.nil⟩:Env),h'))=some (c,e',h'):=b;replace b:=dX.1 b;obtain⟨⟨k,j⟩,q,b⟩:=b;simp only[lQ,ar,aB]at b;obtain⟨rfl,rfl,rfl⟩:=b;exact M base J m w0 μ0 h0 ops _ _ h j a w Q id (by grind) I q n λf i x=>d f i x.drop
 |seq r y A B=>
  intro g e h c e' h' b a w Q H d;simp only[nU,ax]at g;have b:(Z (kJ cx cf p J r e h) λo=>three o λc e' h'=> @Ex.rec (λ_=>Out) (kJ cx cf p J y e' h') (λl=>some (.exit l,e',h')) (some (.ret,e',h')) c)=some (c,e',h'):=b;replace b:=dX.1 b;obtain⟨⟨t,k,j⟩,q,b⟩:=b;refine wp_seq (A g.1 e h t k j q a w _ H λf i n=>?_);cases t with
  |normal=>exact B g.2 k j c e' h' b f i Q n d
  |exit l=>
   have b:some (Ex.exit l,k,j)=some (c,e',h'):=b;simp only[ar,aB]at b;obtain⟨rfl,rfl,rfl⟩:=b;exact d f i n
  |ret=>
   have b:some (Ex.ret,k,j)=some (c,e',h'):=b;simp only[ar,aB]at b;obtain⟨rfl,rfl,rfl⟩:=b;exact d f i n
 |cond K r y A B=>
  intro g e h c e' h' b a w Q H d;simp only[nU,ax]at g;have b:(Z (ir cx J e K) λC=>match C with
   | .bool v=> @Bool.rec (λ_=>Out) (kJ cx cf p J y e h) (kJ cx cf p J r e h) v
   |_=>none)=some (c,e',h'):=b
  replace b:=dX.1 b;obtain⟨C,O,b⟩:=b;cases C<;>simp only[reduceCtorEq]at b;rename_i v;have F:a.eval K= .bool v:=by
   obtain⟨U,R,o,_⟩:=H;exact(iL R o O).sk
  cases v with
  |true=>exact wp_cond_true F (A g.1 e h c e' h' b a w Q H d)
  |false=>exact wp_cond_false F (B g.2 e h c e' h' b a w Q H d)
 |block id r z=>
  intro g e h c e' h' b a w Q H d;have b:(Z (kJ cx cf p J r e h) λo=>three o λc e' h'=> @Ex.rec (λ_=>Out) (some (.normal,e',h')) (λl=> @Bool.rec (λ_=>Out) (some (.exit l,e',h')) (some (.normal,e',h')) (Nat.beq l id)) (some (.ret,e',h')) c)=some (c,e',h'):=b;replace b:=dX.1 b;obtain⟨⟨t,k,j⟩,q,b⟩:=b;refine wp_block (z g e h t k j q a w _ H λf i n=>?_);cases t with
  |normal=>
   have b:some (Ex.normal,k,j)=some (c,e',h'):=b;simp only[ar,aB]at b;obtain⟨rfl,rfl,rfl⟩:=b;exact d f i n
  |exit l=>
   have b: @Bool.rec (λ_=>Out) (some (.exit l,k,j)) (some (.normal,k,j)) (Nat.beq l id)=some (c,e',h'):=b;show(if l=id then Q .normal f i else Q (.exit l) f i);cases u:Nat.beq l id with
   |true=>
    rw[u]at b;simp only[ar,aB]at b;obtain⟨rfl,rfl,rfl⟩:=b;rw[aq (aF u)];exact d f i n
   |false=>
    rw[u]at b;simp only[ar,aB]at b;obtain⟨rfl,rfl,rfl⟩:=b;rw[ao (cY u)];exact d f i n
  |ret=>
   have b:some (Ex.ret,k,j)=some (c,e',h'):=b;simp only[ar,aB]at b;obtain⟨rfl,rfl,rfl⟩:=b;exact d f i n
 |loop r z=>
  intro g e h c e' h' b a w Q H d;exact OY (Mr (z g) p e h c e' h' b a w Q H d)
 |_=>intro _ e h c e' h' b;exact absurd b (by simp[kJ])
end
end
section
def oM{d g:Type}{b c:d->aa g}:∀{a:List d},(∀x∈a,b x=c x)->iu b a=iu c a
 | [],_=>rfl
 |x::a,h=>by
  rw[kl,kl,h x Y,oM λf i=>h f (by grind)]
section
variable {cx:Ctx}{J:Nat}{e e':Env}{h h1 h2:H}
def CP{a:List ah}(c:∀b∈a,ir cx J e b=ir cx J e' b):r7 cx J e a=r7 cx J e' a:=oM c
def zj{b:List (Nat×ah)}(d:∀a∈b,ir cx J e a.2=ir cx J e' a.2):partsOf cx J e b=partsOf cx J e' b:=by
 unfold partsOf;refine oM λa c=>?_;obtain⟨f,g⟩:=a;simp only[lQ];rw[d (f,g) c]
def wQ{b:aa ah}(f:∀a,b=some a->ir cx J e a=ir cx J e' a):kw cx J e b=kw cx J e' b:=by
 cases b with
 |none=>rfl
 |some a=>
  show(Z (ir cx J e a) λd=>Z (rN d) λc=>some (some c))=(Z (ir cx J e' a) λd=>Z (rN d) λc=>some (some c));rw[f a rfl]
def B3{f:Op}(b:∀a∈f.operands,ir cx J e a=ir cx J e' a):jT f cx J e h=jT f cx J e' h:=by
 by_cases u:∃d,f= .call d
 ·obtain⟨d,rfl⟩:=u;have h1:r7 cx J e d.args.toList=r7 cx J e' d.args.toList:=CP λa v=>b a (by simp only[Op.operands,Call.operands,Array.mem_append];grind);simp only[jT,Ff,h1];cases t:d.callee with
  |builtin i=>rfl
  |invoke a E=>rfl
  |value n=>
   have h2:=b n (by simp only[Op.operands,Call.operands,t];simp)
   grind
 cases f with
 |move a=>have h1:=b a (by simp[Op.operands]);simp_all[Fc,jT]
 |assign a=>have h1:=b a (by simp[Op.operands]);simp_all[Fc,jT]
 |pick d g i=>
  have h1:=b d (by simp[Op.operands]);have h2:=b g (by simp[Op.operands]);have s:=b i (by simp[Op.operands]);simp_all[Ho,jT]
 |alloc c=>rfl
 |box c a=>have h1:=b a (by simp[Op.operands]);simp_all[Qn,jT]
 |build c l=>
  have h1:partsOf cx J e l.toList=partsOf cx J e' l.toList:=zj λo w=>b o.2 (by simp only[Op.operands,List.mem_toArray,cW];grind);simp_all[Co,jT]
 |buildSlice c F l=>
  have h1:partsOf cx J e l.toList=partsOf cx J e' l.toList:=zj λo w=>b o.2 (by simp only[Op.operands,List.mem_toArray,cW];grind);simp_all[pW,jT]
 |load c g=>have h1:=b g (by simp[Op.operands]);simp_all[KA,jT]
 |store c g a=>have h1:=b g (by simp[Op.operands]);have h2:=b a (by simp[Op.operands]);simp_all[E9,jT]
 |nilCheck a=>have h1:=b a (by simp[Op.operands]);simp_all[tM,jT]
 |binOp f c a z K=>
  have h1:=b a (by simp[Op.operands]);have h2:=b z (by simp[Op.operands]);cases f<;>simp only[jT,hEq,Qo,h1,h2]
 |unOp f c a=>have h1:=b a (by simp[Op.operands]);simp_all[hUn,jT]
 |convert y A a=>have h1:=b a (by simp[Op.operands]);simp_all[N5,jT]
 |makeInterface c a=>have h1:=b a (by simp[Op.operands]);simp_all[Ck,jT]
 |makeFunc B g i=>
  have h1:r7 cx J e i.toList=r7 cx J e' i.toList:=CP λa v=>b a (by simp only[Op.operands,Array.mem_append];grind);simp_all[Fd,jT]
 |makeSlice c x d=>have h1:=b x (by simp[Op.operands]);have h2:=b d (by simp[Op.operands]);simp_all[qY,jT]
 |slice c a q p r=>
  have h1:=b a (by simp[Op.operands]);have h2:kw cx J e q=kw cx J e' q:=wQ λk j=>b k (by subst j;simp[Op.operands]);have s:kw cx J e p=kw cx J e' p:=wQ λk j=>b k (by subst j;simp[Op.operands]);have C:kw cx J e r=kw cx J e' r:=wQ λk j=>b k (by subst j;simp[Op.operands]);simp_all[Fa,jT]
 |fieldAddr c a n=>have h1:=b a (by simp[Op.operands]);simp_all[rf,jT]
 |field c a n=>have h1:=b a (by simp[Op.operands]);simp_all[Cn,jT]
 |indexAddr c a m=>have h1:=b a (by simp[Op.operands]);have h2:=b m (by simp[Op.operands]);simp_all[qZ,jT]
 |index c a m=>have h1:=b a (by simp[Op.operands]);have h2:=b m (by simp[Op.operands]);simp_all[Cj,jT]
 |extract a m=>have h1:=b a (by simp[Op.operands]);simp_all[wt,jT]
 |makeMap c I=>rfl
 |lookup=>rfl
 |mapUpdate=>rfl
 |range c a=>have h1:=b a (by simp[Op.operands]);simp_all[Fb,Bi,jT]
 |next it y=>have h1:=b it (by simp[Op.operands]);simp_all[Cg,Ky,jT]
 |entry=>rfl
 |_=>first|rfl|grind
def yh{c:Op}(b:∀a∈c.operands,ir cx J e a=ir cx J e' a):iM cx J e h c=iM cx J e' h c:=by
 cases c with
 |load d a=>have h1:=b a (by simp[Op.operands]);grind [iM]
 |indexAddr d a f=>have h1:=b a (by simp[Op.operands]);grind [iM]
 |slice d a j i k=>have h1:=b a (by simp[Op.operands]);grind [iM]
 |convert m g a=>have h1:=b a (by simp[Op.operands]);grind [iM]
 |lookup d a f l=>have h1:=b a (by simp[Op.operands]);grind [iM]
 |_=>rfl
def km(h1 h2:H)(c d:aa mS):Prop:=∀b a,c=some (.val b a)->a=h1/\d=some (.val b h2)
theorem km.none:km h1 h2 none none:=λ_ _ a=>by grind
theorem km.val{a:aa T}:km h1 h2 (val h1 a) (val h2 a):=λd c b=>by
 obtain⟨rfl,rfl⟩:=iv.1 b;exact⟨rfl,iv.2 ⟨rfl,rfl⟩⟩
def km.some{a:T}:km h1 h2 (some (.val a h1)) (some (.val a h2)):=λa b c=>by
 grind
theorem km.Z{f:Type}{a:aa f}{c d:f->aa mS}(g:∀b,a=Option.some b->km h1 h2 (c b) (d b)):km h1 h2 (Z a c) (Z a d):=by
 cases a with
 |none=>exact km.none
 |some b=>simp_all
theorem km.iG{a:Bool}{b c:aa mS}(d:km h1 h2 b c):km h1 h2 (iG a b) (iG a c):=by
 cases a with
 |false=>exact km.none
 |true=>exact d
def km.bool{a:Bool}{b d c f:aa mS}(g:km h1 h2 b c)(i:km h1 h2 d f):km h1 h2 (Bool.casesOn a b d) (Bool.casesOn a c f):=by
 cases a<;>assumption
def OV(b:Nat->T):Prop:=(∀a,b a= .ptr a 0 0 0)\/(∃c,∀a,b a= .arr a 0 0 c false)\/(∀a,b a= .iter a)\/(∀a,b a= .map a)
def Mk(h1 h2:H)(f g:aa mS):Prop:=∀c b,f=some (.val c b)->∃a d,OV a/\c=a h1.size/\b=h1.cons d/\g=some (.val (a h2.size) (h2.cons d))
theorem Mk.none:Mk h1 h2 none none:=λ_ _ a=>by grind
def Mk.new{f:Nat->T}{c:jv}(d:OV f):Mk h1 h2 (j7 (h1.new f c)) (j7 (h2.new f c)):=λi g a=>by
 rw[j3,H.mh]at a;simp only[ar,aB]at a;obtain⟨rfl,rfl⟩:=a;exact⟨f,c,d,rfl,rfl,by rw[j3,H.mh]⟩
theorem Mk.Z{f:Type}{a:aa f}{c d:f->aa mS}(g:∀b,a=Option.some b->Mk h1 h2 (c b) (d b)):Mk h1 h2 (Z a c) (Z a d):=by
 cases a with
 |none=>exact Mk.none
 |some b=>simp_all
theorem Mk.iG{a:Bool}{b c:aa mS}(d:Mk h1 h2 b c):Mk h1 h2 (iG a b) (iG a c):=by
 cases a with
 |false=>exact Mk.none
 |true=>exact d
def Tj{a:ab}:Mk h1 h2 (jT (.alloc a) cx J e h1) (jT (.alloc a) cx J e h2):=by
 simp only[jT,Fg];refine Mk.Z λb _=>?_;cases yP cx b<;>exact Mk.new (.inl λ_=>rfl)
def Z5{a:ab}{b:ah}:Mk h1 h2 (jT (.box a b) cx J e h1) (jT (.box a b) cx J e h2):=by
 simp only[jT,Qn];exact Mk.Z λc _=>Mk.iG (Mk.new (.inl λ_=>rfl))
def Gh{c:ab}{b:Nat}{a:af (Nat×ah)}:Mk h1 h2 (jT (.buildSlice c b a) cx J e h1) (jT (.buildSlice c b a) cx J e h2):=by
 simp only[jT,pW];refine Mk.Z λd _=>?_;cases d.u<;>first
  |exact Mk.none
  |exact Mk.Z λg _=>Mk.Z λa _=>Mk.iG (Mk.iG (Mk.Z λf _=>Mk.new (.inr (.inl ⟨_,λ_=>rfl⟩))))
def Ia{c:ab}{b a:ah}:Mk h1 h2 (jT (.makeSlice c b a) cx J e h1) (jT (.makeSlice c b a) cx J e h2):=by
 simp only[jT,qY];refine Mk.Z λd _=>?_;cases d.u<;>first
  |exact Mk.none
  |exact Mk.Z λf _=>Mk.Z λ_ _=>Mk.Z λ_ _=>Mk.Z λ_ _=>Mk.Z λ_ _=>Mk.iG (Mk.iG (Mk.iG (Mk.iG (Mk.new (.inr (.inl ⟨_,λ_=>rfl⟩))))))
def Mn{b:ab}{a:aa ah}:Mk h1 h2 (jT (.makeMap b a) cx J e h1) (jT (.makeMap b a) cx J e h2):=Mk.none
def Qf{f:Ty}{c g:T}(hl:∀a,eG c=some a->a<h1.size->h2.get a=h1.get a)(b:h1.load f c=some g):h2.load f c=some g:=by
 cases c with
 |ptr a j k m=>
  have b:(Z (h1.elem a j k) λe=>Z (kH m e.cells) λi=>kU f i)=some g:=b;show(Z (h2.elem a j k) λe=>Z (kH m e.cells) λi=>kU f i)=some g;replace b:=dX.1 b;obtain⟨n,l,b⟩:=b;have o:h2.elem a j k=some n:=by
   have d:=l;unfold H.elem at d|-;replace d:=dX.1 d;obtain⟨q,p,_⟩:=d;rw[hl a rfl (H.fG p)];exact l
  rw[o];exact b
 |_=>exact b
def Gm{g:Ty}{j:T}{b:Nat}(hl:∀a,eG j=some a->a<h1.size->h2.get a=h1.get a):km h1 h2 (lM h1 g j b) (lM h2 g j b):=by
 cases j with
 |ed s m=>exact km.Z λ_ _=>km.iG km.some
 |arr a d l k m=>
  intro o n f;have q:=f;have f:iG (Nat.blt b k) (Z (h1.get a) λc=>iG (Nat.beq c.sz g.size)<|iG (Nat.beq c.ep d) (Z (iQ (Nat.add l b)) λi=>some (mS.val (.ptr a d i 0) h1)))=some (.val o n):=f;have⟨_,f⟩:=ew.1 f;have⟨j,r,_⟩:=dX.1 f;have p:=hl a rfl (H.fG r);have:lM h2 g (.arr a d l k m) b=iG (Nat.blt b k) (Z (h1.get a) λc=>iG (Nat.beq c.sz g.size)<|iG (Nat.beq c.ep d) (Z (iQ (Nat.add l b)) λi=>some (mS.val (.ptr a d i 0) h2))):=by
   rw[<-p];rfl
  rw[this];exact(km.iG (km.Z λ_ _=>km.iG (km.iG (km.Z λ_ _=>km.some))):km h1 h2 (iG (Nat.blt b k) (Z (h1.get a) λc=>iG (Nat.beq c.sz g.size)<|iG (Nat.beq c.ep d) (Z (iQ (Nat.add l b)) λi=>some (mS.val (.ptr a d i 0) h1)))) _) o n q
 |_=>exact km.none
theorem Gp{f:Nat}{g:Ty}{b:T}{d:Nat}(hl:∀a,eG b=some a->a<h1.size->h2.get a=h1.get a):km h1 h2 (qr h1 f g b d) (qr h2 f g b d):=by
 unfold qr;refine km.iG ?_;cases b<;>first
  |exact km.none
  |exact km.Z λ_ _=>km.some
  |skip
 rename_i a k m n;simp only;cases c:h1.get a with
 |none=>intro o l i;simp at i
 |some j=>
  rw[hl a rfl (H.fG c),c];simp[eJ,km.some,km.iG,km.bool]
def Mw{b:T}{f:List T}(hl:∀a,eG b=some a->a<h1.size->h2.get a=h1.get a)(c:h1.jM b=some f):h2.jM b=some f:=by
 cases b with
 |arr a j m l k=>
  have d:=c;unfold H.jM at d|-;simp only at d|-;have⟨i,g,_⟩:=dX.1 d;rw[hl a rfl (H.fG g)];exact c
 |_=>exact c
def D8{g:U}{f:T}(hl:∀b,eG f=some b->b<h1.size->h2.get b=h1.get b)(a:jI cx h1 g f=true):jI cx h2 g f=true:=by
 cases g with
 |slice e=>
  unfold jI at a|-;simp only at a|-;cases d:cx.ty e with
  |none=>rw[d]at a;exact a
  |some k=>
   rw[d]at a;cases f with
   |arr b j q o l=>
    simp only at a|-;cases c:h1.get b with
    |none=>rw[c]at a;grind
    |some i=>rw[hl b rfl (H.fG c),c];rw[c]at a;exact a
   |_=>exact a
 |array p e=>
  unfold jI at a|-;simp only at a|-;cases d:cx.ty e with
  |none=>rw[d]at a;exact a
  |some k=>
   rw[d]at a;cases f with
   |ptr b j m n=>
    simp only at a|-;cases c:h1.get b with
    |none=>rw[c]at a;grind
    |some i=>rw[hl b rfl (H.fG c),c];rw[c]at a;exact a
   |_=>exact a
 |_=>exact a
def JA{k:Op}(ae:jb k=false)(hl:∀f,iM cx J e h1 k=some f->f<h1.size->h2.get f=h1.get f){c:T}{g:H}(b:jT k cx J e h1=some (.val c g)):
 (g=h1/\jT k cx J e h2=some (.val c h2))\/
 (∃p a,OV p/\iM cx J e h1 k=some h1.size/\c=p h1.size/\g=h1.cons a/\jT k cx J e h2=some (.val (p h2.size) (h2.cons a))):=by
 have F:Mk h1 h2 (jT k cx J e h1) (jT k cx J e h2)->iM cx J e h1 k=some h1.size->(g=h1/\jT k cx J e h2=some (.val c h2))\/
  (∃p a,OV p/\iM cx J e h1 k=some h1.size/\c=p h1.size/\g=h1.cons a/\jT k cx J e h2=some (.val (p h2.size) (h2.cons a))):=λS y=>by
  obtain⟨p,a,R,a7,bs,bu⟩:=S c g b
  grind
 by_cases Q:∃w,k= .call w
 ·obtain⟨w,rfl⟩:=Q;left;have:km h1 h2 (jT (.call w) cx J e h1) (jT (.call w) cx J e h2):=by
   simp only[jT,Ff];refine km.Z λP _=>?_;cases W:w.callee with
   |invoke a S=>exact km.none
   |value p=>grind [jb]
   |builtin f=>
    cases f<;>simp[jb,W]at ae<;>simp only[mH]
    case len=>
     match P with
     | []=>exact km.none
     | [a]=>
      simp only[QF];refine km.Z λ_ _=>km.Z λj _=>?_;cases j.u<;>first
       |exact km.none
       |exact km.val
       |(cases a<;>first|exact km.none|exact km.val)
     |_::_::_=>exact km.none
    all_goals
     match P with
     | []=>exact km.none
     | [a]=>exact km.none
     | [a,O]=>exact km.val
     |_::_::_::_=>exact km.none
  exact this c g b
 cases k with
 |alloc d=>exact F Tj rfl
 |box d a=>exact F Z5 rfl
 |buildSlice d n N=>exact F Gh rfl
 |makeSlice d l w=>exact F Ia rfl
 |range=>grind [jb]
 |entry=>grind [jb]
 |store=>grind [jb]
 |next=>grind [jb]
 |load d i=>
  left;have b:(Z (cx.ty d) λj=>Z (ir cx J e i) λi=>val h1 (h1.load j i))=some (.val c g):=b;replace b:=dX.1 b;obtain⟨j,L,b⟩:=b;replace b:=dX.1 b;obtain⟨s,t,b⟩:=b;obtain⟨A,rfl⟩:=iv.1 b;refine⟨rfl,?_⟩;show(Z (cx.ty d) λj=>Z (ir cx J e i) λi=>val h2 (h2.load j i))=some (.val c h2);rw[L,t];exact iv.2 ⟨Qf (λf y z=>hl f (by show Z (ir cx J e i) eG=some f;rw[t];exact y) z) A,rfl⟩
 |indexAddr d a E=>
  left;have a8:∀s,ir cx J e a=some s->∀f,eG s=some f->f<h1.size->h2.get f=h1.get f:=λs t f y z=>
   hl f (by show Z (ir cx J e a) eG=some f;rw[t];exact y) z
  have:km h1 h2 (jT (.indexAddr d a E) cx J e h1) (jT (.indexAddr d a E) cx J e h2):=by
   simp only[jT,qZ];refine km.Z λj _=>km.Z λs t=>km.Z λ_ _=>km.Z λM _=>?_;cases j.u<;>first
    |exact km.none
    |exact km.Z λU _=>Gm (a8 s t)
    |grind [Gp,km.Z]
  exact this c g b
 |slice d a v m o=>
  left;have b:(Z (cx.ty d) λj=>Z (ir cx J e a) λa=>iG (jI cx h1 j.u a)<|Z (kw cx J e v) λv=>Z (kw cx J e m) λm=>Z (kw cx J e o) λo=>
   iG (A9 m o) (val h1 (qP (asSlice j.u a) v m o)))=some (.val c g):=b
  replace b:=dX.1 b;obtain⟨j,L,b⟩:=b;replace b:=dX.1 b;obtain⟨s,t,b⟩:=b;obtain⟨al,b⟩:=ew.1 b;have bp:jI cx h2 j.u s=true:=D8 (λf y z=>hl f (by show Z (ir cx J e a) eG=some f;rw[t];exact y) z) al;have:km h1 h2 (Z (kw cx J e v) λv=>Z (kw cx J e m) λm=>Z (kw cx J e o) λo=>iG (A9 m o) (val h1 (qP (asSlice j.u s) v m o)))
   (Z (kw cx J e v) λv=>Z (kw cx J e m) λm=>Z (kw cx J e o) λo=>iG (A9 m o) (val h2 (qP (asSlice j.u s) v m o))):=
   km.Z λ_ _=>km.Z λ_ _=>km.Z λ_ _=>km.iG km.val
  obtain⟨R,a7⟩:=this c g b;refine⟨R,?_⟩;show(Z (cx.ty d) λj=>Z (ir cx J e a) λa=>iG (jI cx h2 j.u a)<|Z (kw cx J e v) λv=>Z (kw cx J e m) λm=>Z (kw cx J e o) λo=>
   iG (A9 m o) (val h2 (qP (asSlice j.u a) v m o)))=some (.val c h2)
  rw[L,t];simp_all
 |binOp k d a O C=>
  left;have:km h1 h2 (jT (.binOp k d a O C) cx J e h1) (jT (.binOp k d a O C) cx J e h2):=by
   cases k<;>simp only[jT,hEq,Qo]<;>first
    |exact km.Z λ_ _=>km.Z λ_ _=>km.Z λ_ _=>km.iG (km.Z λ_ _=>km.val)
    |exact km.Z λ_ _=>km.Z λ_ _=>km.val
  exact this c g b
 |move a=>left;exact(show km h1 h2 (jT (.move a) cx J e h1) (jT (.move a) cx J e h2)from km.val) c g b
 |assign a=>left;exact(show km h1 h2 (jT (.assign a) cx J e h1) (jT (.assign a) cx J e h2)from km.val) c g b
 |pick w i f=>
  left;have:km h1 h2 (jT (.pick w i f) cx J e h1) (jT (.pick w i f) cx J e h2):=by
   simp only[jT,Ho];refine km.Z λc _=>?_;cases c<;>first|exact km.none|simp[km.val,km.bool]
  exact this c g b
 |build d N=>
  left;have:km h1 h2 (jT (.build d N) cx J e h1) (jT (.build d N) cx J e h2):=by
   simp only[jT,Co];refine km.Z λj _=>km.Z λ_ _=>?_;cases j.u<;>first|exact km.none|exact km.Z λ_ _=>km.val|simp[km.val,km.Z]
  exact this c g b
 |nilCheck a=>
  left;have:km h1 h2 (jT (.nilCheck a) cx J e h1) (jT (.nilCheck a) cx J e h2):=by
   simp only[jT,tM];refine km.Z λc _=>?_;cases c<;>first|exact km.none|exact km.some
  exact this c g b
 |unOp k d a=>left;exact(show km h1 h2 (jT (.unOp k d a) cx J e h1) (jT (.unOp k d a) cx J e h2)from km.Z λ_ _=>km.val) c g b
 |convert B x a=>
  left;have b:(Z (cx.ty B) λ_=>Z (ir cx J e a) λi=>Z (cx.ty x) λI=>match I.u with
   | .slice _=>val h1 (FS cx x i)
   | .str=>(match i with
    | .str _=>val h1 (conv cx x i)
    |_=>val h1 (Jf cx h1 B i))
   |_=>val h1 (conv cx x i))=some (.val c g):=b
  show g=h1/\(Z (cx.ty B) λ_=>Z (ir cx J e a) λi=>Z (cx.ty x) λI=>match I.u with
   | .slice _=>val h2 (FS cx x i)
   | .str=>(match i with
    | .str _=>val h2 (conv cx x i)
    |_=>val h2 (Jf cx h2 B i))
   |_=>val h2 (conv cx x i))=some (.val c h2)
  obtain⟨bA,aE,b⟩:=dX.1 b;obtain⟨s,t,b⟩:=dX.1 b;obtain⟨bi,av,b⟩:=dX.1 b;rw[aE,t,av];simp only[eJ];have an:∀{C:T},Jf cx h1 B s=some C->Jf cx h2 B s=some C:=by
   intro C q;unfold Jf at q|-;obtain⟨t2,ap,q⟩:=dX.1 q;rw[ap];simp only[eJ];cases aX:t2.u<;>rw[aX]at q<;>simp only[reduceCtorEq]at q|-;obtain⟨U,aA,q⟩:=dX.1 q;rw[aA];simp only[eJ];cases a6:U.u<;>rw[a6]at q<;>simp only[reduceCtorEq]at q|-;obtain⟨V,q⟩:=ew.1 q;rw[V,iR];obtain⟨bn,X,q⟩:=dX.1 q;rw[Mw (λf y z=>hl f (by show Z (ir cx J e a) eG=some f;rw[t];exact y) z) X];exact q
  cases aN:bi.u<;>rw[aN]at b<;>simp only at b|-
  case str=>
   cases s<;>simp only at b|- <;>(obtain⟨A,rfl⟩:=iv.1 b)<;>first
    |exact⟨rfl,iv.2 ⟨an A,rfl⟩⟩
    |exact⟨rfl,iv.2 ⟨A,rfl⟩⟩
  all_goals
   obtain⟨A,rfl⟩:=iv.1 b;exact⟨rfl,iv.2 ⟨A,rfl⟩⟩
 |lookup=>exact .inl ((km.none:km h1 h2 _ _) c g b)
 |makeMap d r=>exact F Mn rfl
 |mapUpdate=>grind [jb]
 |makeInterface d a=>
  left;have:km h1 h2 (jT (.makeInterface d a) cx J e h1) (jT (.makeInterface d a) cx J e h2):=by
   simp only[jT,Ck];refine km.Z λj _=>?_;cases j.u<;>first|exact km.none|exact km.Z λ_ _=>km.iG km.val
  exact this c g b
 |makeFunc K i f=>
  left;have:km h1 h2 (jT (.makeFunc K i f) cx J e h1) (jT (.makeFunc K i f) cx J e h2):=by
   simp only[jT,Fd];cases K<;>first
    |exact km.none
    |(cases i.toList<;>first|exact km.none|simp[km.val,km.Z])
  exact this c g b
 |fieldAddr d a p=>
  left;have:km h1 h2 (jT (.fieldAddr d a p) cx J e h1) (jT (.fieldAddr d a p) cx J e h2):=by
   simp only[jT,rf];refine km.Z λ_ _=>km.Z λc _=>?_;cases c<;>first|exact km.none|exact km.Z λ_ _=>km.some
  exact this c g b
 |field d a p=>
  left;have:km h1 h2 (jT (.field d a p) cx J e h1) (jT (.field d a p) cx J e h2):=by
   simp only[jT,Cn];refine km.Z λ_ _=>km.Z λ_ _=>km.Z λc _=>?_;cases c<;>first|exact km.none|simp[km.val,km.Z]
  exact this c g b
 |index d a E=>
  left;have:km h1 h2 (jT (.index d a E) cx J e h1) (jT (.index d a E) cx J e h2):=by
   simp only[jT,Cj];refine km.Z λj _=>km.Z λc _=>km.Z λ_ _=>km.Z λ_ _=>?_;cases j.u<;>first
    |exact km.none
    |(cases c<;>first|exact km.none|exact km.Z λ_ _=>km.val|grind [km.val,km.Z,km.iG])
  exact this c g b
 |extract a M=>
  left;have:km h1 h2 (jT (.extract a M) cx J e h1) (jT (.extract a M) cx J e h2):=by
   simp only[jT,wt];refine km.Z λc _=>?_;cases c<;>first|exact km.none|exact km.val
  exact this c g b
 |_=>first|exact(Q ⟨_,rfl⟩).elim|exact absurd b (by simp[jT])
end
end
section
def K8{c:List Nat}{b:List Edge}{d:Nat}(h:(yU c b).testBit d=true):
 ∃a∈b,Region.binds .any a=true/\(d=a.on\/(c.getD a.on 0).testBit d=true):=by
 induction b with
 |nil=>grind [yU]
 |cons a b f=>
  have h:(@Bool.rec (λ_=>Nat) (yU c b) ((yU c b)|||((1<<<a.on)|||(c.getD a.on 0))) (Region.binds .any a)).testBit d=true:=h;cases e:Region.binds .any a with
  |false=>
   rw[e]at h
   grind
  |true=>
   rw[e]at h;simp only[Nat.testBit_or,cr]at h;rcases h with h|h|h
   ·grind
   ·refine⟨a,Y,e,.inl ?_⟩;rw[Nat.one_shiftLeft,Nat.testBit_two_pow]at h
    grind
   grind
structure Cl(ops:af Oper)(listed:af Bool):Prop where
 size:listed.size=ops.size
 closed:∀j oj,ops[j]? =some oj->listed.getD j false=true->∀e∈oj.after,Region.binds .any e=true->listed.getD e.on false=true
theorem Xi{ops:af Oper}{g:af Bool}(q:Cl ops g):∀(k:List Oper) (d:List Nat),(∀n:Nat,k[n]? =ops[d.length+n]?)->
 (∀(b c:Nat),d[b]? =some c->∀f,c.testBit f=true->∀i,ops[b]? =some i->(∀a∈i.after,Region.binds .any a=true->g.getD a.on false=true)->g.getD f false=true)->
 ∀(b c:Nat),(M9 k d)[b]? =some c->∀f,c.testBit f=true->∀i,ops[b]? =some i->(∀a∈i.after,Region.binds .any a=true->g.getD a.on false=true)->g.getD f false=true:=by
 intro k;induction k with
 |nil=>intro d _ l b c e;exact l b c e
 |cons i k B=>
  intro d hl l;refine B (d++[yU d i.after.toList]) (λn=>?_) ?_
  ·have:=hl (n+1);simp only[dq]at this;rw[this];congr 1;simp;omega
  ·intro b c e f u C m s;by_cases v:b<d.length
   ·rw[cv v]at e;exact l b c e f u C m s
   ·rw[cZ D]at e;have z:b=d.length:=by
     rcases Nat.eq_or_lt_of_le (Nat.le_of_not_lt v)with h|h
     ·exact h.symm
     ·rw[bP dN]at e;simp at e
    subst z;simp at e;subst e;have r:=hl 0;simp at r;rw[<-r]at m;simp at m;subst m;have⟨a,x,w,j⟩:=K8 u;have o:=s a (by simpa using x) w;rcases j with rfl|j
    ·exact o
    ·have y:a.on<g.size:=by
      rcases aS a.on g.size with h|h
      ·exact h
      ·simp[Array.getElem?_eq_none h]at o
     have A:a.on<ops.size:=by rw[<-q.size];exact y
     have t:ops[a.on]? =some ops[a.on]:=by simp[A]
     cases p:d[a.on]? with
     |none=>rw[bQ,p]at j;simp at j
     |some c=>
      rw[bQ,p]at j;exact l a.on c p f j ops[a.on] t (q.closed a.on _ t o)
def EE{ops:af Oper}{a:af Bool}(g:Cl ops a){d e:Nat}{f:Oper}(c:ku ops d e=true)(i:ops[e]? =some f)
 (h:∀b∈f.after,Region.binds .any b=true->a.getD b.on false=true):a.getD d false=true:=by
 unfold ku at c;rw[bQ]at c
 grind [Xi,M9]
def qn:Op->Bool
 | .store .. =>true
 |_=>false
def qu(ops:af Oper):Bool:=
 let e:=M9 ops.toList []
 let d:=ops.toList.zipIdx
 d.all λa=>(a.1.after.toList.all λc=> !Region.binds .any c||Nat.blt c.on a.2)&&
  d.all λb=> !Nat.blt b.2 a.2||(b.1.apart ops a.1&&(!(jb b.1.op&&jb a.1.op)||(qn b.1.op&&qn a.1.op)))||(e.getD a.2 0).testBit b.2
def mem_zipIdx{ops:af Oper}{a:Nat}{b:Oper}(c:ops[a]? =some b):(b,a)∈ops.toList.zipIdx:=by
 rw[dB];exact⟨a,by simp[c]⟩
def MT{ops:af Oper}(e:qu ops=true){b:Nat}{c:Oper}(f:ops[b]? =some c):∀a∈c.after,Region.binds .any a=true->a.on<b:=by
 intro a i h;unfold qu at e;have d:=List.all_eq_true.1 e (c,b) (mem_zipIdx f);simp only[ax]at d;have g:=List.all_eq_true.1 d.1 a (by grind);simp_all
def KP{ops:af Oper}(g:qu ops=true){b c:Nat}{d e:Oper}(i:ops[b]? =some d)(j:ops[c]? =some e)(l:b<c):
 (d.apart ops e=true/\(jb d.op=true->jb e.op=true->qn d.op=true/\qn e.op=true))\/ku ops b c=true:=by
 unfold qu at g;have f:=List.all_eq_true.1 g (e,c) (mem_zipIdx j);simp only[ax]at f;have a:=List.all_eq_true.1 f.2 (d,b) (mem_zipIdx i);have h:Nat.blt b c=true:=by rw[aJ];omega
 simp only[h,Bool.not_true,Bool.false_or,cr,ax,cj,Bool.and_eq_false_iff]at a;rcases a with⟨a,k⟩|a
 ·grind
 ·right;exact a
section
variable {cx:Ctx}{cf:jB}{J:Nat}{ops:af Oper}
def qG(J:Nat)(ops:af Oper)(c:Nat->Env)(b:Nat):Prop:=∃a,ops[b]? =some a/\jb a.op=true/\lq ops J (c b) a.guard=some true
def zK(cx:Ctx)(J:Nat)(ops:af Oper)(c:Nat->Env)(d:Nat->H)(a e:Nat):Prop:=
 ∃b,ops[a]? =some b/\jb b.op=false/\lq ops J (c a) b.guard=some true/\iM cx J (c a) (d a) b.op=some e
def YT(cx:Ctx)(J:Nat)(ops:af Oper)(c:Nat->Env)(a e:Nat):Prop:=
 ∃b f d g,ops[a]? =some b/\b.op= .store f d g/\lq ops J (c a) b.guard=some true/\Z (ir cx J (c a) d) eG=some e
structure Trace(cx:Ctx)(cf:jB)(J:Nat)(ops:af Oper)(E:Nat->Env)(Hs:Nat->H):Prop where
 step:∀k o,ops[k]? =some o->mI cx cf J ops (E k) (Hs k) o=some (E (k+1),Hs (k+1))
 ahead:∀k k' b,zK cx J ops E Hs k b->qG J ops E k'->k<k'->fQ (Hs k') (Hs (k'+1)) b=true\/ku ops k k'=true
 behind:∀k k' b,zK cx J ops E Hs k b->qG J ops E k'->k'<k->fQ (Hs k') (Hs (k'+1)) b=true\/ku ops k' k=true
 both:∀k k' b,YT cx J ops E k b->qG J ops E k'->k'<k->fQ (Hs k') (Hs (k'+1)) b=true\/ku ops k' k=true
def As{a b:Bool}(c: @Bool.rec (λ_=>Bool) b true a=true):a=true\/b=true:=by cases a<;>simp_all
def AF{e:Oper}{k:List Oper}{c:Nat}{d:Seen}{g n:Env}{a o:H}(b:kI cx cf J ops (e::k) c d g a=some (n,o)):
 ∃h f j,mI cx cf J ops g a e=some (h,f)/\lq ops J g e.guard=some j/\
  ∃m,kI cx cf J ops k (c+1) m h f=some (n,o)/\(∀l∈d.nK,l∈m.nK)/\(∀l∈d.mo,l∈m.mo)/\
   (j=true->jb e.op=true->zu ops c a f d.nK=true/\(c,a,f)∈m.mo/\tc cx J ops c g d.mo e.op=true)/\
   (j=true->jb e.op=false->∀i,iM cx J g a e.op=some i->pN ops c i d.mo=true/\(c,i)∈m.nK):=by
 have b:(Z (mI cx cf J ops g a e) λl=>two l λh f=>
  Z (lq ops J g e.guard) λj=> @Bool.rec (λ_=>aa (Env×H)) (kI cx cf J ops k (c+1) d h f)
   (@Bool.rec (λ_=>aa (Env×H))
     (@Option.rec Nat (λ_=>aa (Env×H)) (kI cx cf J ops k (c+1) d h f)
       (λi=>iG (pN ops c i d.mo) (kI cx cf J ops k (c+1) ⟨(c,i)::d.nK,d.mo⟩ h f)) (iM cx J g a e.op))
     (iG (zu ops c a f d.nK) (iG (tc cx J ops c g d.mo e.op) (kI cx cf J ops k (c+1) ⟨d.nK,(c,a,f)::d.mo⟩ h f))) (jb e.op)) j)=some (n,o):=b
 replace b:=dX.1 b;obtain⟨⟨h,f⟩,r,b⟩:=b;simp only[lQ]at b;replace b:=dX.1 b;obtain⟨j,s,b⟩:=b;refine⟨h,f,j,r,s,?_⟩;cases j with
 |false=>grind
 |true=>
  cases q:jb e.op with
  |true=>
   rw[q]at b
   grind [ew]
  |false=>
   rw[q]at b;cases p:iM cx J g a e.op with
   |none=>
    rw[p]at b;exact⟨d,b,λ_ a=>a,λ_ a=>a,λ_ a=>by grind,λ_ _ i a=>by grind⟩
   |some i=>
    rw[p]at b
    grind [ew,ar]
def Gd:∀(C:List Oper) (c:Nat) (s:Seen) (t E:Env) (o F:H),(∀N,C[N]? =ops[c+N]?)->kI cx cf J ops C c s t o=some (E,F)->
 ∃(h:Nat->Env) (i:Nat->H),h c=t/\i c=o/\h (c+C.length)=E/\i (c+C.length)=F/\
  (∀a f,c<=a->ops[a]? =some f->mI cx cf J ops (h a) (i a) f=some (h (a+1),i (a+1)))/\
  (∀a b,c<=a->zK cx J ops h i a b->∀g∈s.mo,fQ g.2.1 g.2.2 b=true\/ku ops g.1 a=true)/\
  (∀a,c<=a->qG J ops h a->∀g∈s.nK,fQ (i a) (i (a+1)) g.2=true\/ku ops g.1 a=true)/\
  (∀a d b,c<=a->zK cx J ops h i a b->qG J ops h d->a<d->fQ (i d) (i (d+1)) b=true\/ku ops a d=true)/\
  (∀a d b,c<=d->zK cx J ops h i a b->qG J ops h d->d<a->fQ (i d) (i (d+1)) b=true\/ku ops d a=true)/\
  (∀a b,c<=a->YT cx J ops h a b->∀g∈s.mo,fQ g.2.1 g.2.2 b=true\/ku ops g.1 a=true)/\
  (∀a d b,c<=d->YT cx J ops h a b->qG J ops h d->d<a->fQ (i d) (i (d+1)) b=true\/ku ops d a=true):=by
 intro C;induction C with
 |nil=>
  intro c s t E o F hl I;have I:some (t,o)=some (E,F):=I;simp only[ar,aB]at I;obtain⟨rfl,rfl⟩:=I;have A:∀a f,c<=a->ops[a]? =some f->False:=λa f e m=>by
   have:=hl (a-c);rw[show c+(a-c)=a by omega,m]at this;simp at this
  refine⟨λ_=>t,λ_=>o,rfl,rfl,rfl,rfl,λa f e m=>(A a f e m).elim,?_,?_,?_,?_,?_,?_⟩
  ·rintro a b e ⟨f,m,_⟩;exact(A a f e m).elim
  ·rintro a e ⟨f,m,_⟩;exact(A a f e m).elim
  ·rintro a d b e ⟨f,m,_⟩;exact(A a f e m).elim
  ·rintro a d b e _ ⟨f,m,_⟩;exact(A d f e m).elim
  ·rintro a b e ⟨f,_,_,_,m,_⟩;exact(A a f e m).elim
  ·rintro a d b e _ ⟨f,m,_⟩;exact(A d f e m).elim
 |cons f C a7=>
  intro c s t E o F hl I;have⟨X,K,bS,a6,V,W,aX,aA,aE,T,aN⟩:=AF I;have P:ops[c]? =some f:=by have:=hl 0;simpa using this.symm
  obtain⟨h,i,a8,bi,bn,bp,bs,an,ap,bu,bA,bC,bH⟩:=a7 (c+1) W X E K F (λN=>by
   have:=hl (N+1);simp only[dq]at this;rw[this];congr 1;omega) aX
  let n:Nat->Env:=λa=>if a=c then t else h a
  let u:Nat->H:=λa=>if a=c then o else i a
  have hE:∀a,a≠c->n a=h a:=λa e=>by simp[n,e]
  have p:∀a,a≠c->u a=i a:=λa e=>by simp[u,e]
  have y:n c=t:=by simp[n]
  have L:u c=o:=by simp[u]
  have av:n (c+1)=X:=by rw[hE _ D,a8]
  have S:u (c+1)=K:=by rw[p _ D,bi]
  have O:∀a,a≠c->qG J ops n a->qG J ops h a:=λa e=>by unfold qG;rw[hE a e];exact id
  have Q:∀a b,a≠c->zK cx J ops n u a b->zK cx J ops h i a b:=λa b e=>by unfold zK;rw[hE a e,p a e];exact id
  have bN:∀a b,a≠c->YT cx J ops n a b->YT cx J ops h a b:=λa b e=>by unfold YT;rw[hE a e];exact id
  have bB:∀b,YT cx J ops n c b->pN ops c b s.mo=true:=by
   rintro b ⟨R,N,x,v,k,q,l,M⟩;rw[P]at k;simp only[ar]at k;subst k;rw[y,V]at l;rw[y]at M;simp only[ar]at l;have:=(T l (by rw[q];rfl)).2.2;rw[q]at this;have this: @Option.rec Nat (λ_=>Bool) true (λb=>pN ops c b s.mo) (Z (ir cx J t x) eG)=true:=this;rw[M]at this;exact this
  have ae:qG J ops n c->zu ops c o K s.nK=true/\(c,o,K)∈W.mo:=by
   rintro⟨R,k,q,l⟩;rw[P]at k;simp only[ar]at k;subst k;rw[y,V]at l;simp only[ar]at l;exact⟨(T l q).1,(T l q).2.1⟩
  have al:∀b,zK cx J ops n u c b->pN ops c b s.mo=true/\(c,b)∈W.nK:=by
   rintro b ⟨R,k,q,l,M⟩;rw[P]at k;simp only[ar]at k;subst k;rw[y,V]at l;rw[y,L]at M;simp only[ar]at l;exact aN l q b M
  refine⟨n,u,y,L,?_,?_,?_,?_,?_,?_,?_,?_,?_⟩
  ·rw[hE _ Y,<-bn];congr 1;simp;omega
  ·rw[p _ Y,<-bp];congr 1;simp;omega
  ·intro a R e k;by_cases j:a=c
   ·subst j;rw[P]at k;simp only[ar]at k;subst k;rw[y,L,av,S];exact a6
   ·rw[hE a j,p a j,hE (a+1) D,p (a+1) D];exact bs a R D k
  ·intro a b e r g B;by_cases j:a=c
   ·subst j;have⟨q,_⟩:=al b r;exact As (sr q g B)
   ·exact an a b D (Q a b j r) g (aE g B)
  ·intro a e w g B;by_cases j:a=c
   ·subst j;have⟨q,_⟩:=ae w;rw[L,S];exact As (sr q g B)
   ·rw[p a j,p (a+1) D];exact ap a D (O a j w) g (aA g B)
  ·intro a d b e r w U;have z:d≠c:=D;rw[p d z,p (d+1) D];by_cases j:a=c
   ·subst j;have⟨_,l⟩:=al b r;exact ap d D (O d z w) (a,b) l
   ·exact bu a d b D (Q a b j r) (O d z w) U
  ·intro a d b e r w U;have j:a≠c:=D;by_cases z:d=c
   ·subst z;have⟨_,l⟩:=ae w;rw[L,S];exact an a b D (Q a b j r) (d,o,K) l
   ·rw[p d z,p (d+1) D];exact bA a d b D (Q a b j r) (O d z w) U
  ·intro a b e r g B;by_cases j:a=c
   ·subst j;exact As (sr (bB b r) g B)
   grind
  grind
def GC(cx:Ctx)(cf:jB)(J:Nat)(c:Env)(a:H)(f:Op)(g:T)(e:H):Prop:=
 jT f cx J c a=some (.val g e)\/∃d b,jT f cx J c a=some (.call d b)/\cf d b a=some (g,e)
def om{e b:Env}{g c:H}{f:Oper}(a:mI cx cf J ops e g f=some (b,c)):
 (lq ops J e f.guard=some false/\e.dst J f.dst .undef=some b/\c=g)\/
 (lq ops J e f.guard=some true/\∃d,GC cx cf J e g f.op d c/\e.dst J f.dst d=some b):=by
 replace a:=dX.1 a;obtain⟨r,q,a⟩:=a;cases r with
 |false=>
  left;have a:(Z (e.dst J f.dst .undef) λb=>some (b,g))=some (b,c):=a;replace a:=dX.1 a;grind
 |true=>
  right;refine⟨q,?_⟩;have a:(Z (jT f.op cx J e g) λj=> @mS.rec (λ_=>aa (Env×TI.H))
   (λd c=>Z (e.dst J f.dst d) λb=>some (b,c))
   (λi h=>Z (cf i h g) λl=>two l λd c=>Z (e.dst J f.dst d) λb=>some (b,c)) j)=some (b,c):=a
  replace a:=dX.1 a;obtain⟨j,n,a⟩:=a;rcases j with⟨d,m⟩|⟨i,h⟩
  ·skip
   have a:(Z (e.dst J f.dst d) λb=>some (b,m))=some (b,c):=a;replace a:=dX.1 a;obtain⟨o,k,a⟩:=a;simp only[ar,aB]at a;obtain⟨rfl,rfl⟩:=a;exact⟨d,.inl n,k⟩
  ·skip
   have a:(Z (cf i h g) λl=>two l λd c=>Z (e.dst J f.dst d) λb=>some (b,c))=some (b,c):=a;replace a:=dX.1 a;obtain⟨⟨d,m⟩,p,a⟩:=a;simp only[lQ]at a;replace a:=dX.1 a;obtain⟨o,k,a⟩:=a;simp only[ar,aB]at a;obtain⟨rfl,rfl⟩:=a;exact⟨d,.inr ⟨i,h,n,p⟩,k⟩
def Fy{P:ai}{h:Nat}{a:World}{g:Mu}{j:Env}{b c:H}{i:Act}{k:Oper}{f:T}(jQ:jF P cx)(o:o6 P cx cf)
 (e:St cx h a.heap g b) (l:lj a.heap g J j i.tmps) (u:GC cx cf J j b k.op f c):BI P (sS cx h a g b f c) ((execOp i.eval k).run P a):=by
 rcases u with d|⟨p,m,d,s⟩
 ·exact((AZ jQ e l d).ran).mono λv w r=>⟨r,Ti e.wf f c d⟩
 ·have⟨_,n,q,t⟩:=JB (P:=P) e l d;rw[t];exact o p m b f c s h a g n e q
def GC.congr{b e':Env}{c d:H}{a:Op}{f:T}(h:∀g∈a.operands,ir cx J b g=ir cx J e' g)(e:GC cx cf J b c a f d):GC cx cf J e' c a f d:=by
 unfold GC at*
 rw[B3 h]at e;exact e
def Mx{b:Call}{d:Env}{f:H}{e:aj}{c:List T}(a:jT (.call b) cx J d f=some (.call e c)):jb (.call b)=true:=by
 have a:Ff b cx J d f=some (.call e c):=a;replace a:=dX.1 a;grind [jb,xw]
def KL{d:Env}{e f:H}{b:Op}{h:T}(l:jb b=false)(k:GC cx cf J d e b h f):jT b cx J d e=some (.val h f):=by
 rcases k with c|⟨j,i,c,_⟩
 ·omega
 ·by_cases g:∃a,b= .call a
  ·obtain⟨a,rfl⟩:=g;rw[Mx c]at l;grind
  ·exact absurd c (ET (λa m=>g ⟨a,m⟩) j i)
def CL(J:Nat)(a:Env):List Nat->iz
 | []=> .nil
 |s::b=>match a.get J s with
  |some c=> .cons s c (CL J a b)
  |none=>CL J a b
def Ms{b:Env}{c:Nat}:∀(a:List Nat),d8 (CL J b a) c=if c∈a then b.get J c else none:=by
 intro a;induction a with
 |nil=>rfl
 |cons e a d=>
  unfold CL;cases f:b.get J e with
  |none=>
   grind
  |some g=>
   simp only[oN,d,cu]
   grind
def Eo(J:Nat)(a:Env)(b:List Nat):Env:=⟨CL J a b,CL J a b⟩
def AS{b:Env}{a:Nat}{c:List Nat}:(Eo J b c).get J a=if a∈c then b.get J a else none:=by
 show @Bool.rec (λ_=>aa T) (d8 (CL J b c) a) (d8 (CL J b c) a) (kS J a)=_;rw[Ms];cases kS J a<;>rfl
def B2{a:Env}{c:Oper}{b:ah}(h:b∈c.op.operands):ir cx J a b=ir cx J (Eo J a (c.looksAt ops)) b:=by
 cases b with
 |tmp d=>
  show a.get J d=(Eo J a (c.looksAt ops)).get J d;rw[AS,aq];unfold Oper.looksAt;exact dt _ (List.mem_filterMap.2 ⟨.tmp d,by grind,rfl⟩)
 |const e=>rfl
 |global g=>rfl
 |func f=>rfl
def Lq{c:Env}{a:Oper}:lq ops J (Eo J c (a.looksAt ops)) a.guard=lq ops J c a.guard:=by
 cases i:a.guard with
 |none=>rfl
 |some f=>
  obtain⟨d,k⟩:=f;show(Z (Z (Z (nJ ops.toList d) λa=>a.dst) λb=>(Eo J c (a.looksAt ops)).get J b) λh=>_)=(Z (Z (Z (nJ ops.toList d) λa=>a.dst) λb=>c.get J b) λh=>_);cases e:(Z (nJ ops.toList d) λa=>a.dst)with
  |none=>rfl
  |some b=>
   simp only[eJ];rw[AS,aq];unfold Oper.looksAt;refine dK _ ?_;replace e:=dX.1 e;obtain⟨f,g,j⟩:=e;rw[lI]at g;have:ops[d]? =some f:=by grind
   grind
end
end
section
def gW.conv{F:af Obj}{B C:Mu}{b:T}{r:am}(a:gW F B b r){n:Nat}(hl:rj n b)(s:∀c e,c<n->B c=some e->C c=some e)
 (E:∀k,oU C k->oU B k):gW F C b r:=by
 induction a with
 |undef=>exact .undef
 |bool c=>exact .bool c
 |int d S=>exact .int d S
 |str V a=>exact .str V a
 |lr=>exact .lr
 |ptr c w k Q e h j x N=>cases hl with|ptr _ _ _ _ a=>exact .ptr c w k Q e h (s c e a j) x N
 |j9 v t off arr q fz A y i p hr g=>
  cases hl with|j9 _ a=>exact .j9 v t off arr q fz (λd=>A (E _ d)) y i p λd b f=>g d b f (a b (ay f))
 |ph m h=>exact .ph m h
 |ed K L m t off u W arr q fz A y z O P i p hr g=>
  cases hl with|ed _ _ a=>exact .ed K L m t off u W arr q fz (λd=>A (E _ d)) y z O P i p λd b f=>g d b f (a b (ay f))
 |iO h u=>exact .iO h u
 |arr c w U R m e h J j x z o=>cases hl with|arr _ _ _ _ _ a=>exact .arr c w U R m e h J (s c e a j) x z o
 |func M I l i hr g=>cases hl with|func _ _ a=>exact .func M I l i λd b f=>g d b f (a b (ay f))
 |lV=>exact .lV
 |ma=>exact .ma
 |iface q b r a g=>cases hl with|iface _ _ a=>exact .iface q b r (g a)
 |iter c e h j o=>cases hl with|iter _ a=>exact .iter c e h (s c e a j) o
 |map c e k j o=>cases hl with|map _ a=>exact .map c e k (s c e a j) o
 |po=>exact .po
 |agg v l i p hr g=>cases hl with|agg _ a=>exact .agg v l i p λd b f=>g d b f (a b (ay f))
 |tuple X l i hr g=>cases hl with|tuple _ a=>exact .tuple X l i λd b f=>g d b f (a b (ay f))
def s7.conv{u:af Obj}{r s:Mu}{e:Loc}{p:jv}(i:s7 u r e p){n:Nat}(hl:∀c∈gH p.fR,rj n c)(k:∀m e,m<n->r m=some e->s m=some e)
 (j:∀l,oU s l->oU r l):s7 u s e p:=by
 refine⟨i.ep,i.sz,λa=>?_,λa=>?_⟩
 ·have h:=i.plain a;have⟨x,N,b,f,d⟩:=h.row;exact⟨⟨x,N,b,f,d.1,λa c v=>(d.2 a c v).conv (hl c (ay v)) k j⟩,h.room,h.vC,h.size,h.scalar⟩
 ·obtain⟨t,b|⟨z,b,f,d⟩|⟨J,I,L,M,y,b,f,d,F⟩⟩:=i.iter a
  ·grind
  rotate_left
  ·exact⟨t,.inr (.inr ⟨J,I,L,M,y,b,f.conv (hl _ (by rw[b];simp[gH,T.cells])) k j,d,F⟩)⟩
  ·refine⟨t,.inr (.inl ⟨z,b,f,λl q w=>?_⟩)⟩;have⟨a,c,K,o,A,B,C,E⟩:=d l q w;have g:=hl q (List.mem_flatMap.2 ⟨q,ay w,by rw[o];simp[T.cells]⟩);rw[o]at g;cases g with|tuple _ g=>exact⟨a,c,K,o,A,B,C.conv (g a Y) k j,E.conv (g c Y) k j⟩
def rj.mono{n c:Nat}{d:T}(a:rj n d)(g:n<=c):rj c d:=by
 induction a with
 |ptr b e h i a=>exact .ptr _ _ _ _ D
 |arr b e k j f a=>exact .arr _ _ _ _ _ D
 |iter b a=>exact .iter _ D
 |map b a=>exact .map _ D
 |_=>constructor<;>assumption
def St.congr{cx:Ctx}{f:Nat}{h:af Obj}{e:Mu}{g c:H}(a:St cx f h e g)(j:c.gU.length=c.size)(l:∀b d,e b=some d->c.get b=g.get b):St cx f h e c:=
 ⟨j,a.fit,λb d i=>by have⟨o,k,m⟩:=a.box b d i;grind,a.inj,a.low,a.apart,a.sY,a.Bl⟩
def H.get_some{a:H}(e:a.gU.length=a.size){b:Nat}(c:b<a.size):∃d,a.get b=some d:=by
 rw[H.get_eq,aq c];exact⟨a.gU[a.size-1-b]' D,Y⟩
def w9(Hs:Nat->H)(a:Nat):Nat->Nat
 |0=>0
 |k+1=>if a<(Hs k).size then w9 Hs a k else k+1
def IK(Hs:Nat->H)(a n:Nat):w9 Hs a n<=n:=by
 induction n with
 |zero=>simp[w9]
 |succ n b=>unfold w9;split<;>omega
def aaK{Hs:Nat->H}{a:Nat}{n:Nat}(d:∀b,b<n->(Hs b).size<=(Hs (b+1)).size)(c:a<(Hs n).size):a<(Hs (w9 Hs a n)).size:=by
 induction n with
 |zero=>exact c
 |succ n e=>
  grind [w9]
theorem WO{Hs:Nat->H}{c:Nat}:∀{n p:Nat},p<w9 Hs c n->(∀b,b<n->(Hs b).size<=(Hs (b+1)).size)->(Hs p).size<=c:=by
 intro n;induction n with
 |zero=>simp[w9]
 |succ n i=>
  intro p d f;unfold w9 at d;split at d
  ·grind
  ·rename_i h;have:∀a,p+a=n->(Hs p).size<=(Hs n).size:=by
    intro a;induction a generalizing p with
    |zero=>intro e;rw[show p=n by omega];omega
    |succ a g=>
     intro e;have:=f p D;have:=g (p:=p+1) D D;omega
   have:=this (n-p) D;omega
section
variable {Hs:Nat->H}{n:Nat}
def oG(f:∀c,c<n->(Hs c).size<=(Hs (c+1)).size){b d:Nat}(e:b<=d)(j:d<=n):(Hs b).size<=(Hs d).size:=by
 obtain⟨a,rfl⟩:=Nat.exists_eq_add_of_le e;clear e;induction a with
 |zero=>simp
 |succ a g=>
  have h:=g D;have i:=f (b+a) D;have:b+(a+1)=b+a+1:=D;rw[this];omega
def mw(c:∀a,a<n->(Hs a).size<=(Hs (a+1)).size){b a:Nat}(e:b<(Hs n).size)(f:a<=n):b<(Hs a).size↔w9 Hs b n<=a:=by
 constructor
 ·grind [w9,aS,WO]
 ·intro d;have:=aaK c e;have:=oG c d f;omega
def nh(l:∀a,a<n->(Hs a).size<=(Hs (a+1)).size){c b e:Nat}(g:b<=e)(f:∀a,b<=a->a<e->(Hs (a+1)).get c=(Hs a).get c):(Hs e).get c=(Hs b).get c:=by
 obtain⟨d,rfl⟩:=Nat.exists_eq_add_of_le g;clear g;induction d with
 |zero=>rfl
 |succ d k=>
  have i:=k λa h c=>f a h D;have j:=f (b+d) D D;have:b+(d+1)=b+d+1:=D;rw[this,j,i]
end
def PH(Hs:Nat->H)(n:Nat)(b:Nat->Nat):H:=
 ⟨(Hs n).size,0,(List.range (Hs n).size).reverse.map λa=>((Hs (max (b a) (w9 Hs a n))).get a).getD default⟩
def HJ(Hs:Nat->H)(n:Nat)(a:Nat->Nat):(PH Hs n a).gU.length=(PH Hs n a).size:=by simp[PH]
def abd{Hs:Nat->H}{n a:Nat}{c:Nat->Nat}(g:∀b,b<n->(Hs b).size<=(Hs (b+1)).size)(i:∀b,b<=n->(Hs b).gU.length=(Hs b).size)(j:c a<=n)(d:a<(Hs n).size):
 (PH Hs n c).get a=(Hs (max (c a) (w9 Hs a n))).get a:=by
 have e:max (c a) (w9 Hs a n)<=n:=by have:=IK Hs a n;omega
 have f:a<(Hs (max (c a) (w9 Hs a n))).size:=(mw g d e).2 D;have⟨l,k⟩:=H.get_some (i _ e) f;rw[H.get_eq];have h:(PH Hs n c).size=(Hs n).size:=rfl;rw[h,aq d];show((List.range (Hs n).size).reverse.map λa=>((Hs (max (c a) (w9 Hs a n))).get a).getD default)[(Hs n).size-1-a]? =_;rw[aR,List.getElem?_reverse (by grind)];have:(List.range (Hs n).size).length-1-((Hs n).size-1-a)=a:=by grind
 rw[this]
 grind
def uD(b:af Oper)(a:af Bool)(c:Nat):Nat->Nat
 |0=>0
 |k+1=>if a.getD k false=true/\(b[k]?).bind (·.dst)=some c then k+1 else uD b a c k
theorem Bb{ops:af Oper}{listed:af Bool}{s:Nat}:∀(n:Nat),uD ops listed s n=0\/∃a,uD ops listed s n=a+1/\a<n/\listed.getD a false=true/\(ops[a]?).bind (·.dst)=some s:=by
 intro n;induction n with
 |zero=>left;rfl
 |succ n b=>
  unfold uD
  grind
def Mp{ops:af Oper}{listed:af Bool}{s:Nat}:∀{n a:Nat},a<n->listed.getD a false=true->(ops[a]?).bind (·.dst)=some s->a+1<=uD ops listed s n:=by
 intro n;induction n with
 |zero=>omega
 |succ n e=>
  intro a d b c;unfold uD
  grind
def Z9{ops:af Oper}{listed:af Bool}{s:Nat}(n:Nat):uD ops listed s n<=n:=by
 rcases Bb (ops:=ops) (listed:=listed) (s:=s) n with a|⟨d,b,c,_⟩<;>omega
def Qd{b:af Oper}{e f:af Bool}{c:Nat}:∀{n:Nat},(∀a,a<n->(b[a]?).bind (·.dst)=some c->f.getD a false=e.getD a false)->uD b f c n=uD b e c n:=by
 intro n;induction n with
 |zero=>intro _;rfl
 |succ n d=>
  intro g;have d:=d λa h=>g a D
  grind [uD]
end
section
structure Dr(P:ai)(cx:Ctx)(cf:jB)(base J m:Nat)(ops:af Oper)(E:Nat->Env)(Hs:Nat->H)(ws:World)(pw:Mu):Prop where
 jQ:jF P cx
 ck:o6 P cx cf
 dst:HK m ops
 tr:Trace cx cf J ops E Hs
 tI:St cx base ws.heap pw (Hs 0)
 GV:∀i j oi oj,ops[i]? =some oi->ops[j]? =some oj->i<j->(oi.apart ops oj=true/\(jb oi.op=true->jb oj.op=true->qn oi.op=true/\qn oj.op=true))\/ku ops i j=true
 back:∀j o,ops[j]? =some o->∀e∈o.after,Region.binds .any e=true->e.on<j
 ahF:∀k,k<=ops.size->∀s v,(E k).get J s=some v->rj (Hs k).size v
 ad8:∀k,k<=ops.size->∀b x,(pw b≠none\/(Hs 0).size<=b)->(Hs k).get b=some x->∀v∈gH x.fR,rj (Hs k).size v
 grow:∀k,k<ops.size->mz (Hs k) (Hs (k+1))
 wf:∀k,k<=ops.size->(Hs k).gU.length=(Hs k).size
structure Inv(cx:Ctx)(base J m:Nat)(ops:af Oper)(E:Nat->Env)(Hs:Nat->H)(ws:World)(pw:Mu)(listed:af Bool)(a:Act)(w:World)(μ:Mu)(q:Nat->Nat):Prop where
 cl:Cl ops listed
 size:a.tmps.size=m
 Qv:a.defers=[]
 Ll:∀b,q b<=ops.size
 mo:∀k b,qG J ops E k->b<(Hs k).size->fQ (Hs k) (Hs (k+1)) b=false->(listed.getD k false=true↔k<q b)
 st:St cx base w.heap μ (PH Hs ops.size q)
 Rg:∀s v,(E (uD ops listed s ops.size)).get J s=some v->gW w.heap μ v (a.tmps.getD s Go.undef)
 Wy:∀b,μ b≠none↔(pw b≠none\/((Hs 0).size<=b/\b<(Hs ops.size).size/\listed.getD (w9 Hs b ops.size-1) false=true))
 ext:rk ws pw w μ
section
variable {P:ai}{cx:Ctx}{cf:jB}{base J m:Nat}{ops:af Oper}{E:Nat->Env}{Hs:Nat->H}{ws w:World}{pw μ:Mu}{listed:af Bool}{a:Act}{q:Nat->Nat}
def Dr.mono(c:Dr P cx cf base J m ops E Hs ws pw):∀b,b<ops.size->(Hs b).size<=(Hs (b+1)).size:=λb d=>(c.grow b d).size
def Dr.lt0(c:Dr P cx cf base J m ops E Hs ws pw){b:Nat}(e:pw b≠none):b<(Hs 0).size:=by
 have⟨f,d⟩:=Option.ne_none_iff_exists'.1 e;exact c.tI.fG d
def Dr.still(g:Dr P cx cf base J m ops E Hs ws pw){b d:Nat}(p:b<ops.size)(n:d<(Hs b).size)(h:¬qG J ops E b):(Hs (b+1)).get d=(Hs b).get d:=by
 have f:ops[b]? =some ops[b]:=Y;rcases om (g.tr.step b _ f)with⟨_,_,c⟩|⟨i,r,k,_⟩
 ·rw[c]
 ·have e:jb ops[b].op=false:=by
   cases c:jb ops[b].op with
   |false=>rfl
   |true=>exact absurd ⟨_,f,c,i⟩ h
  rcases JA (h2:=Hs b) e (λ_ _ _=>rfl) (KL e k)with⟨c,_⟩|⟨l,s,_,_,_,c,_⟩
  ·rw[c]
  grind [H.ow]
def Dr.ver(d:Dr P cx cf base J m ops E Hs ws pw){b c:Nat}(g:b<ops.size)(f:c<(Hs b).size)(n:fQ (Hs b) (Hs (b+1)) c=true):(Hs (b+1)).get c=(Hs b).get c:=by
 have⟨k,e⟩:=H.get_some (d.wf b D) f;have⟨p,i,h⟩:=(d.grow b g).ver c k e;rcases h with rfl|l
 ·rw[e,i]
 simp_all[fQ]
def Dr.same(d:Dr P cx cf base J m ops E Hs ws pw){b c:Nat}(f:b<ops.size)(e:c<(Hs b).size)(i:qG J ops E b->fQ (Hs b) (Hs (b+1)) c=false->False):(Hs (b+1)).get c=(Hs b).get c:=by
 by_cases g:qG J ops E b
 ·cases h:fQ (Hs b) (Hs (b+1)) c with
  |true=>exact d.ver f e h
  |false=>grind
 ·exact d.still f e g
def Dr.zh(c:Dr P cx cf base J m ops E Hs ws pw){b:Nat}(e:q b<=ops.size)(d:b<(Hs ops.size).size):(PH Hs ops.size q).get b=(Hs (max (q b) (w9 Hs b ops.size))).get b:=
 abd c.mono c.wf e d
def Inv.lt(f:Dr P cx cf base J m ops E Hs ws pw)(c:Inv cx base J m ops E Hs ws pw listed a w μ q){b:Nat}{d:Loc}(e:μ b=some d):b<(Hs ops.size).size:=c.st.fG e
variable {j:Nat}{o:Oper}
structure OT(ops:af Oper)(listed:af Bool)(j:Nat)(o:Oper):Prop where
 op:ops[j]? =some o
 lt:j<ops.size
 not:listed.getD j false=false
 before:∀i,ku ops i j=true->listed.getD i false=true
 behind:∀k,ku ops j k=true->listed.getD k false=false
 aeO:∀e∈o.after,Region.binds .any e=true->listed.getD e.on false=true
def KF{listed:af Bool}{b:Nat}(c:listed.getD b true=false):listed.getD b false=false:=by
 grind
def rdy(c:Cl ops listed)(k:j∈Region.ready .any ops listed):∃o,OT ops listed j o:=by
 have⟨e,o,d,f⟩:=mem_ready.1 k;have n:j<ops.size:=(Array.getElem?_eq_some_iff.1 d).1;refine⟨o,d,n,KF e,λr i=>EE c i d f,λb l=>?_,f⟩;cases h:listed.getD b false with
 |false=>rfl
 |true=>
  have p:b<listed.size:=by
   grind
  have g:ops[b]? =some (ops[b]'(by rw[<-c.size];omega)):=by
   have:b<ops.size:=by rw[<-c.size];omega
   simp
  have:=EE c l g (c.closed b _ g h);rw[KF e]at this;grind
def Cl.set(b:Cl ops listed)(k:OT ops listed j o):Cl ops (listed.setIfInBounds j true):=by
 refine⟨by simp[b.size],λh i g hl c e d=>?_⟩;by_cases f:j=h
 ·subst f;have:i=o:=c8 (g.symm.trans k.op);subst this;exact getD_set_true (k.aeO c e d)
 ·rw[getD_set_ne false f]at hl;exact getD_set_true (b.closed h i g hl c e d)
def xP(b:Cl ops listed)(c:OT ops listed j o):(listed.setIfInBounds j true).getD j false=true:=by
 have:j<listed.size:=by rw[b.size];exact c.lt
 simp[this]
theorem Inv.d8(p:Dr P cx cf base J m ops E Hs ws pw)(R:Inv cx base J m ops E Hs ws pw listed a w μ q)(f:OT ops listed j o){s:Nat}(B:s∈o.looksAt ops):
 (E (uD ops listed s ops.size)).get J s=(E j).get J s:=by
 have I:∀b i,ops[b]? =some i->i.dst=some s->(b<j->listed.getD b false=true)/\(j<b->listed.getD b false=false):=by
  intro b i k t;refine⟨λu=>?_,λu=>?_⟩
  ·rcases p.GV b j i o k f.op u with⟨r,_⟩|v
   ·exact absurd B ((Oper.apart_spec r).1 s t)
   ·exact f.before b v
  ·rcases p.GV j b o i f.op k u with⟨r,_⟩|v
   ·exact absurd B ((Oper.apart_spec r).2.2 s t)
   ·exact f.behind b v
 have U:uD ops listed s ops.size<=j:=by
  rcases Bb (ops:=ops) (listed:=listed) (s:=s) ops.size with h|⟨b,S,T,L,x⟩
  ·omega
  ·have e:ops[b]? =some ops[b]:=Y;rw[e]at x;have C:=I b _ e x;rcases Nat.lt_trichotomy b j with h|h|h
   ·omega
   ·subst h;rw[f.not]at L;grind
   grind
 have O:∀c,uD ops listed s ops.size+c<=j->(E (uD ops listed s ops.size+c)).get J s=(E (uD ops listed s ops.size)).get J s:=by
  intro c;induction c with
  |zero=>simp
  |succ c N=>
   intro t;have k:uD ops listed s ops.size+c<ops.size:=by have:=f.lt;omega
   have e:ops[uD ops listed s ops.size+c]? =some ops[uD ops listed s ops.size+c]:=Y;rw[<-N D];have A:ops[uD ops listed s ops.size+c].dst≠some s:=by
    intro y;have C:=(I _ _ e y).1 D;have:=Mp (n:=ops.size) k C (by rw[e];exact y);omega
   have V:∀l g,(E (uD ops listed s ops.size+c)).dst J ops[uD ops listed s ops.size+c].dst l=some g->g.get J s=(E (uD ops listed s ops.size+c)).get J s:=by
    intro l g d;cases z:ops[uD ops listed s ops.size+c].dst with
    |none=>rw[z]at d;have d:some _=some g:=d;simp only[ar]at d;rw[d]
    |some F=>
     rw[z]at d A;have M:s≠F:=λK=>A (by rw[K]);rw[Env.DE (show Env.set J _ F l=some g from d) s,ao M]
   rcases om (p.tr.step _ _ e)with⟨_,d,_⟩|⟨_,l,_,d⟩
   ·grind
   grind
 have:=O (j-uD ops listed s ops.size) D;rw[show uD ops listed s ops.size+(j-uD ops listed s ops.size)=j by omega]at this
 grind
def Inv.Rr(d:Dr P cx cf base J m ops E Hs ws pw)(c:Inv cx base J m ops E Hs ws pw listed a w μ q)(f:OT ops listed j o):lj w.heap μ J (Eo J (E j) (o.looksAt ops)) a.tmps:=by
 intro g h b;rw[AS]at b;split at b
 ·rename_i e;exact c.Rg g h (by rw[c.d8 d f e];exact b)
 grind
def Inv.D7(p:Dr P cx cf base J m ops E Hs ws pw)(g:Inv cx base J m ops E Hs ws pw listed a w μ q)(c:OT ops listed j o){k:af Obj}{n:Mu}(L:Ext w.heap μ k n){l:T}{r:am}
 (I:gW k n l r) (y:(E j).dst J o.dst l=some (E (j+1))):∀s f,(E (uD ops (listed.setIfInBounds j true) s ops.size)).get J s=some f->gW k n f ((a.put o.dst r).tmps.getD s Go.undef):=by
 intro s f d;by_cases e:o.dst=some s
 ·have i:uD ops (listed.setIfInBounds j true) s ops.size=j+1:=by
   have O:=Mp (ops:=ops) (s:=s) c.lt (xP g.cl c) (by rw[c.op];exact e);rcases Bb (ops:=ops) (listed:=listed.setIfInBounds j true) (s:=s) ops.size with h|⟨b,M,N,t,u⟩
   ·omega
   ·rcases Nat.lt_trichotomy b j with h|h|h
    ·omega
    ·omega
    ·have v:ops[b]? =some ops[b]:=Y;rw[v]at u;rw[getD_set_ne false D]at t;rcases p.GV j b o _ c.op v h with⟨z,_⟩|F
     ·exact absurd u ((Oper.apart_spec z).2.1 s e)
     ·rw[c.behind b F]at t;grind
  rw[i]at d;rw[e]at y|-;rw[Env.DE (show Env.set J _ s l=some _ from y) s]at d;simp only[bj,ar]at d;subst d;have B:s<a.tmps.size:=by rw[g.size];exact p.dst j o s c.op e
  simpa[Act.put,cd,B]using I
 ·have i:uD ops (listed.setIfInBounds j true) s ops.size=uD ops listed s ops.size:=by
   refine Qd λb S A=>?_;have:j≠b:=by rintro rfl;rw[c.op]at A;grind
   simp_all
  rw[i]at d;have x:=(g.Rg s f d).ext L;cases R:o.dst with
  |none=>exact x
  |some K=>
   have C:K≠s:=by grind
   simpa[Act.put,cd,Array.getElem?_setIfInBounds_ne C]using x
def Inv.looked(d:Dr P cx cf base J m ops E Hs ws pw)(k:Inv cx base J m ops E Hs ws pw listed a w μ q)(n:OT ops listed j o)(v:jb o.op=false)(L:lq ops J (E j) o.guard=some true)
 {b:Nat} (z:iM cx J (E j) (Hs j) o.op=some b) {e:Nat} (O:j<=e) (x:e<=ops.size) (u:b<(Hs e).size) (R:e=j\/e=j+1):
 (PH Hs ops.size q).get b=(Hs e).get b:=by
 have l:b<(Hs ops.size).size:=bF u (oG d.mono x (au _));rw[d.zh (k.Ll _) l];have M:w9 Hs b ops.size<=e:=(mw d.mono l x).1 u;have t:zK cx J ops E Hs j b:=⟨o,n.op,v,L,z⟩;have N:¬qG J ops E j:=by
  rintro⟨S,r,A,_⟩;rw[n.op]at r;simp only[ar]at r;subst r;rw[v]at A;grind
 rcases Nat.le_total (max (q b) (w9 Hs b ops.size)) e with I|B
 ·refine(nh d.mono I λc C F=>?_).symm;have f:b<(Hs c).size:=(mw d.mono l D).2 D;by_cases g:qG J ops E c
  ·have p:c<j:=by
    grind
   cases i:fQ (Hs c) (Hs (c+1)) b with
   |true=>exact d.ver D f i
   |false=>
    rcases d.tr.behind j c b t g p with h|h
    ·rw[i]at h;grind
    ·have:=(k.mo c b g f i).1 (n.before c h);omega
  ·exact d.still D f g
 ·refine nh d.mono B λc C F=>?_;have K:c<q b:=D;have s:c<ops.size:=by have:=k.Ll b;omega
  have f:b<(Hs c).size:=(mw d.mono l D).2 D;by_cases g:qG J ops E c
  ·have p:j<c:=by
    grind
   cases i:fQ (Hs c) (Hs (c+1)) b with
   |true=>exact d.ver s f i
   |false=>
    rcases d.tr.ahead j c b t g p with h|h
    ·rw[i]at h;grind
    ·have y:=(k.mo c b g f i).2 K;rw[n.behind c h]at y;grind
  ·exact d.still s f g
def Inv.want(b:Dr P cx cf base J m ops E Hs ws pw)(c:Inv cx base J m ops E Hs ws pw listed a w μ q)(k:OT ops listed j o){d:Bool}(g:lq ops J (E j) o.guard=some d):
 Region.wanted o (yielded ops a.tmps)=d:=
 DW (c.Rr b k) (λh i l e f=>by rw[c.size];exact b.dst h i l e f) (by rw[Lq];exact g)
def Dr.made(c:Dr P cx cf base J m ops E Hs ws pw)(g:j<ops.size){b:Nat}(d:b<(Hs ops.size).size):w9 Hs b ops.size=j+1↔((Hs j).size<=b/\b<(Hs (j+1)).size):=by
 have e:=mw c.mono d (show j<=ops.size by omega);have f:=mw c.mono d (show j+1<=ops.size by omega);omega
def Dr.cr0(c:Dr P cx cf base J m ops E Hs ws pw){b:Nat}(d:b<(Hs ops.size).size)(e:(Hs 0).size<=b):0<w9 Hs b ops.size:=by
 rcases Nat.eq_zero_or_pos (w9 Hs b ops.size)with h|h
 ·have:=(mw c.mono d (aw _)).2 D;omega
 omega
def Dr.CU(c:Dr P cx cf base J m ops E Hs ws pw)(f:j<ops.size){b:Nat}(d:b<(Hs ops.size).size)(e:(Hs 0).size<=b)(g:¬((Hs j).size<=b/\b<(Hs (j+1)).size)):
 (listed.setIfInBounds j true).getD (w9 Hs b ops.size-1) false=listed.getD (w9 Hs b ops.size-1) false:=by
 refine getD_set_ne false λh=>g ?_;have:=c.cr0 d e;exact(c.made f d).1 D 
def Inv.IC(f:Dr P cx cf base J m ops E Hs ws pw)(k:Inv cx base J m ops E Hs ws pw listed a w μ q)(h:OT ops listed j o)(g:(Hs (j+1)).size=(Hs j).size){i:Mu}(l:∀b,i b≠none↔μ b≠none):
 ∀b,i b≠none↔(pw b≠none\/((Hs 0).size<=b/\b<(Hs ops.size).size/\(listed.setIfInBounds j true).getD (w9 Hs b ops.size-1) false=true)):=by
 intro b;rw[l,k.Wy];refine or_congr Iff.rfl ⟨λ⟨c,d,e⟩=>⟨c,d,?_⟩,λ⟨c,d,e⟩=>⟨c,d,?_⟩⟩
 ·rw[f.CU h.lt d c (by rw[g];omega)];exact e
 ·rw[f.CU h.lt d c (by rw[g];omega)]at e;exact e
def EQ(c:OT ops listed j o)(d:jb o.op=false\/lq ops J (E j) o.guard=some false):¬qG J ops E j:=by
 rintro⟨g,b,e,f⟩;rw[c.op]at b;grind
def Inv.FC(d:Inv cx base J m ops E Hs ws pw listed a w μ q)(h:¬qG J ops E j):
 ∀b c,qG J ops E b->c<(Hs b).size->fQ (Hs b) (Hs (b+1)) c=false->((listed.setIfInBounds j true).getD b false=true↔b<q c):=by
 intro b c f e g;have:j≠b:=by grind
 rw[getD_set_ne false this];exact d.mo b c f e g
variable {Q:Exit->Act->World->Prop}
def Inv.skip(d:Dr P cx cf base J m ops E Hs ws pw)(b:Inv cx base J m ops E Hs ws pw listed a w μ q)(c:OT ops listed j o)(g:lq ops J (E j) o.guard=some false)
 (f:(E j).dst J o.dst .undef=some (E (j+1))) (e:Hs (j+1)=Hs j):Inv cx base J m ops E Hs ws pw (listed.setIfInBounds j true) (a.put o.dst Go.undef) w μ q:=
 ⟨b.cl.set c,by rw[Act.rY];exact b.size,by rw[Act.rZ];exact b.Qv,b.Ll,b.FC (EQ c (.inr g)),b.st,
   b.D7 d c (Ext.refl _ _) .undef f,b.IC d c (by rw[e]) λ_=>Iff.rfl,b.ext⟩
def Inv.quiet(p:Dr P cx cf base J m ops E Hs ws pw)(i:Inv cx base J m ops E Hs ws pw listed a w μ q)(k:OT ops listed j o)(cb:lq ops J (E j) o.guard=some true)(Z:jb o.op=false){v:T}
 (bn:GC cx cf J (E j) (Hs j) o.op v (Hs (j+1))) (b9:(E j).dst J o.dst v=some (E (j+1))):
 BI P (λc V=>∃t,Inv cx base J m ops E Hs ws pw (listed.setIfInBounds j true) (a.put o.dst c) V t q) ((execOp a.eval o).run P w):=by
 have b7:=EQ (J:=J) (E:=E) k (.inl Z);have b8:=KL Z bn;have aN:∀C∈o.op.operands,ir cx J (E j) C=ir cx J (Eo J (E j) (o.looksAt ops)) C:=λC bn=>B2 bn;rw[B3 aN]at b8;have di:∀b,iM cx J (Eo J (E j) (o.looksAt ops)) (Hs j) o.op=some b->b<(Hs j).size->(PH Hs ops.size q).get b=(Hs j).get b:=by
  intro b d bW;rw[<-yh aN]at d;exact i.looked p k Z cb d (au _) (bD k.lt) bW (.inl rfl)
 rcases JA Z di b8 with⟨an,a8⟩|⟨f,C,L,d,ea,an,a8⟩
 ·
  refine((AZ p.jQ i.st (i.Rr p k) a8).ran).mono λc V aE=>?_;obtain⟨t,B,x,A,U⟩:=aE;refine⟨t,i.cl.set k,by rw[Act.rY];exact i.size,by rw[Act.rZ];exact i.Qv,i.Ll,i.FC b7,x,i.D7 p k A.ext B b9,?_,i.ext.trans A⟩;refine i.IC p k (by rw[an]) λb=>⟨λd=>?_,λd=>?_⟩
  ·rcases U.2.1 b d with h|h
   ·exact h
   ·omega
  ·have⟨e,S⟩:=Option.ne_none_iff_exists'.1 d;have⟨al,ap,_⟩:=A.ext.mu b e S;rw[ap];simp
 ·
  subst ea;have aA:(PH Hs ops.size q).size=(Hs ops.size).size:=rfl;have ca:(Hs (j+1)).size=(Hs j).size+1:=by rw[an];rfl
  have bH:(Hs j).size<(Hs ops.size).size:=by
   have:=oG p.mono (show j+1<=ops.size from k.lt) (au _);omega
  have bB:(Hs 0).size<=(Hs j).size:=oG p.mono (aw _) (bD k.lt);have bN:w9 Hs (Hs j).size ops.size=j+1:=(p.made k.lt bH).2 ⟨au _,D⟩;have ey:μ (Hs j).size=none:=by
   cases dk:μ (Hs j).size with
   |none=>rfl
   |some e=>
    exfalso;rcases(i.Wy (Hs j).size).1 (by rw[dk];simp)with h|⟨_,_,h⟩
    ·have:=p.lt0 h;omega
    ·rw[bN]at h;simp only[Nat.add_sub_cancel]at h;rw[k.not]at h;grind
  have dd:(Hs (j+1)).get (Hs j).size=some C:=by rw[an];exact H.vw (p.wf j (bD k.lt)) C
  have dn:(PH Hs ops.size q).get (Hs j).size=some C:=by
   rw[<-yh aN]at d;rw[i.looked p k Z cb d (show j<=j+1 by omega) k.lt D (.inr rfl)];omega
  refine((AZ p.jQ i.st (i.Rr p k) a8).ran).mono λc V aE=>?_;obtain⟨t,B,x,A,U⟩:=aE;rw[aA]at B U;have c7:((PH Hs ops.size q).cons C).size=(Hs ops.size).size+1:=rfl;rw[c7]at U;have eh:t (Hs ops.size).size≠none:=U.2.2 _ (au _) D;have bX:∀b e,μ b=some e->b<(Hs ops.size).size:=λb e d=>i.st.fG d;have bS:∀b,b≠(Hs ops.size).size->(t b≠none↔μ b≠none):=by
   intro b et;constructor
   ·intro d;rcases U.2.1 b d with h|h
    ·exact h
    ·omega
   ·intro d;have⟨e,S⟩:=Option.ne_none_iff_exists'.1 d;have⟨al,ap,_⟩:=A.ext.mu b e S;rw[ap];simp
  have ef:t (Hs j).size=none:=by
   grind
  have⟨eo,er⟩:=Option.ne_none_iff_exists'.1 eh
  let F:Mu:=⟨λb=>if b=(Hs j).size then t (Hs ops.size).size else if b=(Hs ops.size).size then none else t b,t.qD⟩
  have I:F (Hs j).size=t (Hs ops.size).size:=by grind
  have X:F (Hs ops.size).size=none:=by
   have:(Hs ops.size).size≠(Hs j).size:=D
   grind
  have R:∀b,b≠(Hs j).size->b≠(Hs ops.size).size->F b=t b:=λb r s=>by grind
  have bT:∀O,oU F O->oU t O:=by
   rintro O (⟨b,e,d,hl⟩|hr)
   ·by_cases r:b=(Hs j).size
    ·subst r;rw[I]at d;exact .inl ⟨_,e,d,hl⟩
    ·by_cases s:b=(Hs ops.size).size
     ·subst s;rw[X]at d;grind
     ·rw[R b r s]at d;exact .inl ⟨b,e,d,hl⟩
   ·exact .inr hr
  have b6:∀b e,b<(Hs ops.size).size->t b=some e->F b=some e:=by
   intro b e d S;have r:b≠(Hs j).size:=by rintro rfl;rw[ef]at S;grind
   rw[R b r D];exact S
  have a6:Ext w.heap μ V.heap F:=by
   refine⟨A.ext.size,λO de dm=>?_,λb e d=>?_,A.ext.qD,A.ext.kept⟩
   ·have⟨eA,eB⟩:=A.ext.o7 O de dm
    grind
   ·have⟨al,ap,eu⟩:=A.ext.mu b e d
    grind
  have ds:gW V.heap F (f (Hs j).size) c:=by
   rcases L with L|⟨l,L⟩|L|L
   ·rw[L]at B|-;cases B with|ptr _ _ _ _ e W d aX c1=>exact .ptr _ _ _ _ e W (by rw[I];exact d) aX c1
   ·rw[L]at B|-;cases B with|arr _ _ _ _ _ e W cF d aX hl h=>exact .arr _ _ _ _ _ e W cF (by rw[I];exact d) aX hl h
   ·rw[L]at B|-;cases B with|iter _ e W d h=>exact .iter _ e W (by rw[I];exact d) h
   ·rw[L]at B|-;cases B with|map _ e O d h=>exact .map _ e O (by rw[I];exact d) h
  have dv:St cx base V.heap F (PH Hs ops.size q):=by
   refine⟨HJ _ _ _,x.fit,λb e d=>?_,λb cp e al d c4 hl=>?_,λb e d=>?_,λb e d=>?_,x.sY,λg cL c9=>?_⟩
   ·by_cases r:b=(Hs j).size
    ·subst r;rw[I]at d;have⟨y,ae,a7⟩:=x.box _ e d;have eb:y=C:=by
      have:=H.vw (HJ Hs ops.size q) C;rw[aA,ae]at this
      grind
     subst eb;refine⟨y,dn,a7.conv (n:=(Hs ops.size).size) (λu bi=>?_) b6 bT⟩;exact(p.ad8 (j+1) k.lt _ y (.inr bB) dd u bi).mono D
    ·by_cases s:b=(Hs ops.size).size
     ·subst s;rw[X]at d;grind
     ·rw[R b r s]at d;have⟨y,ae,a7⟩:=x.box b e d;have c6:μ b≠none:=(bS b s).1 (by rw[d];simp);have⟨bs,bC⟩:=Option.ne_none_iff_exists'.1 c6;have bW:=bX b bs bC;rw[H.ow (by rw[aA];omega)]at ae;refine⟨y,ae,a7.conv (n:=(Hs ops.size).size) (λu bi=>?_) b6 bT⟩;have⟨z,bp,ec⟩:=i.st.box b bs bC;rw[ae]at bp;simp only[ar]at bp;subst bp;exact ec.low bX u bi
   ·have bu:∀b e,F b=some e->(b=(Hs j).size/\t (Hs ops.size).size=some e)\/(b≠(Hs j).size/\b≠(Hs ops.size).size/\t b=some e):=by
     grind
    rcases bu b e d with⟨M,K⟩|⟨M,K,N⟩<;>rcases bu cp al c4 with⟨cX,av⟩|⟨cX,av,bA⟩
    ·omega
    ·exact absurd (x.inj _ _ _ _ K bA hl).symm av
    ·exact absurd (x.inj _ _ _ _ N av hl) K
    ·exact x.inj _ _ _ _ N bA hl
   ·by_cases r:b=(Hs j).size
    ·subst r;rw[I]at d;exact x.low _ _ d
    ·by_cases s:b=(Hs ops.size).size
     ·subst s;rw[X]at d;grind
     ·rw[R b r s]at d;exact x.low _ _ d
   ·by_cases r:b=(Hs j).size
    ·subst r;rw[I]at d;exact x.apart _ _ d
    ·by_cases s:b=(Hs ops.size).size
     ·subst s;rw[X]at d;grind
     ·rw[R b r s]at d;exact x.apart _ _ d
   ·exact(i.st.Bl g cL c9).ext a6
  refine⟨F,i.cl.set k,by rw[Act.rY];exact i.size,by rw[Act.rZ];exact i.Qv,i.Ll,i.FC b7,dv,i.D7 p k a6 ds b9,λb=>?_,
   i.ext.trans ⟨a6,A.os,A.tape,A.output⟩⟩
  by_cases r:b=(Hs j).size
  ·subst r;refine⟨λ_=> .inr ⟨bB,bH,?_⟩,λ_=>by rw[I];omega⟩;rw[bN];exact xP i.cl k
  ·by_cases s:b=(Hs ops.size).size
   ·subst s;refine⟨λh=>absurd X h,λh=>?_⟩;rcases h with h|⟨_,h,_⟩
    ·have:=p.lt0 h;omega
    ·omega
   ·rw[R b r s,bS b s,i.Wy];refine or_congr Iff.rfl ⟨λ⟨M,K,N⟩=>⟨M,K,?_⟩,λ⟨M,K,N⟩=>⟨M,K,?_⟩⟩
    ·rw[p.CU k.lt K M (by rw[ca];omega)];exact N
    ·rw[p.CU k.lt K M (by rw[ca];omega)]at N;exact N
def Inv.ahG(k:Dr P cx cf base J m ops E Hs ws pw)(f:Inv cx base J m ops E Hs ws pw listed a w μ q)(I:OT ops listed j o)(dm:lq ops J (E j) o.guard=some true)(cX:jb o.op=true)
 (b8:∀i ae,ops[i]? =some ae->jb ae.op=true->(i<j->ku ops i j=true)/\(j<i->ku ops j i=true)) {v:T}
 (A:GC cx cf J (E j) (Hs j) o.op v (Hs (j+1))) (dd:(E j).dst J o.dst v=some (E (j+1))):
 BI P (λc ap=>∃K,Inv cx base J m ops E Hs ws pw (listed.setIfInBounds j true) (a.put o.dst c) ap K (λ_=>j+1)) ((execOp a.eval o).run P w):=by
 have ec:qG J ops E j:=⟨o,I.op,cX,dm⟩;have bT:∀i,qG J ops E i->i<j->listed.getD i false=true:=by
  rintro i ⟨ae,M,C,_⟩ bu;exact I.before i ((b8 i ae M C).1 bu)
 have bS:∀i,qG J ops E i->j<i->listed.getD i false=false:=by
  rintro i ⟨ae,M,C,_⟩ bu;exact I.behind i ((b8 i ae M C).2 bu)
 have r:=I.lt;have eo:(Hs j).size<=(Hs (j+1)).size:=k.mono j r;have er:(Hs (j+1)).size<=(Hs ops.size).size:=oG k.mono (show j+1<=ops.size from r) (au _);have ea:(Hs 0).size<=(Hs j).size:=oG k.mono (aw _) (bD r);have cF:∀b,b<(Hs j).size->(PH Hs ops.size q).get b=(Hs j).get b:=by
  intro b e;have t:b<(Hs ops.size).size:=D;rw[k.zh (f.Ll _) t];have bW:w9 Hs b ops.size<=j:=(mw k.mono t (bD r)).1 e;rcases Nat.le_total (max (q b) (w9 Hs b ops.size)) j with c6|c4
  ·refine(nh k.mono c6 λi bp bs=>?_).symm;have U:b<(Hs i).size:=(mw k.mono t D).2 D;refine k.same D U λC al=>?_;have:=(f.mo i b C U al).1 (bT i C bs);omega
  ·refine nh k.mono c4 λi bp bs=>?_;have c9:=f.Ll b;have U:b<(Hs i).size:=(mw k.mono t D).2 D;refine k.same D U λC al=>?_;have hl:=(f.mo i b C U al).2 D;rcases Nat.eq_or_lt_of_le bp with h|h
   ·subst h;rw[I.not]at hl;grind
   grind
 have c1:∀b d,μ b=some d->b<(Hs j).size\/(Hs (j+1)).size<=b:=by
  intro b d e;rcases aS b (Hs j).size with h|h
  ·omega
  ·right;rcases aS b (Hs (j+1)).size with l|l
   ·exfalso;have t:b<(Hs ops.size).size:=D;rcases(f.Wy b).1 (by rw[e];simp)with g|⟨_,_,g⟩
    ·have:=k.lt0 g;omega
    ·rw[(k.made r t).2 ⟨h,l⟩]at g;simp only[Nat.add_sub_cancel]at g;rw[I.not]at g;grind
   omega
 have cL:∀b,μ b≠none->pw b≠none\/(Hs 0).size<=b:=λb e=>by
  rcases(f.Wy b).1 e with g|⟨g,_⟩
  ·grind
  omega
 let X:Mu:=⟨λb=>if b<(Hs j).size then μ b else none,λp=>μ.qD p\/∃b d,(Hs j).size<=b/\μ b=some d/\d.jz=p⟩
 have bB:∀b,b<(Hs j).size->X b=μ b:=λb e=>by grind
 have S:∀b d,X b=some d->b<(Hs j).size/\μ b=some d:=by
  grind
 have av:∀p,oU X p->oU μ p:=by
  rintro p (⟨b,d,e,hl⟩|hr|⟨b,d,e,L,hl⟩)
  ·exact .inl ⟨b,d,(S b d e).2,hl⟩
  ·exact .inr hr
  ·exact .inl ⟨b,d,L,hl⟩
 have aA:∀b d,b<(Hs j).size->μ b=some d->X b=some d:=λb d e L=>by rw[bB b e];exact L
 have dv:St cx base w.heap X (Hs j):=by
  refine⟨k.wf j (bD r),f.st.fit,λb d e=>?_,λb N d B e aX hl=>?_,λb d e=>?_,λb d e=>?_,λp hr=>?_,λg a7 bi=>?_⟩
  ·have⟨x,l⟩:=S b d e;have⟨W,A,M⟩:=f.st.box b d l;rw[cF b x]at A;exact⟨W,A,M.conv (k.ad8 j (bD r) b W (cL b (by rw[l];simp)) A) aA av⟩
  ·exact f.st.inj b N d B (S b d e).2 (S N B aX).2 hl
  ·exact f.st.low b d (S b d e).2
  ·rintro(hr|⟨N,B,aX,aN,hl⟩)
   ·exact f.st.apart b d (S b d e).2 hr
   ·have:=f.st.inj N b B d aN (S b d e).2 hl;have:=(S b d e).1;omega
  ·rcases hr with hr|⟨b,d,_,L,hl⟩
   ·exact f.st.sY p hr
   ·rw[<-hl];exact f.st.lt L
  ·have bX:=f.st.Bl g a7 bi;refine bX.conv (n:=0) ?_ (λb d e=>by omega) av;have⟨_,_,_,_,_,_,_,_,_,de,_⟩:=bX.m9;exact .j9 _ λu Z=>(de u Z).2.low 0
 have ds:lj w.heap X J (Eo J (E j) (o.looksAt ops)) a.tmps:=by
  intro s u Z;refine(f.Rr k I s u Z).conv (n:=(Hs j).size) ?_ aA av
  rw[AS]at Z;split at Z
  ·exact k.ahF j (bD r) s u Z
  grind
 have dn:=A.congr (e':=Eo J (E j) (o.looksAt ops)) λW A=>B2 A;refine(Fy k.jQ k.ck dv ds dn).mono λc ap cp=>?_;obtain⟨⟨K,b9,V,F,ca⟩,_⟩:=cp
 let R:Mu:=⟨λb=>if b<(Hs (j+1)).size then K b else μ b,μ.qD⟩
 have a8:∀b,b<(Hs (j+1)).size->R b=K b:=λb e=>by grind
 have bC:∀b,(Hs (j+1)).size<=b->R b=μ b:=λb e=>by
  have:¬b<(Hs (j+1)).size:=D
  grind
 have bA:K.qD=X.qD:=F.ext.qD;have ef:∀b d,(Hs (j+1)).size<=b->μ b=some d->K.qD d.jz:=by
  intro b d e L;rw[bA]
  grind
 have bH:∀p,oU R p->oU K p:=by
  rintro p (⟨b,d,e,hl⟩|hr)
  ·by_cases h:b<(Hs (j+1)).size
   ·rw[a8 b h]at e;exact .inl ⟨b,d,e,hl⟩
   ·rw[bC b D]at e;right;rw[<-hl];grind
  ·right;rw[bA];grind
 have b7:∀b d,K b=some d->b<(Hs (j+1)).size:=λb d e=>V.fG e;have bN:∀b d,b<(Hs (j+1)).size->K b=some d->R b=some d:=λb d e L=>by rw[a8 b e];exact L
 have a6:Ext w.heap μ ap.heap R:=by
  refine⟨F.ext.size,λp bn c7=>?_,λb d e=>?_,rfl,λp bn hr=>F.ext.kept p bn (.inl hr)⟩
  ·have⟨y,z⟩:=F.ext.o7 p bn λh=>c7 (av p h)
   grind
  ·rcases c1 b d e with h|h
   ·have⟨B,aN,eh⟩:=F.ext.mu b d (aA b d h e)
    grind
   grind
 have di:St cx base ap.heap R (PH Hs ops.size (λ_=>j+1)):=by
  have an:∀b d,R b=some d->(b<(Hs (j+1)).size/\K b=some d)\/((Hs (j+1)).size<=b/\μ b=some d):=by
   grind
  refine⟨HJ _ _ _,V.fit,λb d e=>?_,λb N d B e aX hl=>?_,λb d e=>?_,λb d e hr=>?_,λp hr=>?_,λg a7 bi=>(f.st.Bl g a7 bi).ext a6⟩
  ·rcases an b d e with⟨x,l⟩|⟨x,l⟩
   ·have⟨W,A,M⟩:=V.box b d l;have t:b<(Hs ops.size).size:=D;have bW:w9 Hs b ops.size<=j+1:=(mw k.mono t (show j+1<=ops.size from r)).1 x;refine⟨W,?_,M.conv (M.low b7) bN bH⟩;rw[k.zh (q:=λ_=>j+1) (show j+1<=ops.size from r) t,show max (j+1) (w9 Hs b ops.size)=j+1 by omega];exact A
   ·have⟨W,A,M⟩:=f.st.box b d l;have t:b<(Hs ops.size).size:=f.st.fG l;have bW:¬w9 Hs b ops.size<=j+1:=λh=>by
     have:=(mw k.mono t (show j+1<=ops.size from r)).2 h;omega
    refine⟨W,?_,M.ext a6 ?_⟩
    ·rw[k.zh (f.Ll _) t]at A;rw[k.zh (q:=λ_=>j+1) (show j+1<=ops.size from r) t,show max (j+1) (w9 Hs b ops.size)=w9 Hs b ops.size by omega];rw[<-A];refine(nh k.mono D λi bp bs=>?_).symm;have c9:=f.Ll b;have eb:=IK Hs b ops.size;have U:b<(Hs i).size:=(mw k.mono t D).2 D;refine k.same D U λC al=>?_;have hl:=(f.mo i b C U al).2 D;rw[bS i C D]at hl;grind
    ·exact F.ext.kept d.jz (f.st.lt l) (.inr ⟨b,d,D,l,rfl⟩)
  ·rcases an b d e with⟨x,l⟩|⟨x,l⟩<;>rcases an N B aX with⟨cb,aE⟩|⟨cb,aE⟩
   ·exact V.inj b N d B l aE hl
   ·exact absurd (by rw[hl];grind) (V.apart b d l)
   ·exact absurd (by rw[<-hl];grind) (V.apart N B aE)
   ·exact f.st.inj b N d B l aE hl
  ·rcases an b d e with⟨x,l⟩|⟨x,l⟩
   ·exact V.low b d l
   ·exact f.st.low b d l
  ·rcases an b d e with⟨x,l⟩|⟨x,l⟩
   ·exact V.apart b d l (by rw[bA];grind)
   ·exact f.st.apart b d l hr
  ·exact bF (f.st.sY p hr) F.ext.size
 have dk:gW ap.heap R v c:=b9.conv (b9.low b7) bN bH;refine⟨R,f.cl.set I,by rw[Act.rY];exact f.size,by rw[Act.rZ];exact f.Qv,λ_=>r,λi b b6 _ _=>?_,di,f.D7 k I a6 dk dd,λb=>?_,
  f.ext.trans ⟨a6,F.os,F.tape,F.output⟩⟩
 ·rcases Nat.lt_trichotomy i j with h|h|h
  ·rw[getD_set_ne false D,bT i b6 h];grind
  ·subst h;rw[xP f.cl I];simp
  ·rw[getD_set_ne false D,bS i b6 h];grind
 ·by_cases x:b<(Hs (j+1)).size
  ·rw[a8 b x];have t:b<(Hs ops.size).size:=D;by_cases l:b<(Hs j).size
   ·have:K b≠none↔μ b≠none:=by
     constructor
     ·intro e;rcases ca.2.1 b e with g|g
      ·rwa[bB b l]at g
      ·omega
     ·intro e;have⟨d,L⟩:=Option.ne_none_iff_exists'.1 e;have⟨B,aN,_⟩:=F.ext.mu b d (aA b d l L);rw[aN];simp
    rw[this,f.Wy];refine or_congr Iff.rfl ⟨λ⟨y,z,O⟩=>⟨y,z,?_⟩,λ⟨y,z,O⟩=>⟨y,z,?_⟩⟩
    ·rw[k.CU r z y D];exact O
    ·rw[k.CU r z y D]at O;exact O
   ·refine⟨λ_=> .inr ⟨D,t,?_⟩,λ_=>ca.2.2 b D x⟩;rw[(k.made r t).2 ⟨D,x⟩];exact xP f.cl I
  ·rw[bC b D,f.Wy];refine or_congr Iff.rfl ⟨λ⟨y,z,O⟩=>⟨y,z,?_⟩,λ⟨y,z,O⟩=>⟨y,z,?_⟩⟩
   ·rw[k.CU r z y D];exact O
   ·rw[k.CU r z y D]at O;exact O
def Rb{e l f:H}{B:Ty}{c z n A:Nat}{p:T}(b:e.store B (.ptr c z n A) p=some l)(U:e.gU.length=e.size)(V:f.gU.length=f.size)(I:f.get c=e.get c):
 l.size=e.size/\(∀g,g≠c->l.get g=e.get g)/\fQ e l c=false/\c<e.size/\∃d,f.store B (.ptr c z n A) p=some d/\d.size=f.size/\d.gU.length=d.size/\d.get c=l.get c/\∀g,g≠c->d.get g=f.get g:=by
 have b:iG (Nat.beq (ml p.cells) B.size) (Z (e.get c) λF=> @jv.rec (λ_=>aa H) (λu h r exact t k=>
  iG (Nat.beq h z) (@Bool.rec (λ_=>aa H) (Z (nJ k n) λx=>Z (mG x A p.cells) λy=>Z (lU k n y) λs=>
   Z (iQ (Nat.succ r)) λi=>e.put c ⟨u,h,i,exact,false,s⟩) none t)) F)=some l:=b
 have⟨W,b⟩:=ew.1 b;replace b:=dX.1 b;obtain⟨⟨u,h,r,K,t,k⟩,v,b⟩:=b;have⟨X,b⟩:=ew.1 b;cases t with
 |true=>grind
 |false=>
  replace b:=dX.1 b;obtain⟨x,ae,b⟩:=b;replace b:=dX.1 b;obtain⟨y,al,b⟩:=b;replace b:=dX.1 b;obtain⟨s,an,b⟩:=b;replace b:=dX.1 b;obtain⟨i,J,b⟩:=b;have S:i=r+1:=by rw[jd]at J;grind
  have⟨p1,p2,p3,p4⟩:=Dz b U;have R:c<f.size:=H.fG (I.trans v);have C:∃d,f.put c ⟨u,h,i,K,false,s⟩=some d:=⟨_,H.x8.2 ⟨R,D,rfl⟩⟩;obtain⟨d,C⟩:=C;have⟨L,M,N,O⟩:=Dz C V;refine⟨p1,p4,?_,H.fG v,d,?_,L,M,by rw[N,p3],O⟩
  ·unfold fQ;rw[v,p3];show Nat.beq r i=false;rw[S]
   grind [aF,Nat.beq]
  ·show iG (Nat.beq (ml p.cells) B.size) (Z (f.get c) λF=> @jv.rec (λ_=>aa H) (λu h r exact t k=>
    iG (Nat.beq h z) (@Bool.rec (λ_=>aa H) (Z (nJ k n) λx=>Z (mG x A p.cells) λy=>Z (lU k n y) λs=>
     Z (iQ (Nat.succ r)) λi=>f.put c ⟨u,h,i,exact,false,s⟩) none t)) F)=some d
   rw[I,v];simp_all
def Dr.Rc(r:Dr P cx cf base J m ops E Hs ws pw){c:Nat}{k:Oper}(n:ops[c]? =some k)(I:qn k.op=true)(S:qG J ops E c):
 ∃e,YT cx J ops E c e/\e<(Hs c).size/\(Hs (c+1)).size=(Hs c).size/\(∀f,f≠e->(Hs (c+1)).get f=(Hs c).get f)/\fQ (Hs c) (Hs (c+1)) e=false/\
  ∀d:H,d.gU.length=d.size->d.get e=(Hs c).get e->∃g,jT k.op cx J (E c) d=some (.val .undef g)/\g.size=d.size/\g.gU.length=g.size/\g.get e=(Hs (c+1)).get e/\∀f,f≠e->g.get f=d.get f:=by
 obtain⟨aE,t,_,K⟩:=S;rw[n]at t;simp only[ar]at t;subst t;have F:c<ops.size:=(Array.getElem?_eq_some_iff.1 n).1;rcases om (r.tr.step c _ n)with⟨T,_⟩|⟨_,h,b,_⟩
 ·rw[K]at T;grind
 ·cases u:k.op with
  |store x y z=>
   rw[u]at b;rcases b with b|⟨O,L,b,_⟩
   ·have b:(Z (cx.ty x) λp=>Z (ir cx J (E c) y) λa=>Z (ir cx J (E c) z) λh=>iG h.iN (Z ((Hs c).store p a h) λl=>some (mS.val .undef l)))=some (.val h (Hs (c+1))):=b;replace b:=dX.1 b;obtain⟨p,M,b⟩:=b;replace b:=dX.1 b;obtain⟨U,A,b⟩:=b;replace b:=dX.1 b;obtain⟨aN,N,b⟩:=b;have⟨al,b⟩:=ew.1 b;replace b:=dX.1 b;obtain⟨l,B,b⟩:=b;simp only[ar,mS.val.injEq]at b;obtain⟨rfl,rfl⟩:=b;cases U with
    |ptr e an i aA=>
     have C:∀d:H,d.gU.length=d.size->d.get e=(Hs c).get e->_:=λd v s=>Rb B (r.wf c (bD F)) v s;have⟨V,W,X,ae,_⟩:=C (Hs c) (r.wf c (bD F)) rfl;refine⟨e,⟨k,x,y,z,n,u,K,by rw[A];rfl⟩,ae,V,W,X,λd v s=>?_⟩;have⟨_,_,_,_,g,ap,R⟩:=C d v s;refine⟨g,?_,R⟩;show(Z (cx.ty x) λp=>Z (ir cx J (E c) y) λa=>Z (ir cx J (E c) z) λh=>iG h.iN (Z (d.store p a h) λl=>some (mS.val .undef l)))=_;rw[M,A,N];simp_all
    |_=>simp[H.store]at B
   ·exact absurd b (ET (λf av=>by grind) O L)
  |_=>rw[u]at I;simp[qn]at I
def Inv.ad9(g:Dr P cx cf base J m ops E Hs ws pw)(i:Inv cx base J m ops E Hs ws pw listed a w μ q)(k:OT ops listed j o)(b8:lq ops J (E j) o.guard=some true)(C:qn o.op=true)
 {I:T} (t:GC cx cf J (E j) (Hs j) o.op I (Hs (j+1))) (bW:(E j).dst J o.dst I=some (E (j+1))):
 BI P (λN an=>∃K cp,Inv cx base J m ops E Hs ws pw (listed.setIfInBounds j true) (a.put o.dst N) an K cp) ((execOp a.eval o).run P w):=by
 have S:jb o.op=true:=by cases bB:o.op<;>rw[bB]at C<;>simp[qn]at C<;>rfl
 have U:qG J ops E j:=⟨o,k.op,S,b8⟩;have A:=k.lt;have⟨d,a6,O,bX,bH,b7,ae⟩:=g.Rc k.op C U;have v:d<(Hs ops.size).size:=bF O (oG g.mono (bD A) (au _));have M:∀b,qG J ops E b->b<j->fQ (Hs b) (Hs (b+1)) d=false->listed.getD b false=true:=by
  intro b l x e;rcases g.tr.both j b d a6 l x with h|h
  ·rw[e]at h;grind
  ·exact k.before b h
 have ap:∀b,qG J ops E b->j<b->fQ (Hs b) (Hs (b+1)) d=false->listed.getD b false=false:=by
  intro b l x e;have bi:=l;obtain⟨cb,X,bp,_⟩:=bi;rcases g.GV j b o cb k.op X x with⟨_,h⟩|h
  ·have⟨y,a7,_,_,bN,_⟩:=g.Rc X (h S bp).2 l;have:y=d:=by
    rcases Nat.decEq y d with bA|rfl
    ·exfalso;have z:=bN d (br bA);unfold fQ at e;rw[z]at e;cases s:(Hs b).get d with
     |none=>rw[s]at e;grind
     |some n=>
      rw[s]at e;have e:Nat.beq n.ver n.ver=false:=e;simp at e
    ·rfl
   subst this;rcases g.tr.both b j y a7 U x with h|h
   ·rw[b7]at h;grind
   ·exact k.behind b h
  ·exact k.behind b h
 have c4:w9 Hs d ops.size<=j:=(mw g.mono v (bD A)).1 O;have bS:(PH Hs ops.size q).get d=(Hs j).get d:=by
  rw[g.zh (i.Ll _) v];have c7:=i.Ll d;rcases Nat.le_total (max (q d) (w9 Hs d ops.size)) j with bu|bn
  ·refine(nh g.mono bu λb V W=>?_).symm;have r:d<(Hs b).size:=(mw g.mono v D).2 D;refine g.same D r λl e=>?_;have:=(i.mo b d l r e).1 (M b l W e);omega
  ·refine nh g.mono bn λb V W=>?_;have r:d<(Hs b).size:=(mw g.mono v D).2 D;refine g.same D r λl e=>?_;have hl:=(i.mo b d l r e).2 D;rcases Nat.eq_or_lt_of_le V with h|h
   ·subst h;rw[k.not]at hl;grind
   grind
 have⟨c1,Z,av,cX,aA,aE⟩:=ae (PH Hs ops.size q) (HJ _ _ _) bS;have b6:I= .undef:=by
  have⟨c6,bC,_⟩:=ae (Hs j) (g.wf j (bD A)) rfl;rcases t with t|⟨f,cL,t,_⟩
  ·rw[bC]at t;grind
  grind
 subst b6;have a8:∀n∈o.op.operands,ir cx J (E j) n=ir cx J (Eo J (E j) (o.looksAt ops)) n:=λn t=>B2 t;rw[B3 a8]at Z;refine((AZ g.jQ i.st (i.Rr g k) Z).ran).mono λN an s=>?_;obtain⟨K,b9,al,F,ca⟩:=s;refine⟨K,λc=>if c=d then j+1 else q c,i.cl.set k,by rw[Act.rY];exact i.size,by rw[Act.rZ];exact i.Qv,λc=>?_,λb c B r e=>?_,
  al.congr (HJ _ _ _) λc L u=>?_,i.D7 g k F.ext b9 bW,i.IC g k bX λc=>⟨λu=>?_,λu=>?_⟩,i.ext.trans F⟩
 ·show(if c=d then j+1 else q c)<=ops.size;have:=i.Ll c;split<;>omega
 ·show _↔b<(if c=d then j+1 else q c);by_cases p:c=d
  ·subst p;rw[aq rfl];rcases Nat.lt_trichotomy b j with h|h|h
   ·rw[getD_set_ne false D,M b B h e];grind
   ·subst h;rw[xP i.cl k];simp
   ·rw[getD_set_ne false D,ap b B h e];grind
  ·rw[ao p];have bs:j≠b:=by
    rintro rfl;have z:=bH c p;unfold fQ at e;rw[z]at e;cases s:(Hs j).get c with
    |none=>rw[s]at e;grind
    |some n=>
     rw[s]at e;have e:Nat.beq n.ver n.ver=false:=e;simp at e
   rw[getD_set_ne false bs];exact i.mo b c B r e
 ·have R:c<(Hs ops.size).size:=by
   have:=al.fG u;rw[av]at this;exact this
  have bT:(if c=d then j+1 else q c)<=ops.size:=by have:=i.Ll c;split<;>omega
  rw[g.zh (q:=λc=>if c=d then j+1 else q c) bT R];by_cases p:c=d
  ·subst p;rw[aq rfl,aA,show max (j+1) (w9 Hs c ops.size)=j+1 by omega]
  ·rw[ao p,aE c p,g.zh (i.Ll _) R]
 ·rcases ca.2.1 c u with h|h
  ·exact h
  omega
 ·have⟨L,aN⟩:=Option.ne_none_iff_exists'.1 u;have⟨cF,aX,_⟩:=F.ext.mu c L aN;rw[aX];simp
def Inv.step(c:Dr P cx cf base J m ops E Hs ws pw)(d:Inv cx base J m ops E Hs ws pw listed a w μ q)(z:j∈Region.ready .any ops listed):
 wpOp P ops Q j (λx i=>∃B A,Inv cx base J m ops E Hs ws pw (listed.setIfInBounds j true) x i B A) a w:=by
 have⟨o,b⟩:=rdy d.cl z;unfold wpOp;simp only[b.op];rcases om (c.tr.step j o b.op)with⟨e,f,y⟩|⟨e,C,p,f⟩
 ·simp only[d.want c b e,cD,bh];exact⟨μ,q,d.skip c b e f y⟩
 ·simp only[d.want c b e,bj];left;cases g:jb o.op with
  |false=>exact BI.wp (d.quiet c b e g p f) λr i k=>by grind
  |true=>
   cases n:qn o.op with
   |true=>exact BI.wp (d.ad9 c b e n p f) λr i k=>k
   |false=>
    refine BI.wp (d.ahG c b e g (λu v t s=>⟨λl=>?_,λl=>?_⟩) p f) λr i k=>by grind
    ·rcases c.GV u j v o t b.op l with⟨_,h⟩|h
     ·have:=(h s g).2;rw[n]at this;grind
     omega
    ·rcases c.GV j u o v b.op t l with⟨_,h⟩|h
     ·have:=(h g s).1;rw[n]at this;grind
     omega
def unl(listed:af Bool):Nat:=(listed.toList.filter λb=> !b).length
def MI:∀(b:List Bool) (j:Nat),b[j]? =some false->((b.set j true).filter λc=> !c).length+1=(b.filter λc=> !c).length:=by
 intro b;induction b with
 |nil=>simp
 |cons f b e=>
  intro j d;cases j with
  |zero=>grind
  |succ j=>
   simp at d;have:=e j d;cases f<;>simp[cK]<;>omega
def Ns(b:listed.getD j true=false):unl (listed.setIfInBounds j true)+1=unl listed:=by
 have c:j<listed.size:=by
  grind
 unfold unl;rw[Array.toList_setIfInBounds];simp_all[MI]
def Nf(d:Dr P cx cf base J m ops E Hs ws pw)(e:Cl ops listed)(hr:Region.ready .any ops listed=[]):∀b,b<ops.size->listed.getD b false=true:=by
 intro b;induction b using Nat.strongRecOn with
 |_ b n=>
  intro i;cases k:listed.getD b false with
  |true=>rfl
  |false=>
   have c:ops[b]? =some ops[b]:=Y;have:b∈Region.ready .any ops listed:=by
    refine mem_ready.2 ⟨?_,ops[b],c,λf h g=>?_⟩
    ·have:b<listed.size:=by rw[e.size];exact i
     grind
    ·have l:=d.back b _ c f h g
     grind
   rw[hr]at this
   grind
def Inv.aeI(c:Dr P cx cf base J m ops E Hs ws pw)(f:Inv cx base J m ops E Hs ws pw listed a w μ q)(p:∀g,g<ops.size->listed.getD g false=true):
 St cx base w.heap μ (Hs ops.size)/\lj w.heap μ J (E ops.size) a.tmps/\Ax pw μ (Hs 0).size (Hs ops.size).size:=by
 refine⟨f.st.congr (c.wf _ (au _)) λd R r=>?_,λs h M=>f.Rg s h ?_,?_⟩
 ·have u:=f.lt c r;rw[c.zh (f.Ll _) u];have T:=IK Hs d ops.size;have:=f.Ll d;refine nh c.mono D λg V y=>?_;have t:d<(Hs g).size:=(mw c.mono u D).2 D;refine c.same y t λI L=>?_;have:=(f.mo g d I t L).1 (p g y);omega
 ·
  have O:∀b,uD ops listed s ops.size+b<=ops.size->(E (uD ops listed s ops.size+b)).get J s=(E (uD ops listed s ops.size)).get J s:=by
   intro b;induction b with
   |zero=>simp
   |succ b N=>
    intro U;have x:uD ops listed s ops.size+b<ops.size:=D;have z:ops[uD ops listed s ops.size+b]? =some ops[uD ops listed s ops.size+b]:=Y;rw[<-N D];have A:ops[uD ops listed s ops.size+b].dst≠some s:=by
     intro F;have:=Mp (n:=ops.size) x (p _ x) (by rw[z];exact F);omega
    have X:∀h i,(E (uD ops listed s ops.size+b)).dst J ops[uD ops listed s ops.size+b].dst h=some i->i.get J s=(E (uD ops listed s ops.size+b)).get J s:=by
     intro h i e;cases v:ops[uD ops listed s ops.size+b].dst with
     |none=>rw[v]at e;have e:some _=some i:=e;simp only[ar]at e;rw[e]
     |some B=>
      rw[v]at e A;have K:s≠B:=λC=>A (by rw[C]);rw[Env.DE (show Env.set J _ B h=some i from e) s,ao K]
    rcases om (c.tr.step _ _ z)with⟨_,e,_⟩|⟨_,h,_,e⟩
    ·grind
    grind
  have W:=Z9 (ops:=ops) (listed:=listed) (s:=s) ops.size;have:=O (ops.size-uD ops listed s ops.size) D;rw[show uD ops listed s ops.size+(ops.size-uD ops listed s ops.size)=ops.size by omega]at this;rw[<-this];exact M
 ·refine⟨oG c.mono (aw _) (au _),λd r=>?_,λd k l=>?_⟩
  ·rcases(f.Wy d).1 r with S|⟨k,l,_⟩
   ·grind
   omega
  ·refine(f.Wy d).2 (.inr ⟨k,l,p _ ?_⟩);have:=c.cr0 l k;have:=IK Hs d ops.size;omega
def QG(f:Dr P cx cf base J m ops E Hs ws pw)
 (p:∀a w μ,St cx base w.heap μ (Hs ops.size)->lj w.heap μ J (E ops.size) a.tmps->Ax pw μ (Hs 0).size (Hs ops.size).size->rk ws pw w μ->a.tmps.size=m->a.defers=[]->Q .normal a w):
 ∀(c:Nat) (listed:af Bool) (a:Act) (w:World),unl listed<=c->(∃μ q,Inv cx base J m ops E Hs ws pw listed a w μ q)->wpAny P .any ops Q c listed a w:=by
 have fin:∀(listed:af Bool) (a:Act) (w:World),(∃μ q,Inv cx base J m ops E Hs ws pw listed a w μ q)->Region.ready .any ops listed=[]->Q .normal a w:=by
  rintro listed a w ⟨μ,q,b⟩ hr;have⟨k,l,n⟩:=b.aeI f (Nf f b.cl hr);exact p a w μ k l n b.ext b.size b.Qv
 intro c;induction c with
 |zero=>
  intro listed a w r d;have hr:Region.ready .any ops listed=[]:=by
   cases hr:Region.ready .any ops listed with
   |nil=>rfl
   |cons g u=>
    have e:g∈Region.ready .any ops listed:=by rw[hr];simp
    have:=Ns (mem_ready.1 e).1;omega
  exact⟨hr,fin listed a w d hr⟩
 |succ c s=>
  intro listed a w r d;refine⟨λhr=>fin listed a w d hr,λg e=>?_⟩;obtain⟨μ,q,b⟩:=d;have:=Ns (mem_ready.1 e).1;exact wpOp_mono (λh t i=>s _ h t D i) (b.step f e)
theorem chain{n:World}{p:Mu}{h:H}{u:Env}{g c:H}{f:Env}(jQ:jF P cx)(t:o6 P cx cf)(v:HK m ops){l:Nat}(y:ops[l]? =some o)(M:mI cx cf J ops u g o=some (f,c))
 (r:vI cx base J m n p h u g a w):(∃B e,vI cx base J m n p h f c B e)/\mz g c:=by
 have A:=r;obtain⟨μ,b,d,O,C,F,x,S⟩:=A;rcases om M with⟨N,k,rfl⟩|⟨N,T,z,k⟩
 ·exact⟨⟨_,w,μ,b,lj.put d .undef (λb i=>by rw[x];exact v l o b y i) k,O,C,F,by rw[Act.rY];exact x,by rw[Act.rZ];omega⟩,mz.refl b.wf⟩
 ·have hr:=Fy (P:=P) jQ t b d z;have⟨s,e,K⟩:=hr.some;have I:BI P (λs e=>vI cx base J m n p h f c (a.put o.dst s) e) ((execOp a.eval o).run P w):=
   r.after (λb i=>v l o b y i) k λbase μ b d=>Fy jQ t b d z
  have⟨R,U,L⟩:=I.some;exact⟨⟨_,_,L⟩,K.2⟩
def MR(b6:P.follows .mixedOrders=true)(jQ:jF P cx)(W:o6 P cx cf):UX P cx cf qu:=by
 intro base J m de di c9 ops e bA h bC a w Q id Z al b8 bp bN;have⟨E,Hs,cp,cL,a8,T,cX,_,_,c1,c4,_,cF⟩:=Gd ops.toList 0 ⟨[],[]⟩ e bA h bC (λt=>by simp) b8;simp only[cJ,cR]at a8 T;have bi:Trace cx cf J ops E Hs:=⟨λb o k=>cX b o (aw _) k,λb B c u v A=>c1 b B c (aw _) u v A,λb B c u v A=>c4 b B c (aw _) u v A,λb B c u v A=>cF b B c (aw _) u v A⟩;obtain⟨pw,p,r,x,bu,g,av,an⟩:=bp;subst cp cL;have M:∀b,b<=ops.size->∃N K,vI cx base J m w pw (Hs 0) (E b) (Hs b) N K:=by
  intro b;induction b with
  |zero=>intro _;exact⟨a,w,pw,p,r,rk.refl _ _,Ax.refl _ _,mz.refl p.wf,av,an⟩
  |succ b S=>
   intro f;have⟨a1,L,V⟩:=S D;have k:ops[b]? =some ops[b]:=Y;exact(chain jQ W al k (bi.step b _ k) V).1
 have X:∀b,b<ops.size->mz (Hs b) (Hs (b+1)):=by
  intro b f;have⟨a1,L,V⟩:=M b D;have k:ops[b]? =some ops[b]:=Y
  grind [chain]
 have F:Dr P cx cf base J m ops E Hs {w with drawn:=w.drawn+1} pw:=by
  refine⟨jQ,W,al,bi,p,λi j dd cb bS bX bT=>KP Z bS bX bT,λj o k=>MT Z k,λb f sl C n=>?_,λb f c y d aE C n=>?_,X,λb f=>?_⟩
  ·have⟨a1,L,U,s,r1,_⟩:=M b f;exact(r1 sl C n).low λc l d=>s.fG d
  ·have⟨a1,L,U,s,r1,c6,bs,_⟩:=M b f;have bW:U c≠none:=by
    rcases d with d|d
    ·have⟨l,O⟩:=Option.ne_none_iff_exists'.1 d;have⟨c7,bH,_⟩:=c6.ext.mu c l O;rw[bH];simp
    ·exact bs.2.2 c d (H.fG aE)
   have⟨l,O⟩:=Option.ne_none_iff_exists'.1 bW;have⟨z,R,b7⟩:=s.box c l O;rw[aE]at R;simp only[ar]at R;subst R;exact b7.low (λc l d=>s.fG d) C n
  ·have⟨a1,L,U,s,_⟩:=M b f;exact s.wf
 have bB:∀b,b<=ops.size->mz (Hs 0) (Hs b):=by
  intro b;induction b with
  |zero=>intro _;exact mz.refl p.wf
  |succ b S=>intro f;exact(S D).trans (X b D)
 refine wp_region_any b6 (QG F (λN K bn aN aX a6 I b9 ca=>?_) ops.size _ a _ (by simp[unl]) ⟨pw,λ_=>0,?_⟩)
 ·rw[a8]at aX;rw[T]at aN a6;have a7:rk w pw K bn:=⟨I.ext,I.os,I.tape,I.output⟩;exact bN N K ⟨bn,aN,aX,x.trans a7,bu.trans (hp:=w.heap) a6 a7.ext,by have:=bB ops.size (au _);rw[T]at this;exact g.trans this,b9,ca⟩
 ·have aA:∀b,(Array.replicate ops.size false).getD b false=false:=by
   intro b;rcases aS b ops.size with h|h<;>simp[h]
  refine⟨⟨Y,λj cb _ hl=>?_⟩,av,an,λ_=>aw _,λb c _ _ _=>?_,?_,λsl C n=>?_,λc=>?_,⟨Ext.refl _ _,rfl,rfl,rfl⟩⟩
  ·rw[aA]at hl;grind
  ·rw[aA];simp
  ·refine p.congr (HJ _ _ _) λc l d=>?_;have ap:=p.fG d;have ae:c<(Hs ops.size).size:=bF ap (oG F.mono (aw _) (au _));rw[F.zh (q:=λ_=>0) (aw _) ae];have:w9 Hs c ops.size<=0:=(mw F.mono ae (aw _)).1 ap;rw[show max 0 (w9 Hs c ops.size)=0 by omega]
  ·have:uD ops (Array.replicate ops.size false) sl ops.size=0:=by
    grind [Array.replicate,Bb]
   rw[this]at n;exact r sl C n
  grind
end
end
section
section
variable {P:ai}{cx:Ctx}{cf:jB}{base J m:Nat}{w0 w:World}{μ0 μ:Mu}{h0 h h':H}{e e':Env}{a:Act}
def B4{d:List T}{cs:af am}{g:af Obj}(b:iJ g μ d cs.toList):gW g μ (kt d) (if h:cs.size=1 then cs[0]else .tuple cs):=by
 have c:∀(j:cs.size≠1),gW g μ (.tuple d) (if h:cs.size=1 then cs[0]else .tuple cs):=by
  intro j;rw[dif_neg j];exact .tuple d cs (by simpa using b.1.symm) λn i l=>by simpa[cd,List.getD]using b.2 n i l
 have f:=b.1
 match d,b,f,c with
 | [],b,f,c=>exact c (by grind)
 | [i],b,f,c=>
  have k:cs.size=1:=by grind
  rw[dif_pos k];have:=b.2 0 i Y
  grind [List.getD,kt]
 |o::p::d,b,f,c=>exact c (by grind)
def rR(c:af am):ResultVar->Sem am
 | .tmp b=>pure (c.getD b Go.undef)
 | .cell d b=>do loadVar b (<-asAddr (c.getD d Go.undef))
def Eg(c:Func)(d:af am):results c d=(do let b<-c.results.mapM (rR d);pure (if h:b.size=1 then b[0]else .tuple b)):=by
 unfold results;congr 1
def HQ(jQ:jF P cx)(F:St cx base w.heap μ h)(r:lj w.heap μ J e a.tmps):∀(g:List ResultVar) (k:List T),oq cx J e h g=some k->
 ∃d:List am,iJ w.heap μ k d/\(g.mapM (rR a.tmps)).run P w= .ok d w:=by
 intro g;induction g with
 |nil=>
  intro k b;have b:some []=some k:=b;simp_all[ar,iJ.nil]
 |cons n g E=>
  intro k b;unfold oq at b;rw[kl]at b;replace b:=dX.1 b;obtain⟨j,c,b⟩:=b;replace b:=dX.1 b;obtain⟨s,C,b⟩:=b;simp only[ar]at b;subst b;have⟨d,x,A⟩:=E s C;have q:∀f,(rR a.tmps n).run P w= .ok f w->gW w.heap μ j f->∃d:List am,iJ w.heap μ (j::s) d/\((n::g).mapM (rR a.tmps)).run P w= .ok d w:=by
   intro f y hr;refine⟨f::d,iJ.cons hr x,?_⟩;rw[List.mapM_cons,Sem.run_bind,y,Result.andThen_ok,Sem.run_bind,A,Result.andThen_ok,Sem.run_pure]
  cases n with
  |tmp i=>
   have c:e.get J i=some j:=c;exact q _ (by rfl) (r i j c)
  |cell p i=>
   have c:(Z (e.get J p) λl=>Z (cx.ty i) λo=>h.load o l)=some j:=c;replace c:=dX.1 c;obtain⟨l,z,c⟩:=c;replace c:=dX.1 c;obtain⟨o,B,c⟩:=c;have⟨I,f,t,u,v⟩:=EY (jQ.ty i o B) F (r p l z) c;exact q f (by simp only[rR,t,asAddr,Sem.run_bind,Sem.run_pure,Result.andThen_ok,u]) v
def Ge(jQ:jF P cx)(j:St cx base w.heap μ h)(i:lj w.heap μ J e a.tmps){b:Func}{d:List T}(f:oq cx J e h b.results.toList=some d):
 ∃c,(results b a.tmps).run P w= .ok c w/\gW w.heap μ (kt d) c:=by
 have⟨cs,k,g⟩:=HQ (P:=P) jQ j i _ _ f;refine⟨_,?_,B4 (cs:=cs.toArray) D⟩;rw[Eg];have:b.results.mapM (rR a.tmps)=List.toArray<$>b.results.toList.mapM (rR a.tmps):=by
  rw[<-List.mapM_toArray]
 rw[this,Sem.run_bind,Sem.run_map,g];rfl
def Gl:∀(f d:Nat) (k:List T) (o:iz),nL J f d k=some o->∀n j,d8 o n=some j->(∃c,n=d+c/\c<f/\(k[c]? =some j\/(k.length<=c/\j= .undef))):=by
 intro f;induction f with
 |zero=>
  intro d k o b n j g;have b:some iz.nil=some o:=b;simp only[ar]at b;subst b
  grind [d8]
 |succ f u=>
  intro d k o b n j g;have b:(Z (iQ (Nat.succ d)) λp=> @List.rec T (λ_=>aa iz)
   (@Bool.rec (λ_=>aa iz) (nL J f p []) (Z (nL J f p []) λi=>some (.cons d .undef i)) (kS J d))
   (λa l _=>Z (nL J f p l) λi=>some (.cons d a i)) k)=some o:=b
  simp only[jd,eJ]at b;have q:∀{l:List T} {i:iz},nL J f (d+1) l=some i->d8 i n=some j->∃c,n=d+(c+1)/\c<f/\(l[c]? =some j\/(l.length<=c/\j= .undef)):=by
   grind
  cases k with
  |nil=>
   simp only at b;cases hl:kS J d with
   |false=>
    rw[hl]at b;have⟨c,r,s,t⟩:=q b g;simp_all
   |true=>
    rw[hl]at b;replace b:=dX.1 b;obtain⟨i,ht,b⟩:=b;simp only[ar]at b;subst b;rw[oN]at g;split at g
    ·simp_all
    ·have⟨c,r,s,t⟩:=q ht g;simp_all
  |cons v l=>
   simp only at b;replace b:=dX.1 b;obtain⟨i,ht,b⟩:=b;simp only[ar]at b;subst b;rw[oN]at g;split at g
   ·simp_all
   ·have⟨c,r,s,t⟩:=q ht g;simp_all
def Mz{n:Nat}{d:List T}{i:iz}{l:af Obj}{c:af am}(k:iJ l μ d c.toList)(o:nL J n 0 d=some i):
 lj l μ J ⟨i,.nil⟩ (c++Array.replicate (n-c.size) Go.undef):=by
 intro b j f;have f: @Bool.rec (λ_=>aa T) (d8 .nil b) (d8 i b) (kS J b)=some j:=f;cases hl:kS J b with
 |false=>rw[hl]at f;grind [d8]
 |true=>
  rw[hl]at f;have⟨q,r,s,g⟩:=Gl n 0 d i o b j f;have p:b=q:=D;subst p;have t:d.length=c.size:=by simpa using k.1
  rcases g with g|⟨g,rfl⟩
  ·have u:b<d.length:=by
    grind
   have hr:=k.2 b j g;have:(c++Array.replicate (n-c.size) Go.undef).getD b Go.undef=c.toList.getD b Go.undef:=by
    rw[cd,Array.getElem?_append_left D];simp
   rw[this];exact hr
  ·have:(c++Array.replicate (n-c.size) Go.undef).getD b Go.undef=Go.undef:=by
    rw[cd,Array.getElem?_append_right D]
    grind
   rw[this];exact .undef
def JU{m g:Nat}{f:af Oper->Bool}(p:m<=g):∀(b:Code),nU m f b=true->nU g f b=true:=by
 intro b;induction b with
 |region id q o=>
  intro h;simp only[nU,ax]at h|-;refine⟨?_,h.2⟩;have d:=h.1;unfold Wx at d|-;rw[cz]at d|-;intro i j;have:=d i j
  grind [aJ]
 |seq a c l n=>simp_all[ax,nU]
 |cond i a c l n=>simp_all[ax,nU]
 |block id c k=>grind [nU]
 |loop c k=>grind [nU]
 |_=>intro _;rfl
def F4(P:ai)(cx:Ctx)(f:aj)(g:Prim):Prop:=
 ∀b h d h',Ez g b h=some (d,h')->∀base w μ (c:af am),St cx base w.heap μ h->iJ w.heap μ b c.toList->BI P (sS cx base w μ h d h') ((callFunc f c).run P w)
def zo(b:Fun):Bool:= !(b.fn.name== "runtime.NumGoroutine")&&match b.fn.body with
 |none=>false
 |some c=>nU b.fn.ntmps qu c
def pH{c:aj}{b:Func}{f:Code}(i:P.funcs[c]? =some b)(k:(b.name== "runtime.NumGoroutine")=false)(g:b.body=some f)(d:af am)(w:World):
 (callFunc c d).run P w= .ok (.enter c d) w:=by
 have j:¬b.name= "runtime.NumGoroutine" :=by grind
 simp[callFunc,i,j,g]
theorem M7(X:P.follows .mixedOrders=true)(jQ:jF P cx)(z:o6 P cx cf){r:aj}{b:Fun}(C:P.funcs[r]? =some b.fn)(g:zo b=true){B:Nat}{x:List T}{o:T}
 (c:u9 cx cf B b.fn b.J b.md x h=some (o,h')) (I:St cx base w.heap μ h) {f:af am} (V:iJ w.heap μ x f.toList):
 BI P (sS cx base w μ h o h') ((callFunc r f).run P w):=by
 unfold zo at g;simp only[ax,cj]at g;obtain⟨ae,g⟩:=g;unfold u9 at c;cases l:b.fn.body with
 |none=>rw[l]at g;grind
 |some y=>
  rw[l]at g c;simp only at g;obtain⟨d,t,k⟩:=h;simp only at c;replace c:=dX.1 c;obtain⟨bi,av,c⟩:=c;replace c:=dX.1 c;obtain⟨⟨q,A,s⟩,W,c⟩:=c;simp only[mW]at c;have j:(q= .normal\/q= .ret)/\(Z (oq cx b.J A s b.fn.results.toList) λL=>E1 b.md d t (kt L) s)=some (o,h'):=by
   cases q with
   |normal=>grind
   |exit i=>grind
   |ret=>grind
  obtain⟨aE,j⟩:=j;replace j:=dX.1 j;obtain⟨L,aA,j⟩:=j;rw[pH C ae l];show Calls P r f w _;refine calls_of_wp C l ?_;have K:St cx base w.heap μ ⟨d,d,k⟩:=I.NB d;have al:=Mz (J:=b.J) (n:=b.fn.ntmps) V av;have M:vI cx base b.J (f.size+(b.fn.ntmps-f.size)) w μ ⟨d,d,k⟩ ⟨bi,.nil⟩ ⟨d,d,k⟩ {tmps:=f++Array.replicate (b.fn.ntmps-f.size) Go.undef,defers:=[]} w:=
   ⟨μ,K,al,rk.refl _ _,Ax.refl _ _,mz.refl K.wf,Y,rfl⟩
  refine MY (m:=f.size+(b.fn.ntmps-f.size)) (w0:=w) (μ0:=μ) (h0:=⟨d,d,k⟩) (base:=base) (J:=b.J) jQ z (MR X jQ z) B y (JU D y g) _ _ q A s W _ _ _ M λv u N=>?_;have F:v.defers=[]/\∃p,(results b.fn v.tmps).run P u= .ok p u/\sS cx base w μ ⟨d,t,k⟩ o h' p u:=by
   obtain⟨bs,E,aN,aX,a6,a7,bp,a8⟩:=N;have⟨p,an,ap⟩:=Ge (P:=P) jQ E aN aA;have⟨⟨bn,O,Q,R,S⟩,U⟩:=Ke (low0:=t) I E a7 aX a6 ap j;exact⟨a8,p,an,⟨bn,O,Q,R,S⟩,U⟩
  rcases aE with rfl|rfl
  ·exact F
  ·exact F
