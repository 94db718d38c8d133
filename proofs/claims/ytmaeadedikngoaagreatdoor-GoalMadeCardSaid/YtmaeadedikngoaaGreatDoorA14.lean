/- Texts S09 to TiSlc. -/
import Derived.Test.YtmaeadedikngoaaGreatDoorA13
set_option linter.unusedVariables false
set_option linter.unusedSimpArgs false
set_option maxRecDepth 100000
set_option maxHeartbeats 8000000
namespace Go.Proofs.YtmaeadedikngoaaGreatDoor
noncomputable section
open Go Go.TI
theorem AL(a:List Int)(b:Int):sr a b=lf a b:=by
 induction a with
 |nil=>rfl
 |cons d a c=>rw[sr,lf,c]
theorem AO:∀(b a:List Int),G9 a->G9 (kU a b):=by
 intro b
 induction b with
 |nil=>intro a c;exact c
 |cons e b d=>intro a c;exact d _ (by rw[AL];exact Bf c e)
theorem AN:∀(c b:List Int) (a:Int),a∈kU b c->a∈b\/a∈c:=by
 intro c
 induction c with
 |nil=>intro b a h;exact .inl h
 |cons e c d=>
  intro b a h
  rcases d (sr b e) a h with h|h
  ·rw[AL]at h
   rcases Be h with h|h
   ·exact .inl h
   ·exact .inr (by simp[h])
  ·exact .inr (by simp[h])
theorem JY:∀(a:List Int) (e b:Int),G9 a->(∀c∈a,e<=c/\c<b)->a.length<=(b-e).toNat:=by
 intro a
 induction a with
 |nil=>intro e b _ _;simp
 |cons c a i=>
  intro e b d f
  unfold G9 at d
  rw[dc]at d
  have j:=i (c+1) b d.2 λh g=>⟨by have:=d.1 h g;omega,(f h (by simp[g])).2⟩
  have k:=f c (by simp)
  simp;omega
def Tn(a:Nat)(b:List Int):Prop:=b.length<=a/\∀c∈b,0<=c/\c<a
theorem Tn.nil(a:Nat):Tn a []:=⟨aw _,λc b=>by simp at b⟩
theorem Tn.union{a:Nat}{c d:List Int}(f:Tn a c)(g:Tn a d):Tn a (xZ c d):=by
 have e:∀b∈xZ c d,0<=b/\b<a:=λb i=>by
  rcases AN _ _ _ i with h|h
  ·rcases AN _ _ _ h with h|h
   ·simp at h
   ·exact f.2 b h
  ·exact g.2 b h
 refine⟨?_,e⟩
 have:=JY (xZ c d) 0 a (AO _ _ (AO _ _ List.Pairwise.nil)) e
 omega
end
end Go.Proofs.YtmaeadedikngoaaGreatDoor
namespace Go.TI
noncomputable section
noncomputable section
variable {cx:Ctx}{mask:Nat}{e:Env}{h:H}
def nsK(h:H)(i:T):aa kx:=match i with
 | .iter d=>dB (h.get d) λa=>fy a.it (match a.dO with
  | [.str c,.int _ (.ofNat b)]=>if b<c.length then
   (dB (uy c b) λg=>two g λf wd=>some (.val (.tuple [.bool true,.int .i64 (.ofNat b),.int .i32 (.ofNat f)]) (dI h d ⟨a.sz,a.ep,a.ver+1,a.exact,true,[.str c,.int .i64 (.ofNat (b+wd))]⟩)))else some (.val (.tuple [.bool false]) h)
  |_=>none)
 |_=>none
@[simp] theorem YI (x:ah):iO (.next x true) cx mask e h=dB (eJ cx mask e x) λg=>nsK h g:=by
 show uF x cx mask e h=_
 unfold uF nsK
 congr 1;funext g
 cases g<;>first|rfl|skip
 rename_i i
 simp only
 cases j:h.get i with
 |none=>rfl
 |some x=>
  simp only[dD]
  congr 1
  split
  ·rename_i c a b f
   rw[iX,f]
   simp only
   by_cases d:b<c.length
   ·rw[aq d,show Nat.blt b c.length=true by rw[aG];exact d]
    simp only
    congr 1;funext l
    obtain⟨m,wd⟩:=l
    simp only[jX,gD,dD,uu j]
    rfl
   ·rw[ao d,show Nat.blt b c.length=false by rw[cd];intro a;rw[aG]at a;exact d a]
  ·rename_i k
   split
   ·rename_i c a b f;exact absurd f (k c a b)
   ·rfl
end
end
noncomputable section
structure gh(n:Nat)(h:H):Prop where
 hp:Hp h
 low:h.low<=h.size
 sz:n<=h.size
theorem gh.cons{c:Nat}{b:H}(a:gh c b)(d:iE):gh c (b.cons d):=⟨by simpa using a.hp,by simp only[Nu];have:=a.low;simp[H.cons];omega,by have:=a.sz;simp[H.cons];omega⟩
theorem gh.ne{c:Nat}{a:H}(d:gh c a){b:Nat}(e:b<c):(b=a.size)=False:=by have:=d.sz;simp;omega
theorem Fd(c:H)(b:Nat)(h:iE):(dI c b h).low<=c.low:=by
 unfold dI
 cases a:c.put b h with
 |none=>exact au _
 |some i=>
  obtain⟨e,d,j⟩:=c
  have a:(fy (Nat.blt b e) (dB (kf j (Nat.sub (Nat.sub e 1) b) h) λf=> @Bool.rec (λ_=>aa H) (some ⟨e,d,f⟩) (some ⟨e,b,f⟩) (Nat.blt b d)))=some i:=a
  obtain⟨_,a⟩:=dz.1 a
  obtain⟨f,_,a⟩:=dj.1 a
  show i.low<=d
  cases g:Nat.blt b d<;>rw[g]at a<;>simp only[ar]at a<;>subst a
  ·exact au _
  ·rw[aG]at g;exact bC g
theorem gh.put{n:Nat}{a:H}(b:gh n a)(c:Nat)(d:iE):gh n (dI a c d):=⟨by simpa using b.hp,by rw[fc];exact aS (Fd a c d) b.low,by rw[fc];exact b.sz⟩
structure po(sz:Nat)(h h':H):Prop where
 get:∀c x,h.get c=some x->x.sz≠sz->h'.get c=some x
 ok:∀n,gh n h->gh n h'
 size:h.size<=h'.size
theorem po.refl(d:Nat)(a:H):po d a a:=⟨λ_ _ b _=>b,λ_ c=>c,au _⟩
theorem po.trans{c:Nat}{e f g:H}(a:po c e f)(b:po c f g):po c e g:=⟨λd j k h=>b.get d j (a.get d j k h) h,λi l=>b.ok i (a.ok i l),aS a.size b.size⟩
theorem po.cons(e:Nat)(a:H)(c:iE):po e a (a.cons c):=⟨λf h b _=>by have:=H.dL b;rw[dH,ao (by omega)];exact b,λg d=>d.cons c,by simp[H.cons]⟩
theorem po.put{f:Nat}{c:H}{a:Nat}{x:iE}(e:c.get a=some x)(i:x.sz=f)(g:iE):po f c (dI c a g):=⟨λh l b j=>by
 rw[dy e]
 by_cases d:h=a
 ·subst d;rw[e]at b;simp only[ar]at b;subst b;exact absurd i j
 ·rw[ao d];exact b,λn k=>k.put a g,by simp⟩
theorem qZ.aai{cx:Ctx}{a:H}{d:T}{b:Nat}{e:List T}(l:qZ a 0 d b e){o p j:ab}{v w c:Ty}(B:cx.ty o=some v)(C:v.u= .slice j)(D:cx.ty j=some c)(E:cx.ty p=some w)(F:w.u= .slice j)(t:c.size=b)(r:1<=c.bytes)
 {x:T} {xs:List T} (I:a.iy x=some xs) (m:∀z∈xs,z.cells.length=b) (s:(e.length+xs.length)*c.bytes<=70368744177664):
 ∃y k,iu cx a o p d x=some (.val y k)/\qZ k 0 y b (e++xs)/\po b a k:=by
 have G:iu cx a o p d x=iV (a.append c.size c.bytes d xs):=by
  unfold iu oF mf
  rw[B,dD,E,dD]
  simp only[C,D,F,I,dD]
  rw[t,lA m,fO]
 rw[G,t]
 cases xs with
 |nil=>
  refine⟨d,a,?_,by simpa using l,po.refl _ _⟩
  show iV (fy (nS d) (some (d,a)))=_
  rcases l with⟨rfl,_⟩|⟨h,i,q,A,_,rfl,_⟩<;>rfl
 |cons f g=>
  rcases l with⟨rfl,rfl⟩|⟨h,i,q,A,J,rfl,n⟩
  ·refine⟨.arr a.size 0 0 (f::g).length false,a.cons ⟨b,0,0,false,false,f::g⟩,?_,.inr ⟨a.size,0,0,false,aw _,rfl,by simp⟩,po.cons _ _ _⟩
   show iV (a.iA b c.bytes [] (f::g))=_
   rw[nW m r (by simpa using s)];rfl
  ·refine⟨.arr h (i+1) 0 (e++f::g).length false,dI a h ⟨b,i+1,q+1,false,false,e++f::g⟩,?_,.inr ⟨h,i+1,q+1,false,J,rfl,by rw[dy n,aq rfl]⟩,po.put n rfl _⟩
   show iV (a.lH b c.bytes h i e.length (f::g))=_
   rw[uO n m r s];rfl
theorem qZ.S4{cx:Ctx}{g:H}{o:T}{b:Nat}{i:Type}{a:i->T}{f:List i}(t:qZ g 0 o b (f.map a)){h k:ab}{n d:Ty}(l:cx.ty h=some n)(m:n.u= .slice k)(p:cx.ty k=some d)(v:d.size=b)(q:1<=d.bytes)
 (r:∀x,Ez (a x)=b) (xs:List i) (s:(f.length+xs.length)*d.bytes<=70368744177664):
 ∃e c,iu cx g h h o (sl (xs.map a))=some (.val e c)/\qZ c 0 e b ((f++xs).map a)/\po b g c:=by
 obtain⟨e,c,w,y,z⟩:=t.aai (x:=sl (xs.map a)) (xs:=xs.map a) l m p l m v q (by simp) (by simpa using λj _=>show(a j).cells.length=b from r j) (by simpa using s)
 exact⟨e,c,w,by rw[List.map_append];exact y,z⟩
theorem qZ.IL{cx:Ctx}{c:H}{n:T}{a:Nat}{i:Type}{b:i->T}{g:List i}(s:qZ c 0 n a (g.map b)){h j:ab}{m e:Ty}(k:cx.ty h=some m)(l:m.u= .slice j)(o:cx.ty j=some e)(t:e.size=a)(p:1<=e.bytes)
 (q:∀x,Ez (b x)=a) (x:i) (r:(g.length+1)*e.bytes<=70368744177664):
 ∃f d,iu cx (c.cons ⟨a,0,0,true,false,[b x]⟩) h h n (.arr c.size 0 0 1 false)=some (.val f d)/\qZ d 0 f a ((g++[x]).map b)/\po a c d:=by
 obtain⟨f,d,v,w,y⟩:=(s.cons ⟨a,0,0,true,false,[b x]⟩).aai (x:= .arr c.size 0 0 1 false) (xs:=[b x]) k l o k l t p (by rw[fH];simp) (by simpa using show(b x).cells.length=a from q x) (by simpa using r)
 exact⟨f,d,v,by rw[List.map_append];exact w,(po.cons _ _ _).trans y⟩
theorem mF{n:Env->H->Out}(d:Nat)(f:Nat->eZ->H->Prop){l:gU}
 (q:∀k c a,k<=d->f k c a->W (n ⟨c,.nil⟩ a) (wK (λb a=>b.tmps= .nil/\∃e,k<e/\e<=d/\f e b.vars a) l)) {j:Nat} (v:d<j) {k:Nat} (h:k<=d) {c:eZ} {a:H} (g:f k c a):W (ni n j ⟨c,.nil⟩ a) l:=by
 refine OM (σ:=Nat) (I:=λk b a=>k<=d/\b.tmps= .nil/\f k b.vars a) (m:=λk=>d-k) ?_ j k _ _ (by omega) ⟨h,rfl,g⟩
 rintro k ⟨c,y⟩ a ⟨h,ht,g⟩
 simp only at ht g
 subst ht
 obtain⟨o,b,p,r,i⟩:=q k c a h g
 refine⟨o,b,p,r,?_⟩
 cases o with
 |normal=>
  obtain⟨s,e,x,t,u⟩:=i
  exact⟨e,by omega,t,s,u⟩
 |exit w=>exact i
 |ret=>exact i
section
variable {cx:Ctx}
@[simp] theorem Qg (c:Nat) (a b:List T):eqFields cx [] c a b=some true:=id rfl
@[simp] theorem V4 (a:ak):(U.int a).plain=true:=id rfl
@[simp] theorem V3:U.str.plain=true:=id rfl
@[simp] theorem TV:U.bool.plain=true:=id rfl
end
end
noncomputable section
section
variable {P:ai}{cx:Ctx}
theorem Oa{f:aj}{t:List T}{b c:H}{F G:T}(O:pJ P cx ⟨f,t,b,F,c⟩)(Y:Hp c)(z:b.size<=c.size)
 (R:∀a h,a<b.size->c.get a=some h->c.get a=b.get a\/∀m∈d6 h.dO,oP b.size m) (S:jd c b.size F=some G):
 pJ P cx ⟨f,t,b,cn G,⟨b.size,c.low,c.ec.drop (c.size-b.size)⟩⟩:=by
 intro J w r K q i
 refine(O J w r K q i).mono λm al ⟨⟨s,ae,D,g,j⟩,p⟩=> ?_
 have v:∀a e,r a=some e->a<b.size:=λa e d=>q.dL d
 have j:wZ r s b.size c.size:=j
 have hl:∀a e h,a<b.size->s a=some e->c.get a=some h->∀m∈d6 h.dO,oP b.size m:=by
  intro a e h d i B
  rcases R a h d B with he|he
  ·rcases j.2.1 a (by rw[i];simp)with k|k
   ·obtain⟨I,N⟩:=Option.ne_none_iff_exists'.1 k
    obtain⟨an,o,X⟩:=q.box a I N
    rw[<-he,B]at o
    simp only[ar]at o;subst o
    exact X.low v
   ·omega
  ·exact he
 have u:=St.cut (low:=c.low) D z hl
 have x:∀a,a<b.size->(⟨b.size,c.low,c.ec.drop (c.size-b.size)⟩:H).get a=c.get a:=λa d=>Gi Y z d
 refine⟨⟨lF b.size s,(t7 D ae S).cn,u,⟨⟨g.ext.size,λZ U W=> ?_,λa e d=> ?_,g.ext.mH,g.ext.kept⟩,g.os,g.tape,g.output⟩,au _,λa d=> ?_,λa E l=>absurd E (by show¬b.size<=a;have l:a<b.size:=l;omega)⟩,?_⟩
 ·obtain⟨L,M⟩:=g.ext.wF Z U W
  exact⟨L,vf M⟩
 ·rw[sW (v a e d)];exact g.ext.mu a e d
 ·left
  obtain⟨e,i⟩:=Option.ne_none_iff_exists'.1 d
  obtain⟨E,l⟩:=jF i
  rcases j.2.1 a (by rw[l];simp)with k|k
  ·exact k
  ·omega
 ·refine⟨u.wf,au _,p.low,λa d V=> ?_,λa y C=> ?_⟩
  ·rw[x a d];exact p.j8 a d V
  ·rw[x a (H.dL C)];exact p.ver a y C
theorem Ii{g h:H}(t:∀b,h.get b=g.get b)(n:Nat):∀a,freeze h n a=freeze g n a:=by
 intro a
 induction a with
 |zero=>rfl
 |succ a q=>
  funext u
  cases u with
  |agg m=>
   show(dB (eK (freeze h n a) m) λc=>some (T.agg c))=(dB (eK (freeze g n a) m) λc=>some (T.agg c))
   rw[q]
  |arr b o s r p=>
   show fy (Nat.ble n b) (dB (h.get b) λl=> @iE.rec (λ_=>aa T) (λ_ i _ exact k d=>
    fy (Nat.beq i o) (@Bool.rec (λ_=>aa T) (dB (dB (je s d) λc=>takeN r c) λj=>dB (eK (freeze h n a) j) λe=>
     @List.rec T (λ_=>aa T) (@List.rec T (λ_=>aa T) (@Bool.rec (λ_=>aa T) (some .fg) (some (.dq [] false)) exact) (λ_ _ _=>some .fg) d) (λ_ _ _=>some (.dq e p)) e) none k)) l)=
    fy (Nat.ble n b) (dB (g.get b) λl=> @iE.rec (λ_=>aa T) (λ_ i _ exact k d=>
    fy (Nat.beq i o) (@Bool.rec (λ_=>aa T) (dB (dB (je s d) λc=>takeN r c) λj=>dB (eK (freeze g n a) j) λe=>
     @List.rec T (λ_=>aa T) (@List.rec T (λ_=>aa T) (@Bool.rec (λ_=>aa T) (some .fg) (some (.dq [] false)) exact) (λ_ _ _=>some .fg) d) (λ_ _ _=>some (.dq e p)) e) none k)) l)
   rw[q,t]
  |_=>rfl
theorem rP{a b:H}(i:∀e,b.get e=a.get e)(n:Nat)(c:T):jd b n c=jd a n c:=by
 have g:iK b n=iK a n:=by funext d;cases d<;>(unfold iK;simp only[Ii i])
 have h:jP b n=jP a n:=by funext d;cases d<;>(unfold jP;simp only[g])
 cases c<;>(unfold jd;simp only[h])
end
def FT(e:H)(c:Nat->Prop):Nat->T->T->Prop
 |0,_,_=>False
 |d+1,a,g=>(jv a=true/\(∀b,a≠ .agg b)/\g=cn a)\/
  (∃h l o m f j k,a= .arr h l o m f/\c h/\e.iy a=some j/\gG (FT e c d) j k/\g=sl k)\/
  (∃b i,a= .agg b/\gG (FT e c d) b i/\g= .agg i)
theorem gG.imp_mem{α h:Type}{d R':α->h->Prop}{c:List α}{g:List h}(i:gG d c g)(e:∀a∈c,∀b,d a b->R' a b):gG R' c g:=by
 induction i with
 |nil=>exact .nil
 |cons a _ k=>exact .cons (e _ (by simp) _ a) (k λl j b=>e l (by simp[j]) b)
theorem o6{α d:Type}{f:α->aa d}{b:List α}{c:List d}(g:gG (λa e=>f a=some e) b c):eK f b=some c:=by
 induction g with
 |nil=>rfl
 |cons a _ h=>rw[jc,a,h];rfl
theorem FT.vC{h:H}{V:Nat->Prop}:∀{d:Nat} {v t:T},FT h V d v t->TI.vC h d v=some t:=by
 intro d
 induction d with
 |zero=>intro v t c;exact c.elim
 |succ d g=>
  intro v t c
  rcases c with⟨j,k,rfl⟩|⟨e,p,u,s,f,q,r,rfl,_,l,a,rfl⟩|⟨m,o,rfl,a,rfl⟩
  ·unfold TI.vC
   rw[rE h 0 d v j k];rfl
  ·rw[wN,l,dD,o6 (a.imp λi e b=>g b)];rfl
  ·rw[Qb,o6 (a.imp λi e b=>g b)];rfl
theorem FU{c d:H}{a b g e:Nat}{f:Bool}(h:d.get a=c.get a):d.iy (.arr a b g e f)=c.iy (.arr a b g e f):=by
 rw[fH,fH,h]
theorem FT.mono{k h':H}{i j:Nat->Prop}(m:∀a,i a->j a/\h'.get a=k.get a):∀{b:Nat} {e d:T},FT k i b e d->FT h' j b e d:=by
 intro b
 induction b with
 |zero=>intro e d c;exact c.elim
 |succ b o=>
  intro e d c
  rcases c with c|⟨a,s,x,w,f,t,u,rfl,l,v,g,rfl⟩|⟨q,r,rfl,g,rfl⟩
  ·exact .inl c
  ·exact .inr (.inl ⟨a,s,x,w,f,t,u,rfl,(m a l).1,by rw[FU (m a l).2];exact v,g.imp λp a h=>o h,rfl⟩)
  ·exact .inr (.inr ⟨q,r,rfl,g.imp λp a h=>o h,rfl⟩)
theorem FT.deep{k:H}{j:Nat->Prop}:∀{b a:Nat} {e d:T},b<=a->FT k j b e d->FT k j a e d:=by
 intro b
 induction b with
 |zero=>intro a e d _ c;exact c.elim
 |succ b l=>
  intro a e d y c
  obtain⟨a,rfl⟩:∃q,a=q+1:=⟨a-1,by omega⟩
  rcases c with c|⟨g,r,x,w,f,s,t,rfl,u,v,h,rfl⟩|⟨o,p,rfl,h,rfl⟩
  ·exact .inl c
  ·exact .inr (.inl ⟨g,r,x,w,f,s,t,rfl,u,v,h.imp λm g i=>l (by omega) i,rfl⟩)
  ·exact .inr (.inr ⟨o,p,rfl,h.imp λm g i=>l (by omega) i,rfl⟩)
theorem FT.fz{h:H}{V:Nat->Prop}{v t:T}(l:FT h V 12 v t):TI.fz h v=some t:=by
 rcases l with⟨i,e,rfl⟩|⟨g,o,s,r,f,p,q,rfl,e,j,a,rfl⟩|⟨b,c,rfl,a,rfl⟩
 ·show(dB (iK h 0 v) λv=>some (cn v))=_
  rw[pF h i e];rfl
 ·rw[uH,j,dD,o6 (a.imp λm g k=>k.vC)];rfl
 ·have:=FT.vC (h:=h) (V:=V) (d:=12) (v:= .agg b) (t:= .agg c) (.inr (.inr ⟨b,c,rfl,a,rfl⟩))
  exact this
@[simp] theorem fJ (d:H) (b:Nat->Prop) (c:Nat) (a:ak) (n:Int):FT d b (c+1) (.int a n) (.int a n):= .inl ⟨by simp,by simp,by simp⟩
@[simp] theorem jH (d:H) (b:Nat->Prop) (c:Nat) (a:List Nat):FT d b (c+1) (.str a) (.str a):= .inl ⟨by simp,by simp,by simp⟩
theorem pO(g:H)(d:Nat->Prop)(e:Nat){a:List T}(c:∀b∈a,cn b=b):FT g d (e+1) (sl a) (sl a):=by
 refine .inl ⟨by simp,by cases a<;>simp[sl],?_⟩
 rw[JK];congr 1
 induction a with
 |nil=>rfl
 |cons b k i=>rw[aU,c b (by simp),<-i λj h=>c j (by simp[h])]
theorem iL(c:H)(a:Nat->Prop)(b:Nat)(f:Bool):FT c a (b+1) (.dq [] f) (sl []):= .inl ⟨by simp,by simp,by rw[mE];rfl⟩
section
variable {cx:Ctx}{cf:ir}{mask n:Nat}{dl:DL}
theorem aes{a:Bool}{h:af Oper}{c:aa Tmp}{g:Op}{e:List Oper}{j i:eZ}{d:H}{b:gU}(k:a=true->GK (some true) cx cf mask h c g e j i d b)(l:a=false->GK (some false) cx cf mask h c g e j i d b):GK (some a) cx cf mask h c g e j i d b:=by
 cases a
 ·exact l rfl
 ·exact k rfl
theorem fh(b e:Code)(c:Env)(d:H)(a:gU):CK (some (.bool true)) cx cf n mask dl b e c d a=W (iZ cx cf n mask dl b c d) a:=rfl
theorem ew(e b:Code)(c:Env)(d:H)(a:gU):CK (some (.bool false)) cx cf n mask dl e b c d a=W (iZ cx cf n mask dl b c d) a:=rfl
theorem dM{a:Bool}{e g:Code}{c:Env}{d:H}{b:gU}(h:a=true->W (iZ cx cf n mask dl e c d) b)(i:a=false->W (iZ cx cf n mask dl g c d) b):CK (some (.bool a)) cx cf n mask dl e g c d b:=by
 cases a
 ·exact i rfl
 ·exact h rfl
end
def wR(P:ai)(cx:Ctx)(f:aj){α:Type}(A:α->List T)(pre:α->Prop)(Q:α->T->Prop):fK:=
 ⟨α,A,pre,λa=>Classical.epsilon λc=>(∀b,A b=A a->Q b c)/\kO P cx f (A a) c,λa b d=>by simp only[d]⟩
section
variable {P:ai}{cx:Ctx}{f:aj}{α:Type}{A:α->List T}{pre:α->Prop}{Q:α->T->Prop}
theorem IX(h:∀a b,A a=A b->a=b){a:α}(j:∃c,Q a c/\kO P cx f (A a) c):Q a ((wR P cx f A pre Q).R a)/\kO P cx f (A a) ((wR P cx f A pre Q).R a):=by
 have d:∃c,(∀b,A b=A a->Q b c)/\kO P cx f (A a) c:=by
  obtain⟨c,e,g⟩:=j
  exact⟨c,λb i=>by rw[h b a i];exact e,g⟩
 have:=Classical.epsilon_spec d
 exact⟨this.1 a rfl,this.2⟩
theorem Xl(d:∀a b,A a=A b->a=b)(g:∀a,pre a->∃c,Q a c/\kO P cx f (A a) c):(wR P cx f A pre Q).Ok P cx f:=λa e=>(IX d (g a e)).2
theorem jk{tb:eG}{c:Func}{mask:Nat}{dl:DL}(j:P.follows .mixedOrders=true)(iB:iG P cx)(m:ER P cx f c mask dl)(n:α->Nat)(h:∀a g,A a=A g->a=g)(hl:∀a,lQ (A a)=true)(k:∀a,(A a).length<=c.ntmps)
 (l:∀a,pre a->∀i,mO i 0 (A a)->W (iZ cx (p9 P cx tb) (n a) mask dl (c.body.getD .skip) ⟨i,.nil⟩ hE) (zv cx mask c.results.toList λo d=>∃b,Q a b/\OW d o b)):(wR P cx f A pre Q).Ok P cx f/\∀a,pre a->Q a ((wR P cx f A pre Q).R a):=by
 have d:∀a,pre a->∃b,Q a b/\kO P cx f (A a) b:=λa e=>Tj j iB m (BJ P cx tb) (hl a) (k a) (n a) (l a e)
 exact⟨Xl h d,λa e=>(IX h (d a e)).1⟩
def nZ(P:ai)(cx:Ctx)(f:aj)(A:α->List T)(pre:α->Prop)(Q:α->T->Prop):Prop:=(wR P cx f A pre Q).Ok P cx f/\∀a,pre a->Q a ((wR P cx f A pre Q).R a)
theorem zR(d:α->Nat)(step:∀b,nZ P cx f A (λa=>pre a/\d a<b) Q->nZ P cx f A (λa=>pre a/\d a<b+1) Q):nZ P cx f A pre Q:=by
 have e:∀b,nZ P cx f A (λa=>pre a/\d a<b) Q:=by
  intro b
  induction b with
  |zero=>exact⟨λa c=>absurd c.2 (Nat.not_lt_zero _),λa c=>absurd c.2 (Nat.not_lt_zero _)⟩
  |succ b g=>exact step b g
 exact⟨λa c=>(e (d a+1)).1 a ⟨c,cS _⟩,λa c=>(e (d a+1)).2 a ⟨c,cS _⟩⟩
end
def NE(b:Prop)(c:T):Prop:=∃a,c= .bool a/\(a=true->b)
@[simp] theorem Wy (d:Prop) (a:Bool):NE d (.bool a)=(a=true->d):=by
 unfold NE;apply propext;constructor
 ·rintro⟨e,c,b⟩;simp at c;subst c;exact b
 ·exact λb=>⟨a,rfl,b⟩
@[simp] theorem Zo (a:Bool):Hc (.bool a)=True:=by simp[Hc]
end
noncomputable section
attribute [-simp] ei dT
def gT(a:Bool)(b:T):T:=match a with|true=>b|false=> .undef
@[simp] theorem abf (a:T):gT true a=a:=id rfl
@[simp] theorem ZC (a:T):gT false a= .undef:=id rfl
@[simp] theorem ae2 (a:Bool) (b:T):gT a (gT a b)=gT a b:=by cases a<;>rfl
def SK(a:Bool)(b c:T):T:=match a with|true=>b|false=>c
@[simp] theorem YY (b:Bool) (a:T):SK b a a=a:=by cases b<;>rfl
@[simp] theorem aeN (a:Bool) (b:T):SK a b .undef=gT a b:=by cases a<;>rfl
@[simp] theorem aeM (a:Bool) (b:T):SK a .undef b=gT (!a) b:=by cases a<;>rfl
@[simp] theorem aeP (a b c:Bool):SK a (.bool b) (.bool c)= .bool (bif a then b else c):=by cases a<;>rfl
@[simp] theorem aeO (a:Bool) (b:ak) (c d:Int):SK a (.int b c) (.int b d)= .int b (bif a then c else d):=by cases a<;>rfl
def P2(a:Bool)(b c:eZ):eZ:=match a with|true=>b|false=>c
@[simp] theorem YW (b:Bool) (a:eZ):P2 b a a=a:=by cases b<;>rfl
@[simp] theorem YX (a:Bool) (b:Nat) (e g:T) (c d:eZ):P2 a (.cons b e c) (.cons b g d)= .cons b (SK a e g) (P2 a c d):=by cases a<;>rfl
@[simp] theorem aa1 (a:Bool) (b:Nat) (e g:T) (c d:eZ):P2 a (put c b e) (put d b g)=put (P2 a c d) b (SK a e g):=by cases a<;>rfl
@[simp] theorem ack (a b:Bool):(bif a then true else b)=(a||b):=by cases a<;>rfl
@[simp] theorem acn (a b:Bool):(bif a then b else false)=(a&&b):=by cases a<;>rfl
@[simp] theorem acm (a:Bool):(bif a then true else false)=a:=by cases a<;>rfl
def tc:eZ->Nat->T->eZ
 | .nil,_,_=> .nil
 | .cons a e b,c,d=>if a=c then .cons a d b else .cons a e (tc b c d)
@[simp] theorem X4 (a:Nat) (b:T):tc .nil a b= .nil:=id rfl
@[simp] theorem Km (a c:Nat) (e d:T) (b:eZ):tc (.cons a e b) c d=if a=c then .cons a d b else .cons a e (tc b c d):=id rfl
theorem r8:∀{c:eZ} {b:Nat} {d:T},dt c b=some d->tc c b d=c
 | .nil,_,_,_=>rfl
 | .cons e i g,b,d,h=>by
  rw[kL]at h
  rw[Km]
  by_cases a:e=b
  ·rw[aq a]at h;simp only[ar]at h;rw[aq a,h]
  ·rw[ao a]at h;rw[ao a,r8 h]
def B4(a:Nat):List Oper->List Oper
 | []=>[]
 |o::c=>match o.guard with|some (b,_)=>if a<=b then o::B4 a c else []|none=>[]
def It(b:Nat):List Oper->List Oper
 | []=>[]
 |o::a=>match o.guard with|some (c,_)=>if b<=c then It b a else o::a|none=>o::a
theorem LI(b:Nat):∀a,B4 b a++It b a=a
 | []=>rfl
 |o::a=>by
  unfold B4 It
  cases o.guard with
  |none=>rfl
  |some c=>
   simp only
   split
   ·rw[cB,LI b a]
   ·rfl
section
variable {cx:Ctx}{cf:ir}{mask:Nat}
@[simp] theorem aaJ (a:Nat):B4 a []=[]:=id rfl
@[simp] theorem abx (a:Nat):It a []=[]:=id rfl
@[simp] theorem aeE (c:Nat) (b:aa Tmp) (e:Op) (i:ab) (g:String) (a:af Edge) (d:List Oper):B4 c (⟨b,e,i,g,a,none⟩::d)=[]:=id rfl
@[simp] theorem ae3 (i:Nat) (b:aa Tmp) (d:Op) (g:ab) (e:String) (a:af Edge) (c:List Oper):It i (⟨b,d,g,e,a,none⟩::c)=⟨b,d,g,e,a,none⟩::c:=id rfl
@[simp] theorem aeF (a b:Nat) (d:Bool) (e:aa Tmp) (i:Op) (k:ab) (j:String) (c:af Edge) (g:List Oper):B4 a (⟨e,i,k,j,c,some (b,d)⟩::g)=if a<=b then⟨e,i,k,j,c,some (b,d)⟩::B4 a g else []:=id rfl
@[simp] theorem ae4 (a b:Nat) (e:Bool) (g:aa Tmp) (i:Op) (k:ab) (j:String) (d:af Edge) (c:List Oper):It a (⟨g,i,k,j,d,some (b,e)⟩::c)=if a<=b then It a c else⟨g,i,k,j,d,some (b,e)⟩::c:=id rfl
theorem us(a:af Oper)(c:Oper)(g:List Oper)(b:Env)(h:H):
 j2 cx cf mask a (c::g) b h=dB (xa cx cf mask a b h c) λi=>two i λj e=>dB (b.dst mask c.dst j) λd=>j2 cx cf mask a g d e:=by
 show(dB (kK cx cf mask a b h c) λi=>two i λd e=>j2 cx cf mask a g d e)=_
 rw[pS]
theorem rK(b:af Oper):∀(c d:List Oper) (a:Env) (h:H),j2 cx cf mask b (c++d) a h=dB (j2 cx cf mask b c a h) λi=>two i λe g=>j2 cx cf mask b d e g
 | [],_,_,_=>rfl
 |o::c,d,a,h=>by
  rw[cB,us,us]
  cases xa cx cf mask b a h o with
  |none=>rfl
  |some i=>
   obtain⟨j,g⟩:=i
   simp only[dD,jX]
   cases a.dst mask o.dst j with
   |none=>rfl
   |some e=>simp only[dD];exact rK b c d e g
def pz(cx:Ctx)(cf:ir)(mask:Nat)(b:af Oper)(a:List Oper)(d c:eZ)(h:H):aa (Env×H):=j2 cx cf mask b a ⟨d,c⟩ h
def SG(l:aa (T×H))(cx:Ctx)(cf:ir)(mask:Nat)(e:af Oper)(a:aa Tmp)(d:List Oper)(k i:eZ):aa (Env×H):=
 dB l λg=>two g λj c=>dB (Env.dst mask ⟨k,i⟩ a j) λb=>j2 cx cf mask e d b c
@[simp] theorem X6 (c:af Oper) (b a:eZ) (h:H):pz cx cf mask c [] b a h=some (⟨b,a⟩,h):=id rfl
theorem NQ(d b:eZ)(a:Tmp)(c:T):Env.dst mask ⟨d,b⟩ (some a) c=some (if(mask>>>a)&&&1=1 then⟨put d a c,b⟩else⟨d,.cons a c b⟩):=by
 show @Bool.rec (λ_=>aa Env) (some ⟨d,.cons a c b⟩) (dB (kT d a c) λe=>some ⟨e,b⟩) (jJ mask a)=_
 rw[oh]
 have:=Bb mask a
 cases hl:jJ mask a with
 |true=>rw[aq (by rw[<-this];exact hl)];rfl
 |false=>rw[ao (by rw[<-this,hl];simp)]
@[simp] theorem acx (e:T) (h:H) (c:af Oper) (a:Tmp) (b:List Oper) (g d:eZ):SG (some (e,h)) cx cf mask c (some a) b g d=
 if(mask>>>a)&&&1=1 then pz cx cf mask c b (put g a e) d h else pz cx cf mask c b g (.cons a e d) h:=by
 unfold SG
 rw[dD,jX,NQ,dD]
 split<;>rfl
@[simp] theorem acy (e:T) (h:H) (b:af Oper) (a:List Oper) (d c:eZ):SG (some (e,h)) cx cf mask b none a d c=pz cx cf mask b a d c h:=id rfl
def G3(o:aa Tmp)(i:aa Bool)(m:Nat)(l:Bool)(cx:Ctx)(cf:ir)(mask:Nat)(g:af Oper)(c:aa Tmp)(e:Op)(p:ab)(n:String)(k:af Edge)(d:List Oper)(b a:eZ)(h:H):aa (Env×H):=
 SG (dB i λj=> @Bool.rec (λ_=>aa (T×H)) (some (.undef,h)) (fin cf h (iO e cx mask ⟨b,a⟩ h)) j) cx cf mask g c d b a
theorem Hy(a:af Oper)(j:aa Tmp)(k:Op)(m:ab)(l:String)(i:af Edge)(c:Nat)(b:Bool)(d:List Oper)(g e:eZ)(h:H)(n:aa Tmp):
 pz cx cf mask a (⟨j,k,m,l,i,some (c,b)⟩::d) g e h=G3 n (jU a mask ⟨g,e⟩ (some (c,b))) c b cx cf mask a j k m l i d g e h:=us a _ d _ h
@[simp] theorem E4 (b:List Oper) (i:aa Tmp) (k:Op) (m:ab) (l:String) (g:af Edge) (a:Nat) (c:Bool) (j:List Oper) (e d:eZ) (h:H):
 pz cx cf mask b.toArray (⟨i,k,m,l,g,some (a,c)⟩::j) e d h=G3 (dB (b[a]?) λn=>n.dst) (jU b.toArray mask ⟨e,d⟩ (some (a,c))) a c cx cf mask b.toArray i k m l g j e d h:=Hy b.toArray i k m l g a c j e d h _
@[simp] theorem acI (m:aa Tmp) (k:Nat) (j:Bool) (g:af Oper) (c:aa Tmp) (e:Op) (n:ab) (l:String) (i:af Edge) (d:List Oper) (b a:eZ) (h:H):G3 m (some true) k j cx cf mask g c e n l i d b a h=SG (fin cf h (iO e cx mask ⟨b,a⟩ h)) cx cf mask g c d b a:=id rfl
@[simp] theorem aay (m:aa Tmp) (j:Nat) (i:Bool) (c:af Oper) (a:aa Tmp) (k:Op) (n:ab) (l:String) (g:af Edge) (b:List Oper) (e d:eZ) (h:H):G3 m (some false) j i cx cf mask c a k n l g b e d h=SG (some (.undef,h)) cx cf mask c a b e d:=id rfl
def VM(a:Bool)(g i:aa (Env×H))(cx:Ctx)(cf:ir)(mask:Nat)(c:af Oper)(e:List Oper):aa (Env×H):=dB (bif a then g else i) λd=>two d λb h=>j2 cx cf mask c e b h
@[congr] theorem Xh {a b:Bool} {g i j k:aa (Env×H)} {c:af Oper} {d e:List Oper} (l:a=b) (m:g=i) (n:j=k) (hr:d=e):VM a g j cx cf mask c d=VM b i k cx cf mask c e:=by rw[l,m,n,hr]
@[simp] theorem acP (a:Bool) (g d i e:eZ) (h:H) (b:af Oper) (c:List Oper):VM a (some (⟨g,d⟩,h)) (some (⟨i,e⟩,h)) cx cf mask b c=pz cx cf mask b c (P2 a g i) (P2 a d e) h:=by cases a<;>rfl
theorem Jy{e c:eZ}{a:Tmp}{d:T}(g:(mask>>>a)&&&1=0)(b:Env.get mask ⟨e,c⟩ a=some d):dt c a=some d:=by
 rw[Af,ao (by omega)]at b;exact b
theorem LX{b:List Oper}{g:Tmp}{i:Bool}{a:List Oper}{d c:eZ}{h:H}(e:Nat)(n:(mask>>>g)&&&1=0)(m:Env.get mask ⟨d,c⟩ g=some (.bool i)):
 pz cx cf mask b.toArray a d c h=VM i (pz cx cf mask b.toArray (B4 e a) d (tc c g (.bool true)) h) (pz cx cf mask b.toArray (B4 e a) d (tc c g (.bool false)) h) cx cf mask b.toArray (It e a):=by
 have j:=Jy n m
 have:pz cx cf mask b.toArray a d c h=dB (pz cx cf mask b.toArray (B4 e a) d c h) λo=>two o λk l=>j2 cx cf mask b.toArray (It e a) k l:=by
  show j2 cx cf mask b.toArray a ⟨d,c⟩ h=_
  conv=>lhs;rw[<-LI e a]
  exact rK _ _ _ _ _
 rw[this]
 cases i
 ·conv=>lhs;rw[<-r8 j]
  rfl
 ·conv=>lhs;rw[<-r8 j]
  rfl
theorem OU(d:List Oper)(b:Tmp)(o:Bool)(a:Nat)(c:Bool)(g:aa Tmp)(j:Op)(l:ab)(k:String)(e:af Edge)(i:List Oper)(n m:eZ)(h:H)(r:Bool)
 (s:(mask>>>b)&&&1=0) (p:(dB (d[a]?) λu=>u.dst)=some b) (q:Env.get mask ⟨n,m⟩ b=some (.bool o)) (t:r=(o==c)):
 G3 (some b) (some r) a c cx cf mask d.toArray g j l k e i n m h=
  VM o (pz cx cf mask d.toArray (B4 a (⟨g,j,l,k,e,some (a,c)⟩::i)) n (tc m b (.bool true)) h) (pz cx cf mask d.toArray (B4 a (⟨g,j,l,k,e,some (a,c)⟩::i)) n (tc m b (.bool false)) h) cx cf mask d.toArray (It a (⟨g,j,l,k,e,some (a,c)⟩::i)):=by
 subst t
 rw[<-LX a s q,E4,p,At,p,dD,q,As]
@[simp low] theorem acJ (c:List Oper) (b:Tmp) (e:Bool) (a:Nat) (g:aa Tmp) (j:Op) (l:ab) (k:String) (d:af Edge) (i:List Oper) (n m:eZ) (h:H)
 (q:(mask>>>b)&&&1=0) (o:(dB (c[a]?) λr=>r.dst)=some b) (p:Env.get mask ⟨n,m⟩ b=some (.bool e)):
 G3 (some b) (some e) a true cx cf mask c.toArray g j l k d i n m h=
  VM e (pz cx cf mask c.toArray (B4 a (⟨g,j,l,k,d,some (a,true)⟩::i)) n (tc m b (.bool true)) h) (pz cx cf mask c.toArray (B4 a (⟨g,j,l,k,d,some (a,true)⟩::i)) n (tc m b (.bool false)) h) cx cf mask c.toArray (It a (⟨g,j,l,k,d,some (a,true)⟩::i)):=
 OU c b e a true g j l k d i n m h e q o p (by simp)
@[simp low] theorem acK (d:List Oper) (b:Tmp) (c:Bool) (a:Nat) (g:aa Tmp) (j:Op) (l:ab) (k:String) (e:af Edge) (i:List Oper) (n m:eZ) (h:H)
 (q:(mask>>>b)&&&1=0) (o:(dB (d[a]?) λr=>r.dst)=some b) (p:Env.get mask ⟨n,m⟩ b=some (.bool !c)):
 G3 (some b) (some c) a false cx cf mask d.toArray g j l k e i n m h=
  VM (!c) (pz cx cf mask d.toArray (B4 a (⟨g,j,l,k,e,some (a,false)⟩::i)) n (tc m b (.bool true)) h) (pz cx cf mask d.toArray (B4 a (⟨g,j,l,k,e,some (a,false)⟩::i)) n (tc m b (.bool false)) h) cx cf mask d.toArray (It a (⟨g,j,l,k,e,some (a,false)⟩::i)):=
 OU d b (!c) a false g j l k e i n m h c q o p (by cases c<;>rfl)
def G2(o:aa Tmp)(j:aa Bool)(m:Nat)(l:Bool)(cx:Ctx)(cf:ir)(mask:Nat)(e:af Oper)(b:aa Tmp)(d:Op)(p:ab)(n:String)(k:af Edge)(c:List Oper)(i g:eZ)(h:H)(a:gU):Prop:=GK j cx cf mask e b d c i g h a
@[simp] theorem Lt (b:List Oper) (j:aa Tmp) (l:Op) (n:ab) (m:String) (i:af Edge) (a:Nat) (c:Bool) (k:List Oper) (e d:eZ) (h:H) (g:gU):
 RK cx cf mask b.toArray (⟨j,l,n,m,i,some (a,c)⟩::k) e d h g=G2 (dB (b[a]?) λo=>o.dst) (jU b.toArray mask ⟨e,d⟩ (some (a,c))) a c cx cf mask b.toArray j l n m i k e d h g:=ei b.toArray j l n m i a c k e d h g
@[simp] theorem acL (n:aa Tmp) (l:Nat) (k:Bool) (i:af Oper) (d:aa Tmp) (g:Op) (o:ab) (m:String) (j:af Edge) (e:List Oper) (b a:eZ) (h:H) (c:gU):G2 n (some true) l k cx cf mask i d g o m j e b a h c=XK (fin cf h (iO g cx mask ⟨b,a⟩ h)) cx cf mask i d e b a c:=id rfl
@[simp] theorem aaz (n:aa Tmp) (k:Nat) (j:Bool) (d:af Oper) (b:aa Tmp) (l:Op) (o:ab) (m:String) (i:af Edge) (c:List Oper) (g e:eZ) (h:H) (a:gU):G2 n (some false) k j cx cf mask d b l o m i c g e h a=XK (some (.undef,h)) cx cf mask d b c g e a:=by
 unfold XK;rw[xU];rfl
def BG(c:Bool)(g i:aa (Env×H))(cx:Ctx)(cf:ir)(mask:Nat)(d:af Oper)(e:List Oper)(b:gU):Prop:=
 (c=true->∃a h,g=some (a,h)/\RK cx cf mask d e a.vars a.tmps h b)/\(c=false->∃a h,i=some (a,h)/\RK cx cf mask d e a.vars a.tmps h b)
@[congr] theorem aaH {b c:Bool} {i j k l:aa (Env×H)} {d:af Oper} {e g:List Oper} {a:gU} (m:b=c) (n:i=j) (o:k=l) (hr:e=g):BG b i k cx cf mask d e a=BG c j l cx cf mask d g a:=by rw[m,n,o,hr]
@[simp] theorem aev (c:Bool) (l j m k:eZ) (h:H) (g:af Oper) (i:List Oper) (e:gU):BG c (some (⟨l,j⟩,h)) (some (⟨m,k⟩,h)) cx cf mask g i e=RK cx cf mask g i (P2 c l m) (P2 c j k) h e:=by
 unfold BG
 apply propext
 cases c
 ·constructor
  ·intro a;obtain⟨n,o,b,hr⟩:=a.2 rfl
   simp only[ar,ax]at b
   obtain⟨rfl,rfl⟩:=b;exact hr
  ·exact λa=>⟨λd=>by simp at d,λ_=>⟨_,_,rfl,a⟩⟩
 ·constructor
  ·intro a;obtain⟨n,o,b,hr⟩:=a.1 rfl
   simp only[ar,ax]at b
   obtain⟨rfl,rfl⟩:=b;exact hr
  ·exact λa=>⟨λ_=>⟨_,_,rfl,a⟩,λd=>by simp at d⟩
theorem VD(e:af Oper)(g q:List Oper)(j i:eZ)(h:H)(k:gU):RK cx cf mask e (g++q) j i h k=∃l a,pz cx cf mask e g j i h=some (l,a)/\RK cx cf mask e q l.vars l.tmps a k:=by
 apply propext
 show(∃b a,j2 cx cf mask e (g++q) ⟨j,i⟩ h=some (b,a)/\k.n ⟨b.vars,.nil⟩ a)↔_
 rw[rK]
 constructor
 ·rintro⟨b,a,c,p⟩
  obtain⟨⟨m,o⟩,d,c⟩:=dj.1 c
  exact⟨m,o,d,b,a,c,p⟩
 ·rintro⟨m,o,d,b,a,c,p⟩
  have d:j2 cx cf mask e g ⟨j,i⟩ h=some (m,o):=d
  exact⟨b,a,by rw[d];exact c,p⟩
theorem OV(j:List Oper)(l:Tmp)(p:Bool)(a:Nat)(b:Bool)(d:aa Tmp)(i:Op)(m:ab)(k:String)(c:af Edge)(g:List Oper)(o n:eZ)(h:H)(q:gU)(v:Bool)
 (x:(mask>>>l)&&&1=0) (s:(dB (j[a]?) λz=>z.dst)=some l) (t:Env.get mask ⟨o,n⟩ l=some (.bool p)) (y:v=(p==b)):
 G2 (some l) (some v) a b cx cf mask j.toArray d i m k c g o n h q=
  BG p (pz cx cf mask j.toArray (B4 a (⟨d,i,m,k,c,some (a,b)⟩::g)) o (tc n l (.bool true)) h) (pz cx cf mask j.toArray (B4 a (⟨d,i,m,k,c,some (a,b)⟩::g)) o (tc n l (.bool false)) h) cx cf mask j.toArray (It a (⟨d,i,m,k,c,some (a,b)⟩::g)) q:=by
 subst y
 have u:=Jy x t
 have w:G2 (some l) (some (p==b)) a b cx cf mask j.toArray d i m k c g o n h q=RK cx cf mask j.toArray (⟨d,i,m,k,c,some (a,b)⟩::g) o n h q:=by
  rw[Lt,s,At,s,dD,t,As]
 rw[w]
 conv=>lhs;rw[<-LI a (⟨d,i,m,k,c,some (a,b)⟩::g)]
 rw[VD]
 unfold BG
 apply propext
 cases p
 ·conv=>lhs;rw[<-r8 u]
  exact⟨λe=>⟨λr=>by simp at r,λ_=>e⟩,λe=>e.2 rfl⟩
 ·conv=>lhs;rw[<-r8 u]
  exact⟨λe=>⟨λ_=>e,λr=>by simp at r⟩,λe=>e.1 rfl⟩
@[simp low] theorem acM (c:List Oper) (b:Tmp) (e:Bool) (a:Nat) (g:aa Tmp) (j:Op) (l:ab) (k:String) (d:af Edge) (i:List Oper) (n m:eZ) (h:H) (o:gU)
 (r:(mask>>>b)&&&1=0) (p:(dB (c[a]?) λs=>s.dst)=some b) (q:Env.get mask ⟨n,m⟩ b=some (.bool e)):
 G2 (some b) (some e) a true cx cf mask c.toArray g j l k d i n m h o=
  BG e (pz cx cf mask c.toArray (B4 a (⟨g,j,l,k,d,some (a,true)⟩::i)) n (tc m b (.bool true)) h) (pz cx cf mask c.toArray (B4 a (⟨g,j,l,k,d,some (a,true)⟩::i)) n (tc m b (.bool false)) h) cx cf mask c.toArray (It a (⟨g,j,l,k,d,some (a,true)⟩::i)) o:=
 OV c b e a true g j l k d i n m h o e r p q (by simp)
@[simp low] theorem acN (d:List Oper) (b:Tmp) (c:Bool) (a:Nat) (g:aa Tmp) (j:Op) (l:ab) (k:String) (e:af Edge) (i:List Oper) (n m:eZ) (h:H) (o:gU)
 (r:(mask>>>b)&&&1=0) (p:(dB (d[a]?) λs=>s.dst)=some b) (q:Env.get mask ⟨n,m⟩ b=some (.bool !c)):
 G2 (some b) (some c) a false cx cf mask d.toArray g j l k e i n m h o=
  BG (!c) (pz cx cf mask d.toArray (B4 a (⟨g,j,l,k,e,some (a,false)⟩::i)) n (tc m b (.bool true)) h) (pz cx cf mask d.toArray (B4 a (⟨g,j,l,k,e,some (a,false)⟩::i)) n (tc m b (.bool false)) h) cx cf mask d.toArray (It a (⟨g,j,l,k,e,some (a,false)⟩::i)) o:=
 OV d b (!c) a false g j l k e i n m h o c r p q (by cases c<;>rfl)
theorem HM{a d e:Bool}{h:H}{b c:aa kx}(g:a=true->b=some (.val (.bool d) h))(i:a=false->c=some (.val (.bool e) h)):ls (some (.bool a)) b c=some (.val (.bool (bif a then d else e)) h):=by
 cases a
 ·exact i rfl
 ·exact g rfl
@[simp] theorem aaX (a b:aa kx):ls (some (.bool true)) a b=a:=id rfl
@[simp] theorem Yo (b a:aa kx):ls (some (.bool false)) b a=a:=id rfl
@[simp low] theorem aeG (a:Bool) (b c:T) (h:H):ls (some (.bool a)) (some (.val b h)) (some (.val c h))=some (.val (SK a b c) h):=by cases a<;>rfl
@[simp] theorem aeK (a b c:Bool) (h:H):ls (some (.bool a)) (some (.val (.bool b) h)) (some (.val (.bool c) h))=some (.val (.bool (bif a then b else c)) h):=HM (λ_=>rfl) (λ_=>rfl)
@[simp] theorem aeJ (a c d b:Bool) (h:H) (g:a=false->b=true):ls (some (.bool a)) (some (.val (.bool c) h)) (some (.val (gT b (.bool d)) h))=some (.val (.bool (bif a then c else d)) h):=HM (λ_=>rfl) (λe=>by rw[g e];rfl)
@[simp] theorem aeI (a c d b:Bool) (h:H) (g:a=true->b=true):ls (some (.bool a)) (some (.val (gT b (.bool c)) h)) (some (.val (.bool d) h))=some (.val (.bool (bif a then c else d)) h):=HM (λe=>by rw[g e];rfl) (λ_=>rfl)
@[simp] theorem aeH (a:Bool) (b:ak) (c d:Int) (h:H):ls (some (.bool a)) (some (.val (.int b c) h)) (some (.val (.int b d) h))=some (.val (.int b (bif a then c else d)) h):=by cases a<;>rfl
end
def js(th:aj->aa kw):Op->Bool
 | .move _| .assign _| .pick .. | .load .. | .nilCheck _| .unOp .. | .binOp .. | .fieldAddr .. | .field .. | .indexAddr .. | .index .. | .extract .. | .slice .. =>true
 | .call b=>(match b.callee with
  | .builtin a=>(match a with| .len| .min| .max=>true|_=>false)
  | .value c=>(match c with| .func f=>(th f).isNone|_=>false)
  |_=>false)
 |_=>false
section
variable {th:aj->aa kw}
@[simp] theorem aaU (a:ah):js th (.move a)=true:=id rfl
@[simp] theorem V2 (a:ah):js th (.assign a)=true:=id rfl
@[simp] theorem aaT (a b c:ah):js th (.pick a b c)=true:=id rfl
@[simp] theorem aaV (a:ab) (b:ah):js th (.load a b)=true:=id rfl
@[simp] theorem Sh (a:ah):js th (.nilCheck a)=true:=id rfl
@[simp] theorem aaS (a:UnOp) (b:ab) (c:ah):js th (.unOp a b c)=true:=id rfl
@[simp] theorem Yk (a:BinOp) (b:ab) (d e:ah) (c:ab):js th (.binOp a b d e c)=true:=id rfl
@[simp] theorem Pw (a:ab) (b:ah) (f:Nat):js th (.fieldAddr a b f)=true:=id rfl
@[simp] theorem Yh (a:ab) (b:ah) (f:Nat):js th (.field a b f)=true:=id rfl
@[simp] theorem Pv (a:ab) (b c:ah):js th (.indexAddr a b c)=true:=id rfl
@[simp] theorem Yg (a:ab) (b c:ah):js th (.index a b c)=true:=id rfl
@[simp] theorem TP (b:ah) (a:Nat):js th (.extract b a)=true:=id rfl
@[simp] theorem Yf (d:ab) (e:ah) (a b c:aa ah):js th (.slice d e a b c)=true:=id rfl
@[simp] theorem Yi (f:aj) (a:af ah) (b:af ab):js th (.call ⟨.value (.func f),a,b⟩)=(th f).isNone:=id rfl
@[simp] theorem adc (a:af ah) (b:af ab):js th (.call ⟨.builtin .len,a,b⟩)=true:=id rfl
@[simp] theorem ada (a:af ah) (b:af ab):js th (.call ⟨.builtin .min,a,b⟩)=true:=id rfl
@[simp] theorem adb (a:af ah) (b:af ab):js th (.call ⟨.builtin .max,a,b⟩)=true:=id rfl
@[simp] theorem Yl (a:ab):js th (.alloc a)=false:=id rfl
@[simp] theorem ade (a:ab) (b:ah):js th (.box a b)=false:=id rfl
@[simp] theorem Ye (a:ab) (b c:ah):js th (.store a b c)=false:=id rfl
@[simp] theorem Yj (b:ab) (a:af (Nat×ah)):js th (.build b a)=false:=id rfl
@[simp] theorem O9 (c:ab) (a:Nat) (b:af (Nat×ah)):js th (.buildSlice c a b)=false:=id rfl
end
def Kp(th:aj->aa kw)(h:H)(e:aa kx):Prop:=∀a,e=some a->(∀d b,a= .val d b->b=h)/\∀f c,a= .call f c->th f=none
section
variable {th:aj->aa kw}{h:H}
theorem Kp.val(c:aa T):Kp th h (val h c):=by
 intro d a
 obtain⟨e,_,a⟩:=dj.1 a
 simp only[ar]at a;subst a
 exact⟨λ_ _ b=>by simp at b;exact b.2.symm,λ_ _ b=>by simp at b⟩
theorem Kp.one(a:T):Kp th h (some (.val a h)):=Kp.val (some a)
theorem Kp.none:Kp th h none:=by intro b a;simp at a
theorem Kp.dB{α:Type}{e:aa α}{f:α->aa kx}(d:∀a,Kp th h (f a)):Kp th h (dB e f):=by
 intro c b
 obtain⟨a,_,b⟩:=dj.1 b
 exact d a c b
theorem Kp.fy{b:Bool}{a:aa kx}(e:Kp th h a):Kp th h (fy b a):=by
 intro c d
 exact e c (dz.1 d).2
theorem T1{o:Op}(d:js th o=true)(cx:Ctx)(mask:Nat)(t:Env):Kp th h (iO o cx mask t h):=by
 cases o<;>first|(simp[js]at d;done)|skip
 case move x=>exact Kp.val _
 case assign x=>exact Kp.val _
 case pick m k l=>
  rw[PU];unfold ls
  refine Kp.dB λa=> ?_
  cases a<;>first|exact Kp.none|(rename_i b;cases b<;>exact Kp.val _)
 case load b k=>exact Kp.dB λ_=>Kp.dB λ_=>Kp.val _
 case nilCheck x=>exact Kp.dB λa=>by cases a<;>first|exact Kp.none|exact Kp.one _
 case unOp j b x=>exact Kp.dB λ_=>Kp.val _
 case binOp j b x q F=>
  cases j<;>first
   |exact Kp.dB λ_=>Kp.dB λ_=>Kp.val _
   |exact Kp.dB λ_=>Kp.dB λ_=>Kp.dB λ_=>Kp.fy (Kp.dB λ_=>Kp.val _)
 case fieldAddr b x f=>
  exact Kp.dB λv=>Kp.dB λa=>by
   cases a<;>first|exact Kp.none|exact Kp.dB λ_=>Kp.one _
 case field b x f=>
  exact Kp.dB λv=>Kp.dB λ_=>Kp.dB λa=>by
   cases a<;>first|exact Kp.none|exact Kp.dB λ_=>Kp.val _
 case indexAddr b x g=>
  exact Kp.dB λe=>Kp.dB λa=>Kp.dB λ_=>Kp.dB λg=>by
   cases e.u<;>first|exact Kp.none|(refine Kp.dB λy=> ?_;first
    |(cases a<;>first|exact Kp.none|exact Kp.dB λ_=>Kp.fy (Kp.one _)|exact Kp.fy (Kp.dB λ_=>Kp.fy (Kp.fy (Kp.dB λ_=>Kp.one _))))
    |(refine Kp.fy ?_;cases a<;>first|exact Kp.none|exact Kp.dB λ_=>Kp.one _|(refine Kp.dB λr=> ?_;cases Nat.beq r.sz y.size<;>first|exact Kp.dB λ_=>Kp.one _|exact Kp.fy (Kp.dB λ_=>Kp.one _))))
 case index b x g=>
  exact Kp.dB λe=>Kp.dB λa=>Kp.dB λ_=>Kp.dB λg=>by
   cases e.u<;>first|exact Kp.none|(cases a<;>first|exact Kp.none|exact Kp.dB λ_=>Kp.val _|exact Kp.dB λ_=>Kp.fy (Kp.dB λ_=>Kp.val _))
 case extract x g=>exact Kp.dB λa=>by cases a<;>first|exact Kp.none|exact Kp.val _
 case slice b x k l m=>exact Kp.dB λ_=>Kp.dB λ_=>Kp.fy (Kp.dB λ_=>Kp.dB λ_=>Kp.dB λ_=>Kp.fy (Kp.val _))
 rename_i m
 obtain⟨s,z,E⟩:=m
 cases s with
 |builtin l=>
  refine Kp.dB λn=> ?_
  cases l<;>first
   |(simp[js]at d;done)
   |(match n with
    | []=>exact Kp.none
    | [x]=>first|exact Kp.none|(refine Kp.dB λb=>Kp.dB λe=> ?_;cases e.u<;>first|exact Kp.none|exact Kp.val _|(cases x<;>first|exact Kp.none|exact Kp.val _))
    | [x,q]=>first|exact Kp.val _|exact Kp.none
    |x::q::G::n=>exact Kp.none)
 |value j=>
  cases j with
  |func f=>
   have w:(th f).isNone=true:=d
   refine Kp.dB λn=> ?_
   intro B c
   obtain⟨a,p,c⟩:=dj.1 c
   simp only[Kv,ar]at p;subst p
   obtain⟨D,_,c⟩:=dj.1 c
   simp only[ar]at c;subst c
   exact⟨λ_ _ i=>by simp at i,λC k i=>by simp at i;rw[<-i.1];simpa using w⟩
  |_=>simp[js]at d
 |_=>simp[js]at d
end
section
variable {P:ai}{cx:Ctx}{tb:eG}{mask:Nat}
theorem NM{j:Op}(o:js tb.h j=true){e:Env}{h:H}{k:T}{c:H}(a:fin (p9 P cx tb) h (iO j cx mask e h)=some (k,c)):c=h:=by
 obtain⟨d,m,a⟩:=dj.1 a
 obtain⟨p,q⟩:=T1 o cx mask e d m
 rcases d with⟨t,r⟩|⟨f,b⟩
 ·simp only[ar,ax]at a
  rw[<-a.2];exact p _ _ rfl
 ·have n:=q _ _ rfl
  have a:p9 P cx tb f b h=some (k,c):=a
  have g:hl P cx tb f b h=none:=by unfold hl;rw[n]
  rw[N8]at a
  cases i:Ox h b with
  |none=>rw[i,N6,g]at a;simp at a
  |some l=>
   rw[i,N5,g]at a
   cases hr:rl P cx tb f l with
   |none=>rw[hr]at a;simp at a
   |some s=>
    rw[hr,N7]at a
    split at a
    ·simp only[ar,ax]at a;exact a.2.symm
    ·simp at a
theorem B0(j:af Oper)(l:List (Nat×Nat))(Q:eZ->H->Prop):∀(i:List Oper) (g:Nat) (n:List (Nat×Nat)) (e:List (Nat×H×H)) (b a:eZ) (h:H),(i.all λo=>js tb.h o.op)=true->(∀k∈e,k.2.1=k.2.2)->
 IN cx (p9 P cx tb) mask j l i g n e b a h Q=WR cx (p9 P cx tb) mask j i b a h Q
 | [],g,n,e,b,a,h,_,_=>by rw[J3,OP]
 |o::i,g,n,e,b,a,h,hp,q=>by
  simp only[cA,ay]at hp
  rw[G4,EP]
  unfold xa
  cases jU j mask ⟨b,a⟩ o.guard with
  |none=>apply propext;constructor<;>(first|exact False.elim|(rintro⟨d,c,G,_⟩;simp[dB]at G))
  |some J=>
   rw[dD]
   cases J with
   |false=>
    rw[G5,xU]
    congr 1;funext b a
    exact B0 j l Q i _ n e b a h hp.2 q
   |true=>
    rw[J4]
    apply propext
    have y:∀d c,fin (p9 P cx tb) h (iO o.op cx mask ⟨b,a⟩ h)=some (d,c)->
     ((DK cx mask l g n e o.op ⟨b,a⟩ h c λn e=>WD mask o.dst d b a λb a=>IN cx (p9 P cx tb) mask j l i (g+1) n e b a c Q)↔WD mask o.dst d b a λb a=>WR cx (p9 P cx tb) mask j i b a c Q):=by
     intro d c C
     have D:=NM hp.1 C
     subst D
     have E:∀p,lM l g p e:=λp k hp _=>by rw[q k hp];exact Dl p
     have F:∀u v d,o.op≠ .store u v d:=λu v d m=>by have:=hp.1;rw[m]at this;simp[js]at this
     have x:∀t r,(∀k∈r,k.2.1=k.2.2)->((WD mask o.dst d b a λb a=>IN cx (p9 P cx tb) mask j l i (g+1) t r b a c Q)↔WD mask o.dst d b a λb a=>WR cx (p9 P cx tb) mask j i b a c Q):=by
      intro t r z
      rw[show(λb a=>IN cx (p9 P cx tb) mask j l i (g+1) t r b a c Q)=λb a=>WR cx (p9 P cx tb) mask j i b a c Q from by funext b a;exact B0 j l Q i _ t r b a c hp.2 z]
     unfold DK
     split
     ·rw[Ip]
      show(True/\_)/\(WD mask o.dst d b a λb a=>IN cx (p9 P cx tb) mask j l i (g+1) n (if kM l g=true then(g,c,c)::e else e) b a c Q)↔_
      have B:∀k∈(if kM l g=true then(g,c,c)::e else e),k.2.1=k.2.2:=by
       split
       ·intro k hp;rcases List.mem_cons.1 hp with rfl|hp
        ·rfl
        ·exact q k hp
       ·exact q
      rw[x _ _ B]
      exact⟨λm=>m.2,λm=>⟨⟨trivial,λu v d p I=>absurd I (F u v d)⟩,m⟩⟩
     ·cases fk cx mask ⟨b,a⟩ c o.op with
      |none=>exact x _ _ q
      |some p=>simp only;rw[x _ _ q];exact⟨λm=>m.2,λm=>⟨E p,m⟩⟩
    show(∃d c,_/\_)↔∃d c,_/\_
    constructor
    ·rintro⟨d,c,s,w⟩;exact⟨d,c,s,(y d c s).1 w⟩
    ·rintro⟨d,c,s,w⟩;exact⟨d,c,s,(y d c s).2 w⟩
@[simp high] theorem acE (a:List Oper) (d:List (Nat×Nat)) (b:eZ) (h:H) (c:gU) (e:(a.all λi=>js tb.h i.op)=true):QK cx (p9 P cx tb) mask a (some d) b h c=RK cx (p9 P cx tb) mask a.toArray a b .nil h c:=
 B0 a.toArray d (λb h=>c.n ⟨b,.nil⟩ h) a 0 [] [] b .nil h e (λj g=>by simp at g)
end
def CZ(b:T):Prop:=∃a,b= .int .i64 a
@[simp] theorem aa9 (a:Int):CZ (.int .i64 a)=True:=by simp[CZ]
section
variable {P:ai}{cx:Ctx}{f:aj}{α:Type}{A:α->List T}{pre:α->Prop}{Q:α->T->Prop}
noncomputable abbrev nZ.jl(_:nZ P cx f A pre Q):fK:=wR P cx f A pre Q
theorem nZ.use(c:nZ P cx f A pre Q)(a:α)(b:pre a):∃d,Q a d/\∀{tb:eG},tb.p f=some (wR P cx f A pre Q)->rl P cx tb f (A a)=some d:=⟨_,c.2 a b,λht=>fR ht c.1 a b⟩
end
section
variable {P:ai}{cx:Ctx}{f:aj}{α γ:Type}{A:α->List T}{pre:α->Prop}
theorem nZ.fnI(d:nZ P cx f A pre (λ_=>CZ))(b:γ->α)(c:∀a,pre (b a)):∃e:γ->Int,∀{tb:eG},tb.p f=some (wR P cx f A pre (λ_=>CZ))->∀a,rl P cx tb f (A (b a))=some (.int .i64 (e a)):=by
 refine⟨λa=>(d.2 (b a) (c a)).choose,λht a=> ?_⟩
 exact(fR ht d.1 (b a) (c a)).trans (bO some (d.2 (b a) (c a)).choose_spec)
end
@[simp] theorem ae8 (a:iE):gh 1 (hE.cons a)=True:=by simp;exact⟨by simp,by simp,by simp⟩
@[simp] theorem ae7 (a b:iE):gh 2 ((hE.cons a).cons b)=True:=by simp;exact⟨by simp,by simp,by simp⟩
@[simp] theorem ae6 (b c d a:iE):gh 4 ((((hE.cons b).cons c).cons d).cons a)=True:=by simp;exact⟨by simp,by simp,by simp⟩
theorem oH(a:ak)(b c:Int):binop .add (.int a b) (.int a c)=some (.int a (a.wrap (b+c))):=by
 show fy (B5 a a) (oS a (b+c))=_
 simp
theorem wt(a:ak)(b c:Int):binop .sub (.int a b) (.int a c)=some (.int a (a.wrap (b-c))):=by
 show fy (B5 a a) (oS a (b-c))=_
 simp
theorem adz(a:ak)(b c:Int):binop .mul (.int a b) (.int a c)=some (.int a (a.wrap (b*c))):=by
 show fy (B5 a a) (oS a (b*c))=_
 simp
def FV(c:T):Prop:=∃a b,c= .tuple [.int .i64 a,.int .i64 b]
@[simp] theorem aba (a b:Int):FV (.tuple [.int .i64 a,.int .i64 b])=True:=by simp[FV]
end
noncomputable section
section
variable {cx:Ctx}{mask:Nat}{e:Env}
@[simp] theorem Uc (a:ak) (b:Int):ml (.int a b)=some (.int a b):=id rfl
@[simp] theorem SF (a:Bool):ml (.bool a)=some (.bool a):=id rfl
@[simp] theorem SD:ml (.slice none 0 0)=some (.dq [] false):=id rfl
@[simp] theorem SE:ml (.pointer none)=some .jz:=id rfl
@[simp] theorem Ub (a:ByteArray):ml (.string a)=some (.str (a.data.toList.map UInt8.toNat)):=My (cx:=⟨λ_=>none,λ_=>none,λ_=>none⟩) (mask:=0) (e:=⟨.nil,.nil⟩) a
@[simp] theorem Ys (a:List am):eJ cx mask e (.const (.agg a.toArray))=dB (eK ml a) λb=>some (.agg b):=id rfl
end
@[simp] theorem Ou (a:List T):dE (sl a)=none:=by cases a<;>rfl
@[simp] theorem oT1 (a:T):hU [a]=a:=id rfl
@[simp] theorem oT2 (a b:T) (c:List T):hU (a::b::c)= .tuple (a::b::c):=id rfl
@[simp] theorem oT0:hU []= .tuple []:=id rfl
@[simp] theorem adW (a:H):(hr a).low=a.size:=id rfl
@[simp] theorem TL (a:H) (d f:iE) (b:Nat) (c:¬b=a.size):dY (a.cons d) (a.cons f) b=true:=by
 unfold dY
 rw[dH,dH,ao c,ao c]
 cases a.get b<;>simp
theorem ee{h h':H}{b:Nat}(a:h'.get b=h.get b):dY h h' b=true:=by
 unfold dY;rw[a];cases h.get b<;>simp
def Fp(d:H)(b a:Nat):Prop:=a=b\/∃c,d.get b=some c/\∃f∈d6 c.dO,dE f=some a
structure Step(w:Nat)(h h':H):Prop where
 ok:gh h.size h'
 get:∀b,b<h.size->¬Fp h w b->h'.get b=h.get b
 fp:∀b,Fp h' w b->Fp h w b\/h.size<=b
theorem iH{c d:H}{a:Nat}(f:d.get a=c.get a)(b:Nat):Fp d a b=Fp c a b:=by unfold Fp;rw[f]
theorem Step.refl{d:Nat}{a:H}(b:gh 0 a):Step d a a:=⟨⟨b.hp,b.low,au _⟩,λ_ _ _=>rfl,λ_ c=> .inl c⟩
theorem Step.trans{g:Nat}{h d i:H}(a:Step g h d)(c:Step g d i):Step g h i:=by
 refine⟨⟨c.ok.hp,c.ok.low,aS a.ok.sz c.ok.sz⟩,λb f j=> ?_,λb f=> ?_⟩
 ·have d:=a.get b f j
  have:=a.ok.sz
  rw[c.get b (by omega) (λk=>(a.fp b k).elim j λk=>absurd k (by omega)),d]
 ·rcases c.fp b f with k|k
  ·exact a.fp b k
  ·exact .inr (aS a.ok.sz k)
structure Lb(w:Nat)(h:H)(b:Nat)(x:iE):Prop where
 get:h.get b=some x
 nf:¬Fp h w b
theorem Lb.lt{d:Nat}{b:H}{a:Nat}{f:iE}(c:Lb d b a f):a<b.size:=H.dL c.get
theorem Lb.ne{a:Nat}{c:H}{b:Nat}{g:iE}(f:Lb a c b g):b≠a:=λd=>f.nf (.inl d)
theorem Lb.step{d:Nat}{f g:H}{b:Nat}{i:iE}(a:Lb d f b i)(h:Step d f g):Lb d g b i:=
 ⟨by rw[h.get b a.lt a.nf];exact a.get,λc=>(h.fp b c).elim a.nf λc=>absurd c (by have:=a.lt;omega)⟩
theorem Step.cons{w:Nat}{a:H}(d:gh 0 a)(i:w<a.size)(b:iE):Step w a (a.cons b):=by
 have g:(a.cons b).get w=a.get w:=by rw[dH,ao (by omega)]
 exact⟨⟨(d.cons b).hp,(d.cons b).low,by simp⟩,λf h _=>by rw[dH,ao (by omega)],λf c=>by rw[iH g]at c;exact .inl c⟩
theorem Lb.new{a:Nat}{h:H}(j:a<h.size)(g:∀b,Fp h a b->b<h.size)(c:iE):Lb a (h.cons c) h.size c:=by
 have i:(h.cons c).get a=h.get a:=by rw[dH,ao (by omega)]
 exact⟨by simp,λd=>by rw[iH i]at d;have:=g _ d;omega⟩
theorem Step.uf{c:Nat}{b:H}(k:gh 0 b){a:Nat}{o:iE}(h:Lb c b a o)(d:iE)(g:H)(i:Step c g b)(p:g.size<=a):Step c g (dI b a d):=by
 have m:(dI b a d).get c=b.get c:=by rw[dy h.get,ao (br h.ne)]
 refine⟨⟨(k.put a d).hp,(k.put a d).low,by rw[fc];exact i.ok.sz⟩,λf l n=> ?_,λf j=> ?_⟩
 ·rw[dy h.get,ao (by omega)];exact i.get f l n
 ·rw[iH m]at j;exact i.fp f j
theorem Step.put{b:Nat}{a:H}(k:gh 0 a){x:iE}(j:a.get b=some x)(c:iE)(p:∀h∈d6 c.dO,∀d,dE h=some d->Fp a b d\/a.size<=d):Step b a (dI a b c):=by
 refine⟨⟨(k.put b c).hp,(k.put b c).low,by rw[fc];exact au _⟩,λi q m=> ?_,λi g=> ?_⟩
 ·rw[dy j,ao (λg=>m (.inl g))]
 ·rcases g with rfl|⟨r,f,h,o,l⟩
  ·exact .inl (.inl rfl)
  ·rw[dy j,aq rfl]at f
   simp only[ar]at f;subst f
   exact p h o i l
theorem Step.ac9{c:Nat}{b:H}(h:gh 0 b){a:Nat}{n:iE}(g:b.get a=some n)(j:Fp b c a)(l:a≠c)(f:iE):Step c b (dI b a f):=by
 have m:(dI b a f).get c=b.get c:=by rw[dy g,ao (br l)]
 refine⟨⟨(h.put a f).hp,(h.put a f).low,by rw[fc];exact au _⟩,λi o k=> ?_,λi d=> ?_⟩
 ·rw[dy g,ao (λd=>k (by rw[d];exact j))]
 ·rw[iH m]at d;exact .inl d
theorem Step.I9{f:Nat}{g c:H}(d:Step f g c){b:H}(h:∀a,b.get a=c.get a)(m:b.size=c.size)(j:gh 0 b):Step f g b:=
 ⟨⟨j.hp,j.low,by rw[m];exact d.ok.sz⟩,λa k l=>by rw[h];exact d.get a k l,λa i=>by rw[iH (h f)]at i;exact d.fp a i⟩
theorem Td(b:H)(c a:Nat):Fp (hr b) c a=Fp b c a:=iH (fU b c) a
theorem Step.hr{f:Nat}{c d:H}(a:Step f (hr c) d):Step f c d:=
 ⟨⟨a.ok.hp,a.ok.low,a.ok.sz⟩,λb g h=>by rw[a.get b g (by rw[Td];exact h),fU],λb i=>by have:=a.fp b i;rw[Td]at this;exact this⟩
theorem gh.hr{b:Nat}{a:H}(c:gh b a):gh b (hr a):=⟨by rw[Zr];exact c.hp,au _,c.sz⟩
def Gr(h:H)(d:T)(i:Nat)(a:List T):Prop:=
 (d= .dq [] false/\a=[])\/∃b c j g f,d= .arr b c 0 a.length false/\h.get b=some ⟨i,c,j,g,false,f⟩/\f.take a.length=a
theorem Gr.nil(a:H)(b:Nat):Gr a (.dq [] false) b []:= .inl ⟨rfl,rfl⟩
theorem Gr.fT{d:H}{a:T}{f:Nat}{b:List T}(c:Gr d a f b):a.fT=true:=by
 rcases c with⟨rfl,_⟩|⟨g,h,j,i,k,rfl,_⟩<;>rfl
theorem Gr.cells{d:H}{a:T}{f:Nat}{b:List T}(c:Gr d a f b):a.cells=[a]:=by
 rcases c with⟨rfl,_⟩|⟨g,h,j,i,k,rfl,_⟩<;>rfl
theorem Gr.mono{d h':H}{b:T}{f:Nat}{c:List T}(i:Gr d b f c)(l:∀a,dE b=some a->h'.get a=d.get a):Gr h' b f c:=by
 rcases i with⟨rfl,rfl⟩|⟨a,g,m,h,n,rfl,j,k⟩
 ·exact .inl ⟨rfl,rfl⟩
 ·exact .inr ⟨a,g,m,h,n,rfl,by rw[l a rfl];exact j,k⟩
theorem Gr.box{j:H}{f:T}{k:Nat}{i:List T}(l:Gr j f k i){b:Nat}(d:dE f=some b):∃a g c h,j.get b=some ⟨k,a,g,c,false,h⟩/\f= .arr b a 0 i.length false:=by
 rcases l with⟨rfl,_⟩|⟨n,a,g,c,h,rfl,m,o⟩
 ·simp at d
 ·simp only[yO,ar]at d;subst d;exact⟨a,g,c,h,m,rfl⟩
theorem Gr.ne{c:H}{g h:T}{d f:Nat}{i vD:List T}(j:Gr c g d i)(k:Gr c h f vD)(m:d≠f):∀b,dE g=some b->dE h≠some b:=λb l n=>by
 obtain⟨_,_,_,_,o,_⟩:=j.box l
 obtain⟨_,_,_,_,a,_⟩:=k.box n
 rw[o]at a;simp at a;exact m a.1
theorem Gr.iy{b:H}{d:T}{h:Nat}{a:List T}(f:Gr b d h a):b.iy d=some a:=by
 rcases f with⟨rfl,rfl⟩|⟨j,k,m,l,i,rfl,g,c⟩
 ·rfl
 ·have hl:a.length<=i.length:=by have:=bO List.length c;rw[List.length_take]at this;omega
  rw[fH,g]
  simp[hl,c]
theorem Gr.len{cx:Ctx}{h:H}{f:T}{i:Nat}{a:List T}(g:Gr h f i a)(b:H)(d:Ty)(j:ab)(c:d.u= .slice j):Cg cx b d f=some (.val (.int .i64 a.length) b):=by
 rcases g with⟨rfl,rfl⟩|⟨k,l,p,m,q,rfl,n,o⟩
 ·exact CW _ _ _ _ c
 ·rw[Ny _ _ _ _ _ _ _ c]
theorem Gr.NA{f:H}{k:T}{j:Nat}{b:List T}(o:Gr f k j b){te:Ty}(q:te.size=j){i:Nat}(g:i<b.length):∃a d l h c,dE k=some a/\kG f te k i=some (.val (.ptr a d i 0) f)/\f.get a=some ⟨j,d,l,h,false,c⟩/\c[i]? =some b[i]:=by
 rcases o with⟨rfl,rfl⟩|⟨a,d,l,h,c,rfl,m,p⟩
 ·simp at g
 ·refine⟨a,d,l,h,c,rfl,?_,m,?_⟩
  ·rw[NH,m];simp[g,q]
  ·have n:(c.take b.length)[i]? =b[i]? :=by rw[p]
   rw[bK,aq g,aB g]at n
   exact n
theorem Gr.pq{a:H}{d:T}{l:Nat}{h:Type}{f:h->T}{b:List h}(c:Gr a d l (b.map f))(j:∀g,vC a 11 (f g)=some (f g)):TI.pq a d=some (sl (b.map f)):=by
 have k:=c.iy
 rcases c with⟨rfl,i⟩|⟨m,n,r,o,s,rfl,p,q⟩
 ·rw[i];rfl
 ·rw[Em,uH,k,dD,A5 _ _ _ j];rfl
theorem Gr.cut{cx:Ctx}{b:H}{i:T}{h:Nat}{a:List T}(m:Gr b i h a){ty te:Ty}{f:ab}(r:ty.u= .slice f)(ht:cx.ty f=some te)(q:te.size=h){n:Nat}(c:n<=a.length)(p:0<a.length):
 ∃j,I6 cx b ty i none (some n) none=some (.val j b)/\Gr b j h (a.take n)/\dE j=dE i:=by
 rcases m with⟨rfl,rfl⟩|⟨d,g,s,l,t,rfl,k,o⟩
 ·simp at p
 ·refine⟨.arr d g 0 n false,I5 ty te f d g 0 a.length n false _ r ht k (by simp[q]) c,.inr ⟨d,g,s,l,t,by rw[List.length_take,cr c],k,?_⟩,rfl⟩
  rw[List.length_take,cr c,<-o,List.take_take,cr c]
def zQ(c:H)(h:T)(j:Nat)(g:List T)(k:T)(d:H):Prop:=∃a f l i,k= .arr a f 0 g.length false/\d.get a=some ⟨j,f,l,i,false,g⟩/\
 (dE h=some a\/(dE h=none/\a=c.size))/\(∀b,b≠a->b<c.size->d.get b=c.get b)/\gh c.size d
theorem zQ.gr{j:H}{l:T}{c:Nat}{a:List T}{d:T}{b:H}(f:zQ j l c a d b):Gr b d c a:=by
 obtain⟨g,h,m,i,rfl,k,_⟩:=f
 exact .inr ⟨g,h,m,i,a,rfl,k,aQ⟩
theorem zQ.set{i:H}{n:T}{d b c h:Nat}{f:Bool}{a:List T}{g:H}(p:zQ i n d a (.arr b c 0 a.length false) g)(l:g.get b=some ⟨d,c,h,f,false,a⟩)(m:Nat)(o:T):
 zQ i n d (a.set m o) (.arr b c 0 a.length false) (dI g b ⟨d,c,h+1,f,false,a.set m o⟩):=by
 obtain⟨u,v,y,w,j,x,r,s,t⟩:=p
 simp only[T.arr.injEq,and_true]at j
 obtain⟨rfl,rfl⟩:=j
 exact⟨b,c,h+1,f,by rw[List.length_set],by rw[dy l,aq rfl],r,λq k hl=>by rw[dy l,ao k];exact s q k hl,t.put _ _⟩
theorem Gr.app{cx:Ctx}{a:H}{j:T}{f:Nat}{d:List T}(E:Gr a j f d)(l:gh 0 a){r s m:ab}{A B g:Ty}(F:cx.ty r=some A)(G:A.u= .slice m)(I:cx.ty m=some g)(J:cx.ty s=some B)(K:B.u= .slice m)(y:g.size=f)(w:1<=g.bytes)
 {x:T} {xs:List T} (N:a.iy x=some xs) (q:∀e∈xs,e.cells.length=f) (M:xs≠ []) (p:(d.length+xs.length)*g.bytes<=70368744177664):
 ∃C v,iu cx a r s j x=some (.val C v)/\zQ a j f (d++xs) C v:=by
 have L:iu cx a r s j x=iV (a.append g.size g.bytes j xs):=by
  unfold iu oF mf
  rw[F,dD,J,dD]
  simp only[G,I,K,N,dD]
  rw[y,lA q,fO]
 rw[L,y]
 obtain⟨b,c,rfl⟩:∃b c,xs=b::c:=by cases xs with|nil=>exact absurd rfl M|cons b c=>exact⟨b,c,rfl⟩
 rcases E with⟨rfl,rfl⟩|⟨h,i,t,Q,O,rfl,k,z⟩
 ·refine⟨_,a.cons ⟨f,0,0,false,false,b::c⟩,?_,a.size,0,0,false,rfl,by simp,.inr ⟨rfl,rfl⟩,λD o _=>by rw[dH,ao o],(l.cons _).hp,(l.cons _).low,by simp⟩
  show iV (a.iA f g.bytes [] (b::c))=_
  rw[nW q w (by simpa using p)];rfl
 ·refine⟨.arr h (i+1) 0 (d++b::c).length false,dI a h ⟨f,i+1,t+1,false,false,d++b::c⟩,?_,h,i+1,t+1,false,rfl,by rw[dy k,aq rfl],.inl rfl,λD o _=>by rw[dy k,ao o],(l.put _ _).hp,(l.put _ _).low,by rw[fc];exact au _⟩
  show iV (a.lH f g.bytes h i d.length (b::c))=_
  have hl:d.length<=O.length:=by have:=bO List.length z;rw[List.length_take]at this;omega
  have:a.lH f g.bytes h i d.length (b::c)=some (.arr h (i+1) 0 (d++b::c).length false,dI a h ⟨f,i+1,t+1,false,false,d++b::c⟩):=by
   unfold H.lH
   rw[k]
   simp only[dD,mS,hl,aY,z,oO,iX,gD,lA q,uu k]
   simp at p
   simp[w,p,aP]
  rw[this];rfl
def Xt(b:H)(d:T)(h:Nat)(g:List T)(f:T)(c:H):Prop:=Gr c f h g/\(∀a,a<b.size->dE d≠some a->c.get a=b.get a)/\(∀a,dE f=some a->dE d=some a\/b.size<=a)/\gh b.size c
theorem zQ.xt{g:H}{k:T}{j:Nat}{f:List T}{l:T}{h:H}(d:zQ g k j f l h):Xt g k j f l h:=by
 have n:=d.gr
 obtain⟨m,r,u,e,rfl,s,a,o,p⟩:=d
 refine⟨n,λc b q=> ?_,λc b=> ?_,p⟩
 ·by_cases i:c=m
  ·subst i
   rcases a with a|⟨_,a⟩
   ·exact absurd a q
   ·omega
  ·exact o c i b
 ·simp only[yO,ar]at b;subst b
  exact a.imp id λt=>by omega
theorem Xt.refl{a:H}{b:T}{f:Nat}{c:List T}(g:Gr a b f c)(d:gh 0 a):Xt a b f c b a:=⟨g,λ_ _ _=>rfl,λ_ h=> .inl h,d.hp,d.low,au _⟩
theorem Xt.trans{f g h:H}{j l m:T}{d:Nat}{s vD:List T}(n:Xt f j d s l g)(o:Xt g l d vD m h):Xt f j d vD m h:=by
 obtain⟨_,a2,a3,a4⟩:=n
 obtain⟨p,q,r,b⟩:=o
 have:=a4.sz
 refine⟨p,λa c i=> ?_,λa c=> ?_,b.hp,b.low,aS a4.sz b.sz⟩
 ·rw[q a (by omega) (λk=>(a3 a k).elim i (λt=>by omega)),a2 a c i]
 ·rcases r a c with k|k
  ·exact a3 a k
  ·exact .inr (by omega)
theorem Xt.cons{c d:H}{g h:T}{f:Nat}{b:List T}(i:Xt c g f b h d)(a:iE):Xt c g f b h (d.cons a):=by
 obtain⟨a1,a2,a3,a4⟩:=i
 have:=a4.sz
 refine⟨a1.mono λo k=> ?_,λj l m=> ?_,a3,(a4.cons a).hp,(a4.cons a).low,(a4.cons a).sz⟩
 ·obtain⟨_,_,_,_,n,_⟩:=a1.box k;have:=H.dL n;rw[dH,ao (by omega)]
 ·rw[dH,ao (by omega)];exact a2 j l m
theorem vd{b:Nat}{d f:H}{l s:T}{y w F i:Nat}{C:Bool}{G:List T}{o:List T}(bi:gh 0 d)(X:∀a,Fp d b a->a<d.size)(p:d.get b=some ⟨w,0,F,C,false,[.agg o]⟩)(ap:o[i]? =some l)(an:y≠w)
 {W:List T} (ae:Gr d l y W) (Z:Xt d l y G s f):f.get b=d.get b/\∀h,h=(⟨w,0,F+1,C,false,[.agg (o.set i s)]⟩:iE)->
  Step b d (dI f b h)/\(∀a,Fp (dI f b h) b a->a<(dI f b h).size)/\Gr (dI f b h) s y G/\
   ∀t A vD,t∈o->Gr d t A vD->(∀a,dE l=some a->dE t≠some a)->A≠w->Gr (dI f b h) t A vD/\∀a,dE s=some a->dE t≠some a:=by
 have aA:=H.dL p
 have R:l∈o:=az ap
 obtain⟨J,E,U,Y⟩:=Z
 have M:∀a,dE l=some a->a≠b:=λa c k=>by
  subst k
  obtain⟨_,_,_,_,q,_⟩:=ae.box c
  rw[p]at q;simp at q;exact an q.1.symm
 have a7:Step b d f/\f.get b=d.get b/\(∀a,dE s=some a->a≠b/\(dE l=some a\/d.size<=a))/\(∀a,a≠b->dE l≠some a->a<d.size->f.get a=d.get a):=by
  have S:f.get b=d.get b:=E b aA λq=>M b q rfl
  refine⟨⟨Y,λn m x=>E n m λq=>x (.inr ⟨_,p,l,by simpa[d6,T.cells]using R,q⟩),λn m=>by rw[iH S]at m;exact .inl m⟩,S,λn m=>⟨?_,U n m⟩,λn _ m hl=>E n hl m⟩
  rcases U n m with q|q
  ·exact M n q
  ·omega
 obtain⟨v,I,B,aN⟩:=a7
 refine⟨I,λh aE=> ?_⟩
 have u:f.get b=some ⟨w,0,F,C,false,[.agg o]⟩:=I.trans p
 have Q:(dI f b h).get b=some h:=by rw[dy u,aq rfl]
 have L:∀g∈d6 h.dO,g∈o\/g=s:=by
  intro g j
  subst aE
  simp only[d6,aO,cg,bL,T.cells]at j
  exact cE j
 have O:∀g∈o,∀a,dE g=some a->Fp d b a:=λg j a c=> .inr ⟨_,p,g,by simpa[d6,T.cells]using j,c⟩
 have a6:Step b d (dI f b h):=by
  have V:gh 0 f:=⟨v.ok.hp,v.ok.low,aw _⟩
  refine⟨⟨(V.put b h).hp,(V.put b h).low,by rw[fc];exact v.ok.sz⟩,λa c x=> ?_,λa c=> ?_⟩
  ·rw[dy u,ao (λk=>x (.inl k))];exact v.get a c x
  ·rcases c with rfl|⟨z,r,g,j,c⟩
   ·exact .inl (.inl rfl)
   ·rw[Q]at r;simp only[ar]at r;subst r
    rcases L g j with j|rfl
    ·exact .inl (O g j a c)
    ·rcases(B a c).2 with q|q
     ·exact .inl (O l R a q)
     ·exact .inr (by omega)
 have av:∀a,dE s=some a->a<f.size:=λa c=>by obtain⟨_,_,_,_,q,_⟩:=J.box c;exact H.dL q
 refine⟨a6,λa c=> ?_,?_,λt A vD a8 D N al=>⟨?_,λa c k=> ?_⟩⟩
 ·rw[fc]
  rcases c with rfl|⟨z,r,g,j,c⟩
  ·exact H.dL u
  ·rw[Q]at r;simp only[ar]at r;subst r
   rcases L g j with j|rfl
   ·have:=X a (.inr ⟨_,p,g,by simpa[d6,T.cells]using j,c⟩)
    have:d.size<=f.size:=v.ok.sz
    omega
   ·exact av a c
 ·exact J.mono λa c=>by rw[dy u,ao (B a c).1]
 ·refine D.mono λa c=> ?_
  obtain⟨_,_,_,_,q,_⟩:=D.box c
  have K:a≠b:=λk=>by subst k;rw[p]at q;simp at q;exact al q.1.symm
  rw[dy u,ao K]
  exact aN a K (λk=>N a k c) (H.dL q)
 ·rcases(B a c).2 with q|q
  ·exact N a q k
  ·obtain⟨_,_,_,_,aX,_⟩:=D.box k
   have:=H.dL aX
   omega
section
variable {P:ai}{cx:Ctx}{tb:eG}{mask:Nat}
theorem aal{f:aj}{a:kw}{d:List T}{g:H}{l:af Oper}{j:aa Tmp}{k:List Oper}{n m:eZ}{i:gU}(o:a.Ok P cx f)(ht:tb.h f=some a)(p:a.pre d g)
 (r:∀c b,a.post d g c b->XK (some (c,b)) cx (p9 P cx tb) mask l j k n m i):XK (hl P cx tb f d g) cx (p9 P cx tb) mask l j k n m i:=by
 obtain⟨c,b,e,q⟩:=Js ht o p
 rw[e];exact r c b q
theorem VL{g:aj}{b:kw}{f:List T}{a:H}{q:af Oper}{j:List (Nat×Nat)}{k:aa Tmp}{p:Op}{n:List Oper}{m:Nat}{o:List (Nat×Nat)}{l:List (Nat×H×H)}{s r:eZ}{i:gU}(t:b.Ok P cx g)(ht:tb.h g=some b)(u:b.pre f a)
 (w:∀d c,b.post f a d c->Lv (some (d,c)) cx (p9 P cx tb) mask q j k p n m o l s r a i):Lv (hl P cx tb g f a) cx (p9 P cx tb) mask q j k p n m o l s r a i:=by
 obtain⟨d,c,e,v⟩:=Js ht t u
 rw[e];exact w d c v
theorem hlB{c:aj}{d:kw}(m:d.Ok P cx c)(n:∀b a g f,d.post b a g f->f=a/\Hc g):∃k:List T->H->Bool,∀{tb:eG},tb.h c=some d->∀b a,d.pre b a->hl P cx tb c b a=some (.bool (k b a),a):=by
 let i:eG:=⟨λ_=>none,λ_=>some d⟩
 refine⟨λb a=>match hl P cx i c b a with|some (.bool j,_)=>j|_=>false,λ{tb} ht b a o=> ?_⟩
 have l:hl P cx tb c b a=hl P cx i c b a:=by unfold hl;rw[ht]
 obtain⟨g,f,e,p⟩:=Js (tb:=i) rfl m o
 obtain⟨rfl,j,rfl⟩:=n _ _ _ _ p
 rw[l]
 simp only[e]
theorem hlI{c:aj}{d:kw}(m:d.Ok P cx c)(n:∀b a g f,d.post b a g f->f=a/\CZ g):∃k:List T->H->Int,∀{tb:eG},tb.h c=some d->∀b a,d.pre b a->hl P cx tb c b a=some (.int .i64 (k b a),a):=by
 let i:eG:=⟨λ_=>none,λ_=>some d⟩
 refine⟨λb a=>match hl P cx i c b a with|some (.int _ j,_)=>j|_=>0,λ{tb} ht b a o=> ?_⟩
 have l:hl P cx tb c b a=hl P cx i c b a:=by unfold hl;rw[ht]
 obtain⟨g,f,e,p⟩:=Js (tb:=i) rfl m o
 obtain⟨rfl,j,rfl⟩:=n _ _ _ _ p
 rw[l]
 simp only[e]
end
def kV(b a:H):H:=⟨a.size,if a.low<b.low then a.low else b.low,a.ec⟩
theorem fj(c b:H)(a:Nat):(kV c b).get a=b.get a:=H.qk b _ a
@[simp] theorem u7 (b a:H):(kV b a).size=a.size:=id rfl
theorem gh.out{c:Nat}{b:H}(a:gh c b)(h:H):gh c (kV h b):=⟨a.hp,by have:=a.low;unfold kV;simp only;split<;>omega,a.sz⟩
theorem Step.out{c:Nat}{h a:H}(b:Step c (TI.hr h) a):Step c h (kV h a):=b.hr.I9 (fj h a) rfl ⟨(b.ok.out h).hp,(b.ok.out h).low,aw _⟩
theorem Gr.out{a:H}{d:T}{c:Nat}{b:List T}(g:Gr a d c b)(h:H):Gr (kV h a) d c b:=g.mono λf _=>fj h a f
def jM(ι:Type)(pre:ι->List T->H->Prop)(post:ι->List T->H->T->H->Prop):kw:=⟨λa b=>∃c,pre c a b,λa b f d=>∀c,pre c a b->post c a b f d⟩
section
variable {P:ai}{cx:Ctx}{mask:Nat}{ι:Type}{pre:ι->List T->H->Prop}{post:ι->List T->H->T->H->Prop}
theorem iU{tb:eG}(I:P.follows .mixedOrders=true)(iB:iG P cx){s:aj}{d:Func}{r:DL}(k:ER P cx s d mask r)(l:List T->H->Nat)(J:∀c p a,pre c p a->p.length<=d.ntmps)
 (O:∀c b a,pre c b a->∀y,mO y 0 b->W (iZ cx (p9 P cx tb) (l b a) mask r (d.body.getD .skip) ⟨y,.nil⟩ (hr a)) (zv cx mask d.results.toList λn C=>post c b a (hU n) (kV a C))):(jM ι pre post).Ok P cx s:=by
 intro b a ⟨R,K⟩
 have w:∀c,pre c b a->∃i h,rG cx (p9 P cx tb) (l b a) d mask true b a=some (i,h)/\post c b a i h:=by
  intro c j
  obtain⟨x,N,_,E⟩:=lJ mask d.ntmps 0 b (J c b a j)
  obtain⟨V,e,t,g,Q,n,L,m⟩:=BX (O c b a j x E)
  have g:=pi _ k.dr _ _ _ g
  obtain⟨A,f⟩:=xQ k.ok
  rw[f]at g
  refine⟨_,_,?_,m⟩
  unfold rG
  rw[f]
  obtain⟨o,v,q⟩:=a
  simp only
  rw[N,dD]
  have g:jy cx (p9 P cx tb) (l b ⟨o,v,q⟩) mask A ⟨x,.nil⟩ ⟨o,o,q⟩=some (V,e,t):=g
  rw[g,dD,km]
  have M:=nI L
  have G:=uC v (hU n) t
  rcases Q with rfl|rfl<;>(simp only;rw[M,dD];exact G)
 obtain⟨i,h,u,_⟩:=w R K
 refine⟨i,h,λc j=> ?_,λz U X B S D=>ou (F:=⟨d,mask,true,none⟩) I iB k.at_ k.ok _ (BJ P cx tb) (l b a) b a i h u z U X B S D⟩
 obtain⟨Z,Y,f,m⟩:=w c j
 rw[u]at f
 simp only[ar,ax]at f
 rw[f.1,f.2];exact m
theorem gd{tb:eG}{f:aj}{d:List T}{g:H}{m:af Oper}{j:aa Tmp}{l:List Oper}{o n:eZ}{i:gU}(p:(jM ι pre post).Ok P cx f)(ht:tb.h f=some (jM ι pre post))(b:ι)(k:pre b d g)
 (r:∀c a,post b d g c a->XK (some (c,a)) cx (p9 P cx tb) mask m j l o n i):XK (hl P cx tb f d g) cx (p9 P cx tb) mask m j l o n i:=
 aal p ht ⟨b,k⟩ λc a q=>r c a (q b k)
theorem kA{tb:eG}{g:aj}{f:List T}{a:H}{r:af Oper}{j:List (Nat×Nat)}{k:aa Tmp}{q:Op}{o:List Oper}{n:Nat}{p:List (Nat×Nat)}{l:List (Nat×H×H)}{t s:eZ}{i:gU}(u:(jM ι pre post).Ok P cx g)(ht:tb.h g=some (jM ι pre post))(c:ι)(m:pre c f a)
 (w:∀d b,post c f a d b->Lv (some (d,b)) cx (p9 P cx tb) mask r j k q o n p l t s a i):Lv (hl P cx tb g f a) cx (p9 P cx tb) mask r j k q o n p l t s a i:=
 VL u ht ⟨c,m⟩ λd b v=>w d b (v c m)
theorem tX(g:ι->Nat){f:aj}(step:∀b,(jM ι (λa d c=>pre a d c/\g a<b) post).Ok P cx f->(jM ι (λa d c=>pre a d c/\g a<b+1) post).Ok P cx f)(b:Nat):(jM ι (λa d c=>pre a d c/\g a<b) post).Ok P cx f:=by
 induction b with
 |zero=>intro j c ⟨a,_,h⟩;exact absurd h (Nat.not_lt_zero _)
 |succ b i=>exact step b i
end
theorem DD{f l r:Nat}{o:Bool}{d:H}{m cells':List T}(z:gh 0 d)(u:∀b,Fp d f b->b<d.size)(g:d.get f=some ⟨l,0,r,o,false,[.agg m]⟩)(w:∀a∈cells',a∈m\/dE a=none\/∃q∈m,dE a=dE q):
 ∀h,h=(⟨l,0,r+1,o,false,[.agg cells']⟩:iE)->Step f d (dI d f h)/\(∀b,Fp (dI d f h) f b->b<(dI d f h).size)/\(dI d f h).get f=some h/\∀a j n,Gr d a j n->j≠l->Gr (dI d f h) a j n:=by
 rintro h rfl
 have t:∀a∈cells',∀b,dE a=some b->Fp d f b:=λa i b c=>by
  rcases w a i with k|k|⟨q,y,k⟩
  ·exact .inr ⟨_,g,a,by simpa[d6,T.cells]using k,c⟩
  ·rw[k]at c;simp at c
  ·exact .inr ⟨_,g,q,by simpa[d6,T.cells]using y,by rw[<-k];exact c⟩
 have A:=Step.put z g ⟨l,0,r+1,o,false,[.agg cells']⟩ (λa i b c=> .inl (t a (by simpa[d6,T.cells]using i) b c))
 refine⟨A,λb c=> ?_,by rw[dy g,aq rfl],λa j n s x=>s.mono λb v=> ?_⟩
 ·rw[fc]
  rcases c with rfl|⟨B,p,a,i,c⟩
  ·exact H.dL g
  ·rw[dy g,aq rfl]at p
   simp only[ar]at p;subst p
   exact u b (t a (by simpa[d6,T.cells]using i) b c)
 ·obtain⟨_,_,_,_,c,_⟩:=s.box v
  rw[dy g,ao (λk=>by subst k;rw[g]at c;simp at c;exact x c.1.symm)]
def Xd(c:H)(d:Nat)(a:T×aa (Nat×List T)):Prop:=match a.2 with
 |none=>dE a.1=none
 |some b=>Gr c a.1 b.1 b.2/\b.1≠d
structure qY(h:H)(w szw ver:Nat)(F:List (T×aa (Nat×List T))):Prop where
 ok:gh 0 h
 get:h.get w=some ⟨szw,0,ver,true,false,[.agg (F.map (·.1))]⟩
 ZQ:∀f∈F,Xd h szw f
 dis:∀(j k:Nat),j≠k->∀a b,F[j]? =some a->F[k]? =some b->∀c,dE a.1=some c->dE b.1≠some c
theorem qY.lt{a:H}{b f g:Nat}{c:List (T×aa (Nat×List T))}(d:qY a b f g c):b<a.size:=H.dL d.get
theorem qY.fp{b:H}{h m n:Nat}{i:List (T×aa (Nat×List T))}(f:qY b h m n i):∀a,Fp b h a->a<b.size:=by
 rintro a (rfl|⟨p,d,o,g,c⟩)
 ·exact f.lt
 rw[f.get]at d;simp only[ar]at d;subst d
 simp only[d6,aO,cg,bL,T.cells]at g
 obtain⟨j,k,rfl⟩:=List.mem_map.1 g
 have:=f.ZQ j k
 unfold Xd at this
 split at this
 ·rw[this]at c;simp at c
 ·obtain⟨_,_,_,_,l,_⟩:=this.1.box c;exact H.dL l
theorem qY.gr{c:H}{l j k:Nat}{a:List (T×aa (Nat×List T))}(i:qY c l j k a){f:T}{d:Nat}{b:List T}(h:Nat)(g:a[h]? =some (f,some (d,b))):Gr c f d b:=(i.ZQ _ (az g)).1
theorem qY.Ij{c:H}{d j k:Nat}{a:List (T×aa (Nat×List T))}(i:qY c d j k a){f:T×aa (Nat×List T)}(h:f∈a){b:Nat}(g:dE f.1=some b):Fp c d b:= .inr ⟨_,i.get,f.1,by simp only[d6,aO,cg,bL,T.cells];exact List.mem_map_of_mem h,g⟩
theorem qY.step{d f:H}{c j k:Nat}{g:List (T×aa (Nat×List T))}(b:qY d c j k g)(n:gh 0 f)(i:∀a,Fp d c a->f.get a=d.get a):qY f c j k g:=by
 refine⟨n,by rw[i c (.inl rfl)];exact b.get,λl h=> ?_,b.dis⟩
 have:=b.ZQ l h
 unfold Xd at this|-
 split at this
 ·exact this
 ·exact⟨this.1.mono λa m=>i a (b.Ij h m),this.2⟩
theorem qY.cons{c:H}{w d f:Nat}{b:List (T×aa (Nat×List T))}(a:qY c w d f b)(g:iE):qY (c.cons g) w d f b:=a.step (a.ok.cons g) λh i=>by rw[dH,ao (by have:=a.fp h i;omega)]
theorem qY.uf{b:H}{c h i:Nat}{d:List (T×aa (Nat×List T))}(f:qY b c h i d){a:Nat}{m:iE}(g:Lb c b a m)(j:iE):qY (dI b a j) c h i d:=f.step (f.ok.put a j) λn k=>by rw[dy g.get,ao (λl=>g.nf (by rw[<-l];exact k))]
theorem qY.acY{t i:H}{f j q o:Nat}{k:List (T×aa (Nat×List T))}(v:qY t f j q k)(l:T×aa (Nat×List T)){m:iE}(D:m=⟨j,0,q+1,true,false,[.agg ((k.set o l).map (·.1))]⟩)(B:i.get f=t.get f)(E:gh 0 i)
 (A:Xd (dI i f m) j l) (n:∀(d:Nat) h,d≠o->k[d]? =some h->Xd (dI i f m) j h/\(∀g,dE l.1=some g->dE h.1≠some g)):qY (dI i f m) f j (q+1) (k.set o l):=by
 have C:=B.trans v.get
 refine⟨E.put _ _,by rw[dy C,aq rfl,D],λh z=> ?_,λd w u r s b a g=> ?_⟩
 ·obtain⟨d,c⟩:=cT z
  rw[cm]at c
  split at c
  ·split at c
   ·simp only[ar]at c;subst c;exact A
   ·simp at c
  ·exact(n d h (by omega) c).1
 ·rw[cm]at b a
  split at b
  ·rename_i p;subst p
   split at b
   ·simp only[ar]at b;subst b
    rw[ao (by omega)]at a
    exact(n w s (br u) a).2 g
   ·simp at b
  ·split at a
   ·split at a
    ·simp only[ar]at a;subst a
     rename_i p _;subst p
     exact λx y=>(n d r (by omega) b).2 g y x
    ·simp at a
   ·exact v.dis d w u r s b a g
theorem qY.app{j d:H}{c l m k:Nat}{b:List (T×aa (Nat×List T))}(a:qY j c l m b){s t:T}{G o:List T}(g:Nat)(q:b[g]? =some (s,some (k,G)))(v:Xt j s k o t d):
 d.get c=some ⟨l,0,m,true,false,[.agg (b.map (·.1))]⟩/\dY j d c=true/\∀h,h=(⟨l,0,m+1,true,false,[.agg ((b.set g (t,some (k,o))).map (·.1))]⟩:iE)->Step c j (dI d c h)/\qY (dI d c h) c l (m+1) (b.set g (t,some (k,o))):=by
 have p:=a.ZQ _ (az q)
 have L:(b.map (·.1))[g]? =some s:=by rw[aT,q];rfl
 obtain⟨r,S⟩:=vd a.ok a.fp a.get L p.2 p.1 v
 refine⟨r.trans a.get,ee r,λh z=> ?_⟩
 obtain⟨U,i,J,Q⟩:=S h (by rw[z,bV])
 have R:gh 0 d:=by obtain⟨_,_,_,A⟩:=v;exact⟨A.hp,A.low,aw _⟩
 refine⟨U,a.acY _ z r R ⟨J,p.2⟩ λO i N w=> ?_⟩
 have y:=az w
 have f:=a.ZQ i y
 have M:i.1∈b.map (·.1):=List.mem_map_of_mem y
 obtain⟨u,I⟩:=i
 cases I with
 |none=>exact⟨f,λV _ C=>by rw[show dE u=none from f]at C;simp at C⟩
 |some B=>
  obtain⟨E,F⟩:=Q u B.1 B.2 M f.1 (λD K=>a.dis g O (br N) _ _ q w D K) f.2
  exact⟨⟨E,f.2⟩,F⟩
theorem Gr.fz{b:H}{f:T}{k:Nat}{h:Type}{a:h->T}{c:List h}(d:Gr b f k (c.map a))(j:∀g,vC b 11 (a g)=some (a g)):TI.fz b f=some (sl (c.map a)):=by
 have:=d.pq j
 rcases d with⟨rfl,i⟩|⟨l,m,q,n,r,rfl,o,p⟩
 ·rw[i];rfl
 ·rwa[Em]at this
theorem Xt.out{h b:H}{d f:T}{c:Nat}{a:List T}(g:Xt (TI.hr h) d c a f b):Xt h d c a f (kV h b):=by
 obtain⟨a1,a2,a3,a4⟩:=g
 exact⟨a1.out h,λi j k=>by rw[fj,a2 i j k,fU],a3,(a4.out h).hp,(a4.out h).low,a4.sz⟩
theorem Gr.nY{cx:Ctx}{b:H}{j:T}{a:Nat}{k:Type}{f:k->T}{h:List k}(s:Gr b j a (h.map f))(o:gh 0 b){i l:ab}{p d:Ty}(m:cx.ty i=some p)(n:p.u= .slice l)(t:cx.ty l=some d)(z:d.size=a)(v:1<=d.bytes)(w:∀x,Ez (f x)=a)(x:k)(y:(h.length+1)*d.bytes<=70368744177664):
 ∃g c,iu cx (b.cons ⟨a,0,0,true,false,[f x]⟩) i i j (.arr b.size 0 0 1 false)=some (.val g c)/\Xt b j a ((h++[x]).map f) g c:=by
 have q:=(Xt.refl s o).cons ⟨a,0,0,true,false,[f x]⟩
 obtain⟨g,c,e,r⟩:=Gr.app (cx:=cx) q.1 (o.cons _) (x:= .arr b.size 0 0 1 false) (xs:=[f x]) m n t m n z v (by rw[fH];simp) (by simpa using show(f x).cells.length=a from w x) (by simp) (by simpa using y)
 exact⟨g,c,e,by rw[List.map_append];exact q.trans r.xt⟩
end
noncomputable section
theorem qY.start{h:H}{w szw ver:Nat}{F:List (T×aa (Nat×List T))}(o:gh 0 h)(g:h.get w=some ⟨szw,0,ver,true,false,[.agg (F.map (·.1))]⟩)
 (f:∀a∈F,(a.2=none/\dE a.1=none)\/(a.1= .dq [] false/\∃e,a.2=some (e,[])/\e≠szw)):qY h w szw ver F/\∀c,Fp h w c->c=w:=by
 have i:∀a∈F,dE a.1=none:=λa h=>by
  rcases f a h with k|k
  ·exact k.2
  ·rw[k.1];rfl
 refine⟨⟨o,g,λa h=> ?_,λs k _ l c m r q b=>by rw[i l (az m)]at b;simp at b⟩,λc b=> ?_⟩
 ·obtain⟨p,t⟩:=a
  rcases f _ h with⟨rfl,k⟩|⟨rfl,e,rfl,k⟩
  ·exact k
  ·exact⟨Gr.nil _ _,k⟩
 ·rcases b with rfl|⟨u,d,p,j,b⟩
  ·rfl
  ·rw[g]at d;simp only[ar]at d;subst d
   simp only[d6,aO,cg,bL,T.cells]at j
   obtain⟨a,n,rfl⟩:=List.mem_map.1 j
   rw[i a n]at b;simp at b
theorem qY.other{b e:H}{d l m g:Nat}{i:List (T×aa (Nat×List T))}(h:qY b d l m i)(j:∀a,Fp b d a->¬Fp b g a)(f:Step g b e):qY e d l m i/\∀a,Fp e d a->¬Fp e g a:=by
 have k:∀a,Fp b d a->e.get a=b.get a:=λa c=>f.get a (h.fp a c) (j a c)
 refine⟨h.step ⟨f.ok.hp,f.ok.low,aw _⟩ k,λa c n=> ?_⟩
 rw[iH (k d (.inl rfl))]at c
 rcases f.fp a n with q|q
 ·exact j a c q
 ·have:=h.fp a c;omega
structure Sm(b:Nat)(h h':H):Prop where
 ok:gh 0 h'
 size:h'.size=h.size
 get:∀c,c≠b->h'.get c=h.get c
theorem Sm.refl{b:Nat}{a:H}(c:gh 0 a):Sm b a a:=⟨c,rfl,λ_ _=>rfl⟩
theorem Sm.put{a:Nat}{d b:H}(c:Sm a d b){x:iE}(h:b.get a=some x)(f:iE):Sm a d (dI b a f):=⟨c.ok.put a f,by rw[fc];exact c.size,λg e=>by rw[dy h,ao e];exact c.get g e⟩
theorem gG.ft{b c:H}{V V':Nat->Prop}{d:Nat}{e f:List T}(g:gG (FT b V d) e f)(h:∀a,V a->V' a/\c.get a=b.get a):gG (FT c V' d) e f:=g.imp λ_ _ i=>i.mono h
theorem Gr.Gl{a:H}{V:Nat->Prop}{g:T}{l d:Nat}{b c:List T}(f:Gr a g l b)(h:d<=11)(e:gG (FT a V d) b c):TI.fz a g=some (sl c):=by
 have j:eK (vC a 11) b=some c:=o6 (e.imp λ_ _ k=>(k.deep h).vC)
 have i:=f.iy
 rcases f with⟨rfl,rfl⟩|⟨m,n,r,o,s,rfl,p,q⟩
 ·cases e;rfl
 ·rw[uH,i,dD,j];rfl
end
end Go.TI
