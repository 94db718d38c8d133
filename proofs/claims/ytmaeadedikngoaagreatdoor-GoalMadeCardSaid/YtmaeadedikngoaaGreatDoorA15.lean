/- Texts TiCutI to TiCopy. -/
import Derived.Test.YtmaeadedikngoaaGreatDoorA14
set_option linter.unusedVariables false
set_option linter.unusedSimpArgs false
namespace Go.TI
noncomputable section
theorem gG.left{a f:Type}{b:a->f->Prop}{d:List a}{j:List f}(h:gG b d j){e:a}(c:e∈d):∃k,b e k:=by
 induction h with
 |nil=>simp at c
 |cons g _ i=>
  rcases List.mem_cons.1 c with rfl|q
  ·exact⟨_,g⟩
  ·exact i q
theorem FT.fzN{a:H}{z:Nat->Prop}{h:Nat}(E:∀c,z c->h<=c):∀{b:Nat} {j y:T},FT a z b j y->freeze a h b j=freeze a 0 b j:=by
 intro b
 induction b with
 |zero=>intro j y v;exact v.elim
 |succ b C=>
  intro j y v
  rcases v with⟨A,B,rfl⟩|⟨c,l,i,g,s,n,r,rfl,F,f,t,rfl⟩|⟨p,L,rfl,t,rfl⟩
  ·rw[rE a h b j A B,rE a 0 b j A B]
  ·have u:eK (freeze a h b) n=eK (freeze a 0 b) n:=my λk w=>by
    obtain⟨K,x⟩:=t.left w
    exact C x
   have D:∀q,freeze a q (b+1) (.arr c l i g s)=fy (Nat.ble q c) (dB (a.get c) λk=>iE.casesOn k λ_ m _ exact o e=>
    fy (Nat.beq m l) (Bool.casesOn o (dB (dB (je i e) λd=>takeN g d) λn=>dB (eK (freeze a q b) n) λr=>
     List.casesOn r (List.casesOn e (Bool.casesOn exact (some .fg) (some (.dq [] false))) λ_ _=>some .fg) λ_ _=>some (.dq r s)) none)):=λq=>rfl
   rw[D,D]
   have I:a.iy (.arr c l i g s)=dB (a.get c) λk=>iE.casesOn k λ_ m _ _ o e=>fy (Nat.beq m l) (Bool.casesOn o (dB (je i e) λd=>takeN g d) none):=rfl
   rw[I]at f
   rw[show Nat.ble h c=true from cj (E c F),show Nat.ble 0 c=true from cj (aw c)]
   show(dB (a.get c) _)=(dB (a.get c) _)
   cases G:a.get c with
   |none=>rfl
   |some k=>
    rw[G]at f
    obtain⟨N,m,O,M,o,e⟩:=k
    simp only[dD]at f|-
    cases J:Nat.beq m l with
    |false=>rfl
    |true=>
     rw[J]at f
     cases o with
     |true=>rfl
     |false=>
      have f:(dB (je i e) λd=>takeN g d)=some n:=f
      show(dB (dB (je i e) λd=>takeN g d) _)=(dB (dB (je i e) λd=>takeN g d) _)
      rw[f,dD,dD,u]
  ·have u:eK (freeze a h b) p=eK (freeze a 0 b) p:=my λk w=>by
    obtain⟨K,x⟩:=t.left w
    exact C x
   show(dB (eK (freeze a h b) p) _)=(dB (eK (freeze a 0 b) p) _)
   rw[u]
theorem FT.top{b:H}{q:Nat->Prop}{h f:Nat}(G:f<=11)(r:∀a,q a->h<=a){c e:List T}(s:gG (FT b q f) c e):∃i,jd b h (.agg c)=some i/\cn i= .agg e:=by
 have v:eK (iK b h) c=eK (iK b 0) c:=my λB y=>by
  obtain⟨I,t⟩:=s.left y
  have l:=(t.deep (show f<=12 by omega)).fzN r
  rcases(t.deep (show f<=12 by omega))with⟨m,n,rfl⟩|⟨a,j,p,o,k,D,E,rfl,x,F,w,rfl⟩|⟨c,e,rfl,w,rfl⟩
  ·cases B<;>first|exact l|(simp[jv]at m)
  ·have u:∀d,iK b d (.arr a j p o k)=(Bool.casesOn (Nat.ble d a) (some (.arr a j p o k)) (freeze b d 12 (.arr a j p o k)):aa T):=λd=>rfl
   rw[u,u,show Nat.ble h a=true from cj (r a x),show Nat.ble 0 a=true from cj (aw a),l]
  ·exact l
 have g:pq b (.agg c)=some (.agg e):=by
  rw[Qa,o6 (s.imp λC a d=>(d.deep (show f<=12 by omega)).fz)];rfl
 have g:(dB (dB (eK (iK b 0) c) λz=>some (T.agg z)) λA=>some (cn A))=some (.agg e):=g
 rw[<-v]at g
 obtain⟨i,m,n⟩:=dj.1 g
 simp only[ar]at n
 exact⟨i,m,n⟩
theorem Lb.j8{b:Nat}{c d:H}{a:Nat}{f:iE}(e:Lb b c a f)(h:d.get b=c.get b)(g:d.get a=c.get a):Lb b d a f:=⟨by rw[g];exact e.get,by rw[iH h];exact e.nf⟩
def xM(a b:H):H:=⟨a.size,(kV a b).low,(kV a b).ec.drop ((kV a b).size-a.size)⟩
@[simp] theorem WS (a b:H):(xM a b).size=a.size:=id rfl
theorem BH{h a:H}(d:Hp a)(e:h.size<=a.size){b:Nat}(c:b<h.size):(xM h a).get b=a.get b:=
 (Gi (h:=kV h a) (by unfold Hp at*;exact d) e c).trans (fj h a b)
theorem gh.cut{a b:H}(c:gh 0 a)(d:Hp b)(e:a.size<=b.size):gh 0 (xM a b):=
 ⟨by unfold Hp at*;unfold xM kV;simp;omega,by have:=c.low;unfold xM kV;simp only;split<;>omega,aw _⟩
def Lx(a:H)(f:T)(b:H)(post:T->H->Prop):Prop:=
 Hp b/\a.size<=b.size/\(∀c e,c<a.size->b.get c=some e->b.get c=a.get c\/∀g∈d6 e.dO,oP a.size g)/\∃d,jd b a.size f=some d/\post (cn d) (xM a b)
section
variable {P:ai}{cx:Ctx}{mask:Nat}{ι:Type}{pre:ι->List T->H->Prop}{post:ι->List T->H->T->H->Prop}
theorem IW{tb:eG}(S:P.follows .mixedOrders=true)(iB:iG P cx){m:aj}{g:Func}{t:DL}(j:ER P cx m g mask t)(k:List T->H->Nat)(U:∀d q a,pre d q a->q.length<=g.ntmps)
 (al:∀d b a,pre d b a->∀C,mO C 0 b->W (iZ cx (p9 P cx tb) (k b a) mask t (g.body.getD .skip) ⟨C,.nil⟩ (hr a)) (zv cx mask g.results.toList λo L=>Lx a (hU o) L (post d b a))):(jM ι pre post).Ok P cx m:=by
 intro b a ⟨ap,V⟩
 have A:∀d,pre d b a->∃h c,rG cx (p9 P cx tb) (k b a) g mask true b a=some (h,kV a c)/\Lx a h c (post d b a):=by
  intro d i
  obtain⟨B,ae,_,N⟩:=lJ mask g.ntmps 0 b (U d b a i)
  obtain⟨x,J,c,e,an,o,Y,X⟩:=BX (al d b a i B N)
  have e:=pi _ j.dr _ _ _ e
  obtain⟨G,f⟩:=xQ j.ok
  rw[f]at e
  refine⟨_,c,?_,X⟩
  unfold rG
  rw[f]
  obtain⟨p,z,r⟩:=a
  simp only
  rw[ae,dD]
  have e:jy cx (p9 P cx tb) (k b ⟨p,z,r⟩) mask G ⟨B,.nil⟩ ⟨p,p,r⟩=some (x,J,c):=e
  rw[e,dD,km]
  have Z:=nI Y
  have R:=uC z (hU o) c
  rcases an with rfl|rfl<;>(simp only;rw[Z,dD];exact R)
 obtain⟨h,c,u,av,aA,aE,aN,l,a6⟩:=A ap V
 have O:pJ P cx ⟨m,b,a,h,kV a c⟩:=λE w aX I s M=>ou (F:=⟨g,mask,true,none⟩) S iB j.at_ j.ok _ (BJ P cx tb) (k b a) b a h (kV a c) u E w aX I s M
 have Q:=Oa O (by unfold Hp at*;exact av) aA (λD y f v=>by rw[fj]at v|-;exact aE D y f v) (by rw[rP (fj a c)];exact l)
 refine⟨cn aN,xM a c,λd i=> ?_,Q⟩
 obtain⟨r2,n,f,p1,p2,p3,a7,p4,p5⟩:=A d i
 rw[u]at f
 simp only[ar,ax]at f
 obtain⟨rfl,e⟩:=f
 have K:jd c a.size h=jd n a.size h:=by rw[<-rP (fj a c),e,rP (fj a n)]
 rw[K,p4]at l
 simp only[ar]at l
 subst l
 have:xM a c=xM a n:=by unfold xM;rw[e]
 rw[this];exact p5
end
end
noncomputable section
@[simp] theorem X2 (a:H) (b:iE):(a.cons b).size=a.size+1:=id rfl
theorem gG.Nz{b h:Type}{c:b->h->Prop}{e:List b}{f:List h}(j:gG c e f){g:b}(d:g∈e):∃a∈f,c g a:=by
 induction j with
 |nil=>simp at d
 |cons i _ l=>
  rcases List.mem_cons.1 d with rfl|q
  ·exact⟨_,by simp,i⟩
  ·obtain⟨a,k,m⟩:=l q;exact⟨a,by simp[k],m⟩
section
variable {cx:Ctx}{cf:ir}{mask n:Nat}{dl:DL}
theorem aan{f:Out}{e:Env->H->Prop}{c:gU}(i:W f (wK e c))(j:∀a b,e a b->c.n a b):W f c:=by
 obtain⟨g,a,b,h,d⟩:=i
 refine⟨g,a,b,h,?_⟩
 cases g with
 |normal=>exact j a b d
 |exit k=>exact d
 |ret=>exact d
theorem ON{g:Out}{d:gU}(e:eZ->H->Prop)(i:W g (wK (λb a=>b.tmps= .nil/\e b.vars a) d))(j:∀c a,e c a->d.n ⟨c,.nil⟩ a):W g d:=
 aan i λb a ⟨h,f⟩=>by obtain⟨c,k⟩:=b;simp only at h f;subst h;exact j c a f
theorem m6{f:Bool}{g h:Code}{b:Env}{a:H}{d:gU}(c:eZ->H->Prop)(k:f=true->W (iZ cx cf n mask dl g b a) (wK (λb a=>b.tmps= .nil/\c b.vars a) d))(l:f=false->W (iZ cx cf n mask dl h b a) (wK (λb a=>b.tmps= .nil/\c b.vars a) d))
 (i:∀j a,c j a->d.n ⟨j,.nil⟩ a):CK (some (.bool f)) cx cf n mask dl g h b a d:=by
 refine dM (λe=> ?_) (λe=> ?_)
 ·exact ON c (k e) i
 ·exact ON c (l e) i
end
end
noncomputable section
@[simp] theorem aff (a:Nat):(a=a+1)=False:=by simp
@[simp] theorem afe (a:Nat):(a=a+1+1)=False:=by simp;omega
@[simp] theorem afd (a:Nat):(a=a+1+1+1)=False:=by simp;omega
@[simp] theorem afc (a:Nat):(a=a+1+1+1+1)=False:=by simp;omega
@[simp] theorem afb (a:Nat):(a=a+1+1+1+1+1)=False:=by simp;omega
theorem Bd{c:H}{b:T}{d:List T}(a:c.iy b=some d)(f:iE):(c.cons f).iy b=some d:=by
 cases b<;>first|exact a|(simp[H.iy]at a;done)|skip
 rename_i g h k j i
 rw[fH]at a|-
 obtain⟨l,e,_⟩:=dj.1 a
 rw[dH,ao (by have:=H.dL e;omega)];exact a
theorem kj{cx:Ctx}{a:H}{sz:Nat}(E:gh 0 a){g h f:ab}{m n b:Ty}(s:cx.ty g=some m)(t:m.u= .slice f)(v:cx.ty f=some b)(w:cx.ty h=some n)(y:n.u= .slice f)(j:b.size=sz)(A:1<=b.bytes)
 {x:T} {xs:List T} (D:a.iy x=some xs) (k:∀q∈xs,q.cells.length=sz) (C:xs.length*b.bytes<=70368744177664):
 ∃i d,iu cx (a.cons ⟨sz,0,0,true,false,[]⟩) g h (.arr a.size 0 0 0 false) x=some (.val (.arr a.size i 0 xs.length false) d)/\(∃F r,d.get a.size=some ⟨sz,i,F,r,false,xs⟩)/\d.size=a.size+1/\(∀c,c<a.size->d.get c=a.get c)/\gh 0 d:=by
 have z:iu cx (a.cons ⟨sz,0,0,true,false,[]⟩) g h (.arr a.size 0 0 0 false) x=iV ((a.cons ⟨sz,0,0,true,false,[]⟩).append b.size b.bytes (.arr a.size 0 0 0 false) xs):=by
  unfold iu oF mf
  rw[s,dD,w,dD]
  simp only[t,v,y,Bd D,dD]
  rw[j,lA k,fO]
 rw[z,j]
 have l:=E.cons ⟨sz,0,0,true,false,[]⟩
 have e:(a.cons ⟨sz,0,0,true,false,[]⟩).get a.size=some ⟨sz,0,0,true,false,[]⟩:=by simp
 cases xs with
 |nil=>exact⟨0,a.cons ⟨sz,0,0,true,false,[]⟩,rfl,⟨0,true,e⟩,rfl,λc B=>by rw[dH,ao (by omega)],l⟩
 |cons o p=>
  refine⟨1,dI (a.cons ⟨sz,0,0,true,false,[]⟩) a.size ⟨sz,1,1,false,false,o::p⟩,?_,⟨1,false,by rw[dy e,aq rfl]⟩,by rw[fc];rfl,λc B=>by rw[dy e,ao (by omega),dH,ao (by omega)],l.put _ _⟩
  show iV ((a.cons ⟨sz,0,0,true,false,[]⟩).lH sz b.bytes a.size 0 ([]:List T).length (o::p))=_
  rw[uO e k A (by simpa using C)];rfl
def nz(c:H)(d:Nat)(b:T)(a:List T):Prop:=b=sl a\/Gr c b d a
theorem nz.iy{b:H}{e:Nat}{c:T}{a:List T}(d:nz b e c a):b.iy c=some a:=by
 rcases d with rfl|g
 ·simp
 ·exact g.iy
theorem nz.mono{d h':H}{e:Nat}{b:T}{c:List T}(h:nz d e b c)(g:∀a,dE b=some a->h'.get a=d.get a):nz h' e b c:=h.imp id λf=>f.mono g
theorem nz.len{cx:Ctx}{h:H}{j:Nat}{f:T}{a:List T}(i:nz h j f a)(b:H)(d:Ty)(e:ab)(c:d.u= .slice e):Cg cx b d f=some (.val (.int .i64 a.length) b):=by
 rcases i with rfl|g
 ·cases a with
  |nil=>exact KX _ _ c
  |cons l k=>exact CW _ _ _ _ c
 ·exact g.len b d e c
theorem nz.fT{c:H}{e:Nat}{a:T}{b:List T}(d:nz c e a b):a.fT=true/\a.cells=[a]:=by
 rcases d with rfl|g
 ·cases b<;>exact⟨rfl,rfl⟩
 ·exact⟨g.fT,g.cells⟩
theorem nz.idx{c:H}{k:T}{a:List T}(r:nz c 1 k a){te:Ty}(f:te.size=1)(p:te.isAgg=false){i:Nat}{x:T}(b:a[i]? =some x)(d:x.cells=[x]):∃j,kG c te k i=some (.val j c)/\c.load te j=some x:=by
 have hr:jK te [x]=some x:=by unfold jK;rw[p];rfl
 have e:i<a.length:=by
  rcases aD i a.length with q|q
  ·exact q
  ·rw[aM q]at b;simp at b
 rcases r with rfl|g
 ·refine⟨.iT x.cells,?_,?_⟩
  ·cases a with
   |nil=>simp at b
   |cons l h=>rw[show sl (l::h)= .dq (l::h) false from rfl,K0,b];simp[d,f]
  ·rw[d];exact hr
 ·obtain⟨s,t,v,u,w,_,m,o,n⟩:=g.NA f e
  refine⟨_,m,?_⟩
  have:a[i]=x:=by rw[aB e]at b;simpa using b
  rw[Up,o]
  simp[n,this,d,hr]
theorem nz.ft{h:H}{V:Nat->Prop}{s d:Nat}{f:T}{b:List T}(r:nz h s f b)(e:∀a∈b,cn a=a/\jv a=true/\∀k,a≠ .agg k)(i:∀c,dE f=some c->V c):FT h V (d+2) f (sl b):=by
 rcases r with rfl|g
 ·exact pO _ _ _ λa o=>(e a o).1
 ·have j:=g.iy
  rcases g with⟨rfl,rfl⟩|⟨c,l,w,u,x,rfl,m,n⟩
  ·exact iL _ _ _ _
  ·refine .inr (.inl ⟨c,l,0,_,false,b,b,rfl,i c rfl,j,?_,rfl⟩)
   clear j i n m
   induction b with
   |nil=>exact .nil
   |cons a v q=>exact .cons (.inl ⟨(e a (by simp)).2.1,(e a (by simp)).2.2,(e a (by simp)).1.symm⟩) (q λt p=>e t (by simp[p]))
structure Nb(h h':H):Prop where
 ok:gh h.size h'
 get:∀c,c<h.size->h'.get c=h.get c
theorem Nb.refl{a:H}(b:gh 0 a):Nb a a:=⟨⟨b.hp,b.low,au _⟩,λ_ _=>rfl⟩
theorem Nb.trans{d e f:H}(b:Nb d e)(a:Nb e f):Nb d f:=⟨⟨a.ok.hp,a.ok.low,aS b.ok.sz a.ok.sz⟩,λc g=>(a.get c (bD g b.ok.sz)).trans (b.get c g)⟩
theorem Nb.cons{b c:H}(a:Nb b c)(d:iE):Nb b (c.cons d):=⟨a.ok.cons d,λe f=>by rw[dH,ao (by have:=a.ok.sz;omega)];exact a.get e f⟩
theorem Nb.put{b c:H}(d:Nb b c){a:Nat}{x:iE}(h:c.get a=some x)(i:b.size<=a)(e:iE):Nb b (dI c a e):=⟨d.ok.put a e,λf g=>by rw[dy h,ao (by omega)];exact d.get f g⟩
theorem Nb.step{c f:H}(b:Nb c f){d:Nat}(g:d<c.size):Step d c f:=⟨b.ok,λe a _=>b.get e a,λe a=>by rw[iH (b.get d g)]at a;exact .inl a⟩
theorem Nb.hr{a d:H}(b:Nb (TI.hr a) d):Nb a d:=⟨b.ok,λc e=>(b.get c e).trans (fU a c)⟩
theorem Nb.out{h b:H}(c:Nb (TI.hr h) b):Nb h (kV h b):=⟨c.ok.out h,λa d=>(fj h b a).trans ((c.get a d).trans (fU h a))⟩
theorem Gr.new{h:H}{b sz ep ver:Nat}{ex:Bool}{es:List T}(a:h.get b=some ⟨sz,ep,ver,ex,false,es⟩):Gr h (.arr b ep 0 es.length false) sz es:= .inr ⟨b,ep,ver,ex,es,rfl,a,aQ⟩
theorem qY.one{h:H}{w szw ver i0:Nat}{F:List (T×aa (Nat×List T))}(s:gh 0 h)(i:h.get w=some ⟨szw,0,ver,true,false,[.agg (F.map (·.1))]⟩)(o:∀a∈F,Xd h szw a)(f:∀(b:Nat) e,F[b]? =some e->dE e.1≠none->b=i0):
 qY h w szw ver F/\∀d,Fp h w d->d=w\/∃a,F[i0]? =some a/\dE a.1=some d:=by
 refine⟨⟨s,i,o,λb r q e l m n d t u=>q ((f b e m (by rw[t];simp)).trans (f r l n (by rw[u];simp)).symm)⟩,λd c=> ?_⟩
 rcases c with c|⟨x,g,v,k,c⟩
 ·exact .inl c
 ·rw[i]at g;simp only[ar]at g;subst g
  simp only[d6,aO,cg,bL,T.cells]at k
  obtain⟨a,p,rfl⟩:=List.mem_map.1 k
  obtain⟨b,j⟩:=cT p
  have:=f b a j (by rw[c];simp)
  subst this
  exact .inr ⟨a,j,c⟩
section
variable {cx:Ctx}{cf:ir}{mask:Nat}
@[simp low] theorem aaF (n:aa Nat) (l:T) (j:af Oper) (a:List (Nat×Nat)) (f:aa Tmp) (h:List Oper) (b:Nat) (i:List (Nat×Nat)) (c:List (Nat×H×H)) (m k:eZ) (g:H) (e:gU) (q:kM a b=false) (p:(c.all λd=> !yz a d.1 b)=true):DLK n l cx cf mask j a f h b i c m k g e=OY l cx cf mask j a f h (b+1) i c m k g e:=by
 cases n with
 |none=>rfl
 |some o=>
  have hl:lM a b o c=True:=by
   simp only[eq_iff_iff,iff_true]
   intro d s r
   have:=List.all_eq_true.1 p d s
   rw[r]at this;simp at this
  rw[OZ,hl,q,true_and];rfl
end
theorem Dk{a x:T}(c:∀b,a≠ .agg b):lr a 0 [x]=some x:=by
 cases a<;>first|rfl|exact absurd rfl (c _)
theorem nz.na{h:H}{sz:Nat}{b:T}{a:List T}(d:nz h sz b a):∀c,b≠ .agg c:=by
 rcases d with rfl|g
 ·cases a<;>simp[sl]
 ·rcases g with⟨rfl,_⟩|⟨e,f,j,i,k,rfl,_⟩<;>simp
theorem Gr.setAt{j h':H}{f:T}{k a l b s ver2:Nat}{n ex2:Bool}{i h:List T}(o:Gr j f k i)(d:dE f=some a)(q:j.get a=some ⟨l,b,s,n,false,h⟩)(e:Nat)(g:T)(r:h'.get a=some ⟨l,b,ver2,ex2,false,h.set e g⟩):Gr h' f k (i.set e g):=by
 rcases o with⟨rfl,_⟩|⟨m,t,v,u,w,rfl,c,p⟩
 ·simp at d
 ·simp only[yO,ar]at d;subst d
  rw[q]at c;simp only[ar,iE.mk.injEq]at c
  obtain⟨rfl,rfl,rfl,rfl,_,rfl⟩:=c
  exact .inr ⟨m,b,ver2,ex2,h.set e g,by rw[List.length_set],r,by rw[List.length_set,List.take_set,p]⟩
theorem gG.set{d e:Type}{f c:d->e->Prop}{i:List d}{j:List e}(b:gG f i j)(a:Nat){k:d}{l:e}(m:c k l)(h:∀b g,f b g->c b g):gG c (i.set a k) (j.set a l):=by
 induction b generalizing a with
 |nil=>exact .nil
 |cons o p n=>
  cases a with
  |zero=>exact .cons m (p.imp h)
  |succ a=>exact .cons (h _ _ o) (n a)
theorem gG.Ul{b c j:Type}{d:b->c->Prop}{e:b->j->Prop}{f:c->j}{h:List b}{i:List c}(a:gG d h i)(k:∀a g,d a g->e a (f g)):gG e h (i.map f):=by
 induction a with
 |nil=>exact .nil
 |cons m n l=>exact .cons (k _ _ m) l
theorem FT.tup{c:H}{f:Nat->Prop}{d h:Nat}(l:h<=11)(k:∀a,f a->d<=a){b g:List T}(m:gG (FT c f h) b g)(a:Bool):∃i,jd c d (.tuple [.agg b,.bool a])=some i/\cn i= .tuple [.agg g,.bool a]:=by
 obtain⟨r0,e,j⟩:=FT.top l k m
 refine⟨.tuple [r0,.bool a],?_,?_⟩
 ·have e:jP c d (.agg b)=some r0:=e
  show(dB (eK (jP c d) [.agg b,.bool a]) λn=>some (T.tuple n))=_
  rw[jc,e];rfl
 ·rw[sX];simp[j]
theorem Gr.ft{c:H}{V:Nat->Prop}{e:T}{m d:Nat}{a b:List T}(i:Gr c e m a)(k:∀h,dE e=some h->V h)(f:gG (FT c V d) a b):FT c V (d+1) e (sl b):=by
 have l:=i.iy
 rcases i with⟨rfl,rfl⟩|⟨g,j,q,n,r,rfl,o,p⟩
 ·cases f;exact iL _ _ _ _
 ·exact .inr (.inl ⟨g,j,0,_,false,a,b,rfl,k g rfl,l,f,rfl⟩)
theorem Gr.at{j:H}{m x:T}{l i:Nat}{a:List T}(n:Gr j m l a)(g:a[i]? =some x):∃c d h e b,m= .arr c d 0 a.length false/\j.get c=some ⟨l,d,h,e,false,b⟩/\b[i]? =some x/\i<a.length:=by
 have f:i<a.length:=by
  rcases aD i a.length with k|k
  ·exact k
  ·rw[aM k]at g;simp at g
 rcases n with⟨rfl,rfl⟩|⟨c,d,h,e,b,rfl,o,p⟩
 ·simp at f
 ·refine⟨c,d,h,e,b,rfl,o,?_,f⟩
  have:(b.take a.length)[i]? =a[i]? :=by rw[p]
  rw[bK,aq f,g]at this;exact this
theorem nz.pq{h:H}{l:Nat}{e:Type}{f:e->T}{d:T}{c:List e}(k:nz h l d (c.map f))(i:∀a,cn (f a)=f a)(j:∀a,vC h 11 (f a)=some (f a)):TI.pq h d=some (sl (c.map f)):=by
 rcases k with rfl|g
 ·cases c with
  |nil=>rfl
  |cons a b=>
   show TI.pq h (.dq (f a::b.map f) false)=_
   have:=Jv (h:=h) (f a::b.map f) false
   rw[show(f a::b.map f).map cn=f a::b.map f from by simp[i]]at this
   exact this
 ·exact g.pq j
theorem mg{b:H}{a c:Nat}{f:iE}(e:b.get a=some f)(d:c≠a)(g:iE):dY b (dI b a g) c=true:=ee (by rw[dy e,ao d])
theorem ph{b:H}{c:Nat}(f:Hp b)(e:c<b.size)(d:iE)(a:Nat):(dI b c d).get a=if a=c then some d else b.get a:=get_put f e d a
@[simp] theorem afi (a:Nat):(a<a+1+1)=True:=by simp;omega
@[simp] theorem afh (a:Nat):(a<a+1+1+1)=True:=by simp;omega
@[simp] theorem afg (a:Nat):(a<a+1+1+1+1)=True:=by simp;omega
@[simp high] theorem ael {e:ai} {cx:Ctx} (d:eG) (b:aj) (a:List T) (c:H) (f:d.p b=none):p9 e cx d b a c=hl e cx d b a c:=by
 unfold p9
 cases Ox c a with
 |none=>rfl
 |some g=>simp only[zW f]
theorem jq{b c:H}{a:Nat}(d:b.get a=none):dY b c a=true:=by unfold dY;rw[d]
theorem mZ(b:H){a:Nat}(d:b.size<=a):b.get a=none:=by
 cases c:b.get a with
 |none=>rfl
 |some e=>have:=H.dL c;omega
theorem Gr.uP{cx:Ctx}{a:H}{h:T}{b:Nat}{f:List T}(q:Gr a h b f)(l:gh 0 a){g i:ab}{m d:Ty}(j:cx.ty g=some m)(k:m.u= .slice i)(r:cx.ty i=some d)(v:d.size=b)(s:1<=d.bytes){x:T}(w:x.cells.length=b)(t:(f.length+1)*d.bytes<=70368744177664):
 ∃e c,iu cx (a.cons ⟨b,0,0,true,false,[x]⟩) g g h (.arr a.size 0 0 1 false)=some (.val e c)/\Xt a h b (f++[x]) e c:=by
 have n:=(Xt.refl q l).cons ⟨b,0,0,true,false,[x]⟩
 obtain⟨e,c,p,o⟩:=Gr.app (cx:=cx) n.1 (l.cons _) (x:= .arr a.size 0 0 1 false) (xs:=[x]) j k r j k v s (by rw[fH];simp) (by simpa using w) (by simp) (by simpa using t)
 exact⟨e,c,p,n.trans o.xt⟩
end
end Go.TI
