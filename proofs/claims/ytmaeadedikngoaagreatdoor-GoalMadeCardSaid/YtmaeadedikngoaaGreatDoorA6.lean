/- Texts TiDraw3 to TiCall. -/
import Derived.Test.YtmaeadedikngoaaGreatDoorA5
set_option linter.unusedVariables false
set_option linter.unusedSimpArgs false
namespace Go.TI
noncomputable section
structure Dr(P:ai)(cx:Ctx)(cf:ir)(base mask m:Nat)(ops:af Oper)(E:Nat->Env)(Hs:Nat->H)(ws:World)(mX:Mu):Prop where
 iB:iG P cx
 ck:mN P cx cf
 dst:Dg m ops
 tr:Trace cx cf mask ops E Hs
 qp:St cx base ws.heap mX (Hs 0)
 CD:∀i j oi oj,ops[i]? =some oi->ops[j]? =some oj->i<j->(oi.apart ops oj=true/\(fZ oi.op=true->fZ oj.op=true->nR oi.op=true/\nR oj.op=true))\/jg ops i j=true
 back:∀j o,ops[j]? =some o->∀e∈o.after,Region.binds .any e=true->e.on<j
 adD:∀k,k<=ops.size->∀s v,(E k).get mask s=some v->oP (Hs k).size v
 YZ:∀k,k<=ops.size->∀b x,(mX b≠none\/(Hs 0).size<=b)->(Hs k).get b=some x->∀v∈d6 x.dO,oP (Hs k).size v
 grow:∀k,k<ops.size->kv (Hs k) (Hs (k+1))
 wf:∀k,k<=ops.size->(Hs k).ec.length=(Hs k).size
structure Inv(cx:Ctx)(base mask m:Nat)(ops:af Oper)(E:Nat->Env)(Hs:Nat->H)(ws:World)(mX:Mu)(listed:af Bool)(a:Act)(w:World)(μ:Mu)(q:Nat->Nat):Prop where
 cl:Cl ops listed
 size:a.tmps.size=m
 K9:a.defers=[]
 Hb:∀b,q b<=ops.size
 kt:∀k b,oa mask ops E k->b<(Hs k).size->dY (Hs k) (Hs (k+1)) b=false->(listed.getD k false=true↔k<q b)
 st:St cx base w.heap μ (PH Hs ops.size q)
 LP:∀s v,(E (qX ops listed s ops.size)).get mask s=some v->eg w.heap μ v (a.tmps.getD s Go.undef)
 Qk:∀b,μ b≠none↔(mX b≠none\/((Hs 0).size<=b/\b<(Hs ops.size).size/\listed.getD (sZ Hs b ops.size-1) false=true))
 ext:oI ws mX w μ
section
variable {P:ai}{cx:Ctx}{cf:ir}{base mask m:Nat}{ops:af Oper}{E:Nat->Env}{Hs:Nat->H}{ws w:World}{mX μ:Mu}{listed:af Bool}{a:Act}{q:Nat->Nat}
theorem Dr.mono(c:Dr P cx cf base mask m ops E Hs ws mX):∀b,b<ops.size->(Hs b).size<=(Hs (b+1)).size:=λb d=>(c.grow b d).size
theorem Dr.lt0(c:Dr P cx cf base mask m ops E Hs ws mX){b:Nat}(e:mX b≠none):b<(Hs 0).size:=by
 obtain⟨f,d⟩:=Option.ne_none_iff_exists'.1 e
 exact c.qp.dL d
theorem Dr.still(g:Dr P cx cf base mask m ops E Hs ws mX){b d:Nat}(i:b<ops.size)(h:d<(Hs b).size)(k:¬oa mask ops E b):(Hs (b+1)).get d=(Hs b).get d:=by
 have f:ops[b]? =some ops[b]:=by simp[i]
 rcases mc (g.tr.step b _ f)with⟨_,_,c⟩|⟨l,s,n,_⟩
 ·rw[c]
 ·have e:fZ ops[b].op=false:=by
   cases c:fZ ops[b].op with
   |false=>rfl
   |true=>exact absurd ⟨_,f,c,l⟩ k
  rcases Fh (h2:=Hs b) e (λ_ _ _=>rfl) (Gq e n)with⟨c,_⟩|⟨r,p,_,_,_,c,_⟩
  ·rw[c]
  ·rw[c];exact H.mo h p
theorem Dr.ver(f:Dr P cx cf base mask m ops E Hs ws mX){b c:Nat}(k:b<ops.size)(i:c<(Hs b).size)(d:dY (Hs b) (Hs (b+1)) c=true):(Hs (b+1)).get c=(Hs b).get c:=by
 obtain⟨h,e⟩:=H.get_some (f.wf b (by omega)) i
 obtain⟨n,g,l⟩:=(f.grow b k).ver c h e
 rcases l with rfl|p
 ·rw[e,g]
 ·unfold dY at d
  rw[e,g]at d
  have d:Nat.beq h.ver n.ver=true:=d
  have:=aC d
  omega
theorem Dr.same(d:Dr P cx cf base mask m ops E Hs ws mX){b c:Nat}(g:b<ops.size)(e:c<(Hs b).size)(i:oa mask ops E b->dY (Hs b) (Hs (b+1)) c=false->False):(Hs (b+1)).get c=(Hs b).get c:=by
 by_cases f:oa mask ops E b
 ·cases h:dY (Hs b) (Hs (b+1)) c with
  |true=>exact d.ver g e h
  |false=>exact(i f h).elim
 ·exact d.still g e f
theorem Dr.vS(c:Dr P cx cf base mask m ops E Hs ws mX){b:Nat}(e:q b<=ops.size)(d:b<(Hs ops.size).size):(PH Hs ops.size q).get b=(Hs (max (q b) (sZ Hs b ops.size))).get b:=
 VE c.mono c.wf e d
theorem Inv.lt(f:Dr P cx cf base mask m ops E Hs ws mX)(c:Inv cx base mask m ops E Hs ws mX listed a w μ q){b:Nat}{d:Loc}(e:μ b=some d):b<(Hs ops.size).size:=c.st.dL e
variable {j:Nat}{o:Oper}
structure J5(ops:af Oper)(listed:af Bool)(j:Nat)(o:Oper):Prop where
 op:ops[j]? =some o
 lt:j<ops.size
 not:listed.getD j false=false
 before:∀i,jg ops i j=true->listed.getD i false=true
 behind:∀k,jg ops j k=true->listed.getD k false=false
 ZY:∀e∈o.after,Region.binds .any e=true->listed.getD e.on false=true
theorem Gj{listed:af Bool}{c:Nat}(b:listed.getD c true=false):listed.getD c false=false:=by
 rcases aD c listed.size with h'|h'
 ·simp[h']at b|-;exact b
 ·simp[cN h']at b
theorem rdy(c:Cl ops listed)(n:j∈Region.ready .any ops listed):∃o,J5 ops listed j o:=by
 obtain⟨e,o,d,f⟩:=mem_ready.1 n
 have r:j<ops.size:=(Array.getElem?_eq_some_iff.1 d).1
 refine⟨o,d,r,Gj e,λs l=>AT c l d f,λb p=> ?_,f⟩
 cases g:listed.getD b false with
 |false=>rfl
 |true=>
  have k:b<listed.size:=by
   rcases aD b listed.size with h|h
   ·exact h
   ·simp[cN h]at g
  have i:ops[b]? =some (ops[b]'(by rw[<-c.size];exact k)):=by
   have:b<ops.size:=by rw[<-c.size];exact k
   simp[this]
  have:=AT c p i (c.closed b _ i g)
  rw[Gj e]at this;simp at this
theorem Cl.set(b:Cl ops listed)(k:J5 ops listed j o):Cl ops (listed.setIfInBounds j true):=by
 refine⟨by simp[b.size],λh i g hl c e d=> ?_⟩
 by_cases f:j=h
 ·subst f
  have:i=o:=Option.some.inj (g.symm.trans k.op)
  subst this
  exact getD_set_true (k.ZY c e d)
 ·rw[getD_set_ne false f]at hl
  exact getD_set_true (b.closed h i g hl c e d)
theorem uq(b:Cl ops listed)(c:J5 ops listed j o):(listed.setIfInBounds j true).getD j false=true:=by
 have:j<listed.size:=by rw[b.size];exact c.lt
 simp[this]
theorem Inv.dt(r:Dr P cx cf base mask m ops E Hs ws mX)(O:Inv cx base mask m ops E Hs ws mX listed a w μ q)(f:J5 ops listed j o){s:Nat}(D:s∈o.looksAt ops):
 (E (qX ops listed s ops.size)).get mask s=(E j).get mask s:=by
 have I:∀b k,ops[b]? =some k->k.dst=some s->(b<j->listed.getD b false=true)/\(j<b->listed.getD b false=false):=by
  intro b k i u
  refine⟨λv=> ?_,λv=> ?_⟩
  ·rcases r.CD b j k o i f.op v with⟨t,_⟩|x
   ·exact absurd D ((Oper.apart_spec t).1 s u)
   ·exact f.before b x
  ·rcases r.CD j b o k f.op i v with⟨t,_⟩|x
   ·exact absurd D ((Oper.apart_spec t).2.2 s u)
   ·exact f.behind b x
 have S:qX ops listed s ops.size<=j:=by
  rcases xr (ops:=ops) (listed:=listed) (s:=s) ops.size with h|⟨b,R,K,l,z⟩
  ·omega
  ·have e:ops[b]? =some ops[b]:=by simp[K]
   rw[e]at z
   have y:=I b _ e z
   rcases cO b j with h|h|h
   ·omega
   ·subst h;rw[f.not]at l;simp at l
   ·rw[y.2 h]at l;simp at l
 have N:∀c,qX ops listed s ops.size+c<=j->(E (qX ops listed s ops.size+c)).get mask s=(E (qX ops listed s ops.size)).get mask s:=by
  intro c
  induction c with
  |zero=>intro _;rfl
  |succ c M=>
   intro u
   have i:qX ops listed s ops.size+c<ops.size:=by have:=f.lt;omega
   have e:ops[qX ops listed s ops.size+c]? =some ops[qX ops listed s ops.size+c]:=by simp[i]
   rw[<-M (by omega)]
   have C:ops[qX ops listed s ops.size+c].dst≠some s:=by
    intro A
    have y:=(I _ _ e A).1 (by omega)
    have:=H3 (n:=ops.size) i y (by rw[e];exact A)
    omega
   have F:∀p g,(E (qX ops listed s ops.size+c)).dst mask ops[qX ops listed s ops.size+c].dst p=some g->g.get mask s=(E (qX ops listed s ops.size+c)).get mask s:=by
    intro p g d
    cases B:ops[qX ops listed s ops.size+c].dst with
    |none=>rw[B]at d;have d:some _=some g:=d;simp only[ar]at d;rw[d]
    |some G=>
     rw[B]at d C
     have L:s≠G:=λJ=>C (by rw[J])
     rw[Env.Ae (show Env.set mask _ G p=some g from d) s,ao L]
   rcases mc (r.tr.step _ _ e)with⟨_,d,_⟩|⟨_,p,_,d⟩
   ·exact F _ _ d
   ·exact F _ _ d
 have:=N (j-qX ops listed s ops.size) (by omega)
 rw[show qX ops listed s ops.size+(j-qX ops listed s ops.size)=j by omega]at this
 exact this.symm
theorem Inv.LZ(d:Dr P cx cf base mask m ops E Hs ws mX)(c:Inv cx base mask m ops E Hs ws mX listed a w μ q)(f:J5 ops listed j o):jS w.heap μ mask (AK mask (E j) (o.looksAt ops)) a.tmps:=by
 intro g h b
 rw[xh]at b
 split at b
 ·rename_i e
  exact c.LP g h (by rw[c.dt d f e];exact b)
 ·simp at b
theorem Inv.AB(r:Dr P cx cf base mask m ops E Hs ws mX)(g:Inv cx base mask m ops E Hs ws mX listed a w μ q)(c:J5 ops listed j o){l:af Obj}{p:Mu}(K:Ext w.heap μ l p){n:T}{t:am}
 (I:eg l p n t) (z:(E j).dst mask o.dst n=some (E (j+1))):∀s f,(E (qX ops (listed.setIfInBounds j true) s ops.size)).get mask s=some f->eg l p f ((a.put o.dst t).tmps.getD s Go.undef):=by
 intro s f e
 by_cases d:o.dst=some s
 ·have k:qX ops (listed.setIfInBounds j true) s ops.size=j+1:=by
   have M:=H3 (ops:=ops) (s:=s) c.lt (uq g.cl c) (by rw[c.op];exact d)
   rcases xr (ops:=ops) (listed:=listed.setIfInBounds j true) (s:=s) ops.size with h|⟨b,L,A,i,u⟩
   ·omega
   ·rcases cO b j with h|h|h
    ·omega
    ·omega
    ·have x:ops[b]? =some ops[b]:=by simp[A]
     rw[x]at u
     rw[getD_set_ne false (by omega)]at i
     rcases r.CD j b o _ c.op x h with⟨B,_⟩|G
     ·exact absurd u ((Oper.apart_spec B).2.1 s d)
     ·rw[c.behind b G]at i;simp at i
  rw[k]at e
  rw[d]at z|-
  rw[Env.Ae (show Env.set mask _ s n=some _ from z) s]at e
  simp only[aY,ar]at e;subst e
  have D:s<a.tmps.size:=by rw[g.size];exact r.dst j o s c.op d
  simpa[Act.put,aW,D]using I
 ·have k:qX ops (listed.setIfInBounds j true) s ops.size=qX ops listed s ops.size:=by
   refine KT λb N v=> ?_
   have:j≠b:=by rintro rfl;rw[c.op]at v;exact d v
   exact getD_set_ne false this
  rw[k]at e
  have y:=(g.LP s f e).ext K
  cases C:o.dst with
  |none=>exact y
  |some J=>
   have F:J≠s:=by rintro rfl;exact d C
   simpa[Act.put,aW,Array.getElem?_setIfInBounds_ne F]using y
theorem Inv.looked(d:Dr P cx cf base mask m ops E Hs ws mX)(k:Inv cx base mask m ops E Hs ws mX listed a w μ q)(n:J5 ops listed j o)(y:fZ o.op=false)(J:jU ops mask (E j) o.guard=some true)
 {c:Nat} (B:fk cx mask (E j) (Hs j) o.op=some c) {f:Nat} (L:j<=f) (A:f<=ops.size) (x:c<(Hs f).size) (M:f=j\/f=j+1):
 (PH Hs ops.size q).get c=(Hs f).get c:=by
 have l:c<(Hs ops.size).size:=bD x (mv d.mono A (au _))
 rw[d.vS (k.Hb _) l]
 have K:sZ Hs c ops.size<=f:=(ku d.mono l A).1 x
 have v:wj cx mask ops E Hs j c:=⟨o,n.op,y,J,B⟩
 have z:¬oa mask ops E j:=by
  rintro⟨N,r,t,_⟩
  rw[n.op]at r;simp only[ar]at r;subst r
  rw[y]at t;simp at t
 rcases Nat.le_total (max (q c) (sZ Hs c ops.size)) f with G|C
 ·refine(li d.mono G λb D F=> ?_).symm
  have g:c<(Hs b).size:=(ku d.mono l (by omega)).2 (by omega)
  by_cases e:oa mask ops E b
  ·have p:b<j:=by
    rcases cO b j with h|h|h
    ·exact h
    ·subst h;exact absurd e z
    ·omega
   cases i:dY (Hs b) (Hs (b+1)) c with
   |true=>exact d.ver (by omega) g i
   |false=>
    rcases d.tr.behind j b c v e p with h|h
    ·rw[i]at h;simp at h
    ·have:=(k.kt b c e g i).1 (n.before b h)
     omega
  ·exact d.still (by omega) g e
 ·refine li d.mono C λb D F=> ?_
  have I:b<q c:=by omega
  have u:b<ops.size:=by have:=k.Hb c;omega
  have g:c<(Hs b).size:=(ku d.mono l (by omega)).2 (by omega)
  by_cases e:oa mask ops E b
  ·have p:j<b:=by
    rcases cO b j with h|h|h
    ·omega
    ·subst h;exact absurd e z
    ·exact h
   cases i:dY (Hs b) (Hs (b+1)) c with
   |true=>exact d.ver u g i
   |false=>
    rcases d.tr.ahead j b c v e p with h|h
    ·rw[i]at h;simp at h
    ·have s:=(k.kt b c e g i).2 I
     rw[n.behind b h]at s;simp at s
  ·exact d.still u g e
theorem Inv.want(b:Dr P cx cf base mask m ops E Hs ws mX)(c:Inv cx base mask m ops E Hs ws mX listed a w μ q)(k:J5 ops listed j o){d:Bool}(g:jU ops mask (E j) o.guard=some d):
 Region.wanted o (yielded ops a.tmps)=d:=
 Ar (c.LZ b k) (λh i l e f=>by rw[c.size];exact b.dst h i l e f) (by rw[Hg];exact g)
theorem Dr.made(c:Dr P cx cf base mask m ops E Hs ws mX)(i:j<ops.size){b:Nat}(f:b<(Hs ops.size).size):sZ Hs b ops.size=j+1↔((Hs j).size<=b/\b<(Hs (j+1)).size):=by
 have d:=ku c.mono f (show j<=ops.size by omega)
 have e:=ku c.mono f (show j+1<=ops.size by omega)
 constructor
 ·intro h
  refine⟨?_,e.2 (by omega)⟩
  rcases aD b (Hs j).size with k|k
  ·have:=d.1 k;omega
  ·exact k
 ·rintro⟨l,g⟩
  have:=e.1 g
  have:¬sZ Hs b ops.size<=j:=λk=>by have:=d.2 k;omega
  omega
theorem Dr.cr0(c:Dr P cx cf base mask m ops E Hs ws mX){b:Nat}(d:b<(Hs ops.size).size)(e:(Hs 0).size<=b):0<sZ Hs b ops.size:=by
 rcases Nat.eq_zero_or_pos (sZ Hs b ops.size)with h|h
 ·have:=(ku c.mono d (aw _)).2 (by omega);omega
 ·exact h
theorem Dr.zf(c:Dr P cx cf base mask m ops E Hs ws mX)(f:j<ops.size){b:Nat}(d:b<(Hs ops.size).size)(e:(Hs 0).size<=b)(g:¬((Hs j).size<=b/\b<(Hs (j+1)).size)):
 (listed.setIfInBounds j true).getD (sZ Hs b ops.size-1) false=listed.getD (sZ Hs b ops.size-1) false:=by
 refine getD_set_ne false λh=>g ?_
 have:=c.cr0 d e
 exact(c.made f d).1 (by omega)
theorem Inv.Es(f:Dr P cx cf base mask m ops E Hs ws mX)(k:Inv cx base mask m ops E Hs ws mX listed a w μ q)(h:J5 ops listed j o)(g:(Hs (j+1)).size=(Hs j).size){i:Mu}(l:∀b,i b≠none↔μ b≠none):
 ∀b,i b≠none↔(mX b≠none\/((Hs 0).size<=b/\b<(Hs ops.size).size/\(listed.setIfInBounds j true).getD (sZ Hs b ops.size-1) false=true)):=by
 intro b
 rw[l,k.Qk]
 refine or_congr Iff.rfl ⟨λ⟨c,d,e⟩=>⟨c,d,?_⟩,λ⟨c,d,e⟩=>⟨c,d,?_⟩⟩
 ·rw[f.zf h.lt d c (by rw[g];omega)];exact e
 ·rw[f.zf h.lt d c (by rw[g];omega)]at e;exact e
theorem A2(e:J5 ops listed j o)(h:fZ o.op=false\/jU ops mask (E j) o.guard=some false):¬oa mask ops E j:=by
 rintro⟨f,b,c,d⟩
 rw[e.op]at b;simp only[ar]at b;subst b
 rcases h with h|h
 ·rw[h]at c;simp at c
 ·rw[h]at d;simp at d
theorem Inv.BD(e:Inv cx base mask m ops E Hs ws mX listed a w μ q)(g:¬oa mask ops E j):
 ∀b c,oa mask ops E b->c<(Hs b).size->dY (Hs b) (Hs (b+1)) c=false->((listed.setIfInBounds j true).getD b false=true↔b<q c):=by
 intro b c d f h
 have:j≠b:=by rintro rfl;exact g d
 rw[getD_set_ne false this]
 exact e.kt b c d f h
variable {Q:Exit->Act->World->Prop}
theorem Inv.skip(d:Dr P cx cf base mask m ops E Hs ws mX)(b:Inv cx base mask m ops E Hs ws mX listed a w μ q)(c:J5 ops listed j o)(g:jU ops mask (E j) o.guard=some false)
 (f:(E j).dst mask o.dst .undef=some (E (j+1))) (e:Hs (j+1)=Hs j):Inv cx base mask m ops E Hs ws mX (listed.setIfInBounds j true) (a.put o.dst Go.undef) w μ q:=
 ⟨b.cl.set c,by rw[Act.oU];exact b.size,by rw[Act.oX];exact b.K9,b.Hb,b.BD (A2 c (.inr g)),b.st,
   b.AB d c (Ext.refl _ _) .undef f,b.Es d c (by rw[e]) λ_=>Iff.rfl,b.ext⟩
theorem Inv.quiet(r:Dr P cx cf base mask m ops E Hs ws mX)(e:Inv cx base mask m ops E Hs ws mX listed a w μ q)(p:J5 ops listed j o)(cb:jU ops mask (E j) o.guard=some true)(V:fZ o.op=false){v:T}
 (bp:Cw cx cf mask (E j) (Hs j) o.op v (Hs (j+1))) (b9:(E j).dst mask o.dst v=some (E (j+1))):
 xV P (λY R=>∃s,Inv cx base mask m ops E Hs ws mX (listed.setIfInBounds j true) (a.put o.dst Y) R s q) ((execOp a.eval o).run P w):=by
 have b7:=A2 (mask:=mask) (E:=E) p (.inl V)
 have b8:=Gq V bp
 have ap:∀C∈o.op.operands,eJ cx mask (E j) C=eJ cx mask (AK mask (E j) (o.looksAt ops)) C:=λC bp=>yn bp
 rw[yo ap]at b8
 have di:∀b,fk cx mask (AK mask (E j) (o.looksAt ops)) (Hs j) o.op=some b->b<(Hs j).size->(PH Hs ops.size q).get b=(Hs j).get b:=by
  intro b c aX
  rw[<-uB ap]at c
  exact e.looked r p V cb c (au _) (bC p.lt) aX (.inl rfl)
 rcases Fh V di b8 with⟨Z,bk⟩|⟨f,C,F,c,ea,Z,bk⟩
 ·
  refine((xm r.iB e.st (e.LZ r p) bk).X9).mono λY R an=> ?_
  obtain⟨s,A,t,x,O⟩:=an
  refine⟨s,e.cl.set p,by rw[Act.oU];exact e.size,by rw[Act.oX];exact e.K9,e.Hb,e.BD b7,t,e.AB r p x.ext A b9,?_,e.ext.trans x⟩
  refine e.Es r p (by rw[Z]) λb=>⟨λc=> ?_,λc=> ?_⟩
  ·rcases O.2.1 b c with h|h
   ·exact h
   ·omega
  ·obtain⟨d,L⟩:=Option.ne_none_iff_exists'.1 c
   obtain⟨M,U,_⟩:=x.ext.mu b d L
   rw[U];simp
 ·
  subst ea
  have al:(PH Hs ops.size q).size=(Hs ops.size).size:=rfl
  have ca:(Hs (j+1)).size=(Hs j).size+1:=by rw[Z];rfl
  have bT:(Hs j).size<(Hs ops.size).size:=by
   have:=mv r.mono (show j+1<=ops.size from p.lt) (au _);omega
  have bB:(Hs 0).size<=(Hs j).size:=mv r.mono (aw _) (bC p.lt)
  have bX:sZ Hs (Hs j).size ops.size=j+1:=(r.made p.lt bT).2 ⟨au _,by omega⟩
  have eo:μ (Hs j).size=none:=by
   cases a7:μ (Hs j).size with
   |none=>rfl
   |some d=>
    exfalso
    rcases(e.Qk (Hs j).size).1 (by rw[a7];simp)with h|⟨_,_,h⟩
    ·have:=r.lt0 h;omega
    ·rw[bX]at h;simp only[Nat.add_sub_cancel]at h;rw[p.not]at h;simp at h
  have b6:(Hs (j+1)).get (Hs j).size=some C:=by rw[Z];exact H.rN (r.wf j (bC p.lt)) C
  have dn:(PH Hs ops.size q).get (Hs j).size=some C:=by
   rw[<-uB ap]at c
   rw[e.looked r p V cb c (show j<=j+1 by omega) p.lt (by omega) (.inr rfl)]
   exact b6
  refine((xm r.iB e.st (e.LZ r p) bk).X9).mono λY R an=> ?_
  obtain⟨s,A,t,x,O⟩:=an
  rw[al]at A O
  have c9:((PH Hs ops.size q).cons C).size=(Hs ops.size).size+1:=rfl
  rw[c9]at O
  have ce:s (Hs ops.size).size≠none:=O.2.2 _ (au _) (by omega)
  have a6:∀b d,μ b=some d->b<(Hs ops.size).size:=λb d c=>e.st.dL c
  have av:∀b,b≠(Hs ops.size).size->(s b≠none↔μ b≠none):=by
   intro b eA
   constructor
   ·intro c
    rcases O.2.1 b c with h|h
    ·exact h
    ·omega
   ·intro c
    obtain⟨d,L⟩:=Option.ne_none_iff_exists'.1 c
    obtain⟨M,U,_⟩:=x.ext.mu b d L
    rw[U];simp
  have eh:s (Hs j).size=none:=by
   cases a7:s (Hs j).size with
   |none=>rfl
   |some d=>exact absurd eo ((av _ (by omega)).1 (by rw[a7];simp))
  obtain⟨eu,ey⟩:=Option.ne_none_iff_exists'.1 ce
  let y:Mu:=⟨λb=>if b=(Hs j).size then s (Hs ops.size).size else if b=(Hs ops.size).size then none else s b,s.mH⟩
  have B:y (Hs j).size=s (Hs ops.size).size:=by simp[y]
  have N:y (Hs ops.size).size=none:=by
   have:(Hs ops.size).size≠(Hs j).size:=by omega
   simp[y,this]
  have I:∀b,b≠(Hs j).size->b≠(Hs ops.size).size->y b=s b:=λb i k=>by simp[y,i,k]
  have aN:∀G,mG y G->mG s G:=by
   rintro G (⟨b,d,c,hl⟩|hr)
   ·by_cases i:b=(Hs j).size
    ·subst i;rw[B]at c;exact .inl ⟨_,d,c,hl⟩
    ·by_cases k:b=(Hs ops.size).size
     ·subst k;rw[N]at c;simp at c
     ·rw[I b i k]at c;exact .inl ⟨b,d,c,hl⟩
   ·exact .inr hr
  have a8:∀b d,b<(Hs ops.size).size->s b=some d->y b=some d:=by
   intro b d c L
   have i:b≠(Hs j).size:=by rintro rfl;rw[eh]at L;simp at L
   rw[I b i (by omega)];exact L
  have aE:Ext w.heap μ R.heap y:=by
   refine⟨x.ext.size,λG de dk=> ?_,λb d c=> ?_,x.ext.mH,x.ext.kept⟩
   ·obtain⟨er,et⟩:=x.ext.wF G de dk
    exact⟨er,λh=>et (aN G h)⟩
   ·obtain⟨M,U,dm⟩:=x.ext.mu b d c
    exact⟨M,a8 b M (a6 b d c) U,dm⟩
  have ds:eg R.heap y (f (Hs j).size) Y:=by
   rcases F with F|⟨l,F⟩|F|F
   ·rw[F]at A|-
    cases A with|ptr _ _ _ _ d S c aA c4=>exact .ptr _ _ _ _ d S (by rw[B];exact c) aA c4
   ·rw[F]at A|-
    cases A with|arr _ _ _ _ _ d S cL c aA hl h=>exact .arr _ _ _ _ _ d S cL (by rw[B];exact c) aA hl h
   ·rw[F]at A|-
    cases A with|iter _ d S c h=>exact .iter _ d S (by rw[B];exact c) h
   ·rw[F]at A|-
    cases A with|map _ d G c h=>exact .map _ d G (by rw[B];exact c) h
  have dv:St cx base R.heap y (PH Hs ops.size q):=by
   refine⟨Df _ _ _,t.fit,λb d c=> ?_,λb cp d M c c6 hl=> ?_,λb d c=> ?_,λb d c=> ?_,t.pM,λg cX dd=> ?_⟩
   ·by_cases i:b=(Hs j).size
    ·subst i
     rw[B]at c
     obtain⟨X,W,bi⟩:=t.box _ d c
     have eb:X=C:=by
      have:=H.rN (Df Hs ops.size q) C
      rw[al,W]at this
      simpa using this
     subst eb
     refine⟨X,dn,bi.conv (n:=(Hs ops.size).size) (λu bn=> ?_) a8 aN⟩
     exact(r.YZ (j+1) p.lt _ X (.inr bB) b6 u bn).mono (by omega)
    ·by_cases k:b=(Hs ops.size).size
     ·subst k;rw[N]at c;simp at c
     ·rw[I b i k]at c
      obtain⟨X,W,bi⟩:=t.box b d c
      have c7:μ b≠none:=(av b k).1 (by rw[c];simp)
      obtain⟨bu,bN⟩:=Option.ne_none_iff_exists'.1 c7
      have aX:=a6 b bu bN
      rw[H.mo (by rw[al];exact aX)]at W
      refine⟨X,W,bi.conv (n:=(Hs ops.size).size) (λu bn=> ?_) a8 aN⟩
      obtain⟨z,bs,ef⟩:=e.st.box b bu bN
      rw[W]at bs;simp only[ar]at bs;subst bs
      exact ef.low a6 u bn
   ·have bv:∀b d,y b=some d->(b=(Hs j).size/\s (Hs ops.size).size=some d)\/(b≠(Hs j).size/\b≠(Hs ops.size).size/\s b=some d):=by
     intro b d c
     by_cases i:b=(Hs j).size
     ·subst i;rw[B]at c;exact .inl ⟨rfl,c⟩
     ·by_cases k:b=(Hs ops.size).size
      ·subst k;rw[N]at c;simp at c
      ·rw[I b i k]at c;exact .inr ⟨i,k,c⟩
    rcases bv b d c with⟨J,D⟩|⟨J,D,K⟩<;>rcases bv cp M c6 with⟨c1,ae⟩|⟨c1,ae,bz⟩
    ·omega
    ·exact absurd (t.inj _ _ _ _ D bz hl).symm ae
    ·exact absurd (t.inj _ _ _ _ K ae hl) D
    ·exact t.inj _ _ _ _ K bz hl
   ·by_cases i:b=(Hs j).size
    ·subst i;rw[B]at c;exact t.low _ _ c
    ·by_cases k:b=(Hs ops.size).size
     ·subst k;rw[N]at c;simp at c
     ·rw[I b i k]at c;exact t.low _ _ c
   ·by_cases i:b=(Hs j).size
    ·subst i;rw[B]at c;exact t.apart _ _ c
    ·by_cases k:b=(Hs ops.size).size
     ·subst k;rw[N]at c;simp at c
     ·rw[I b i k]at c;exact t.apart _ _ c
   ·exact(e.st.xz g cX dd).ext aE
  refine⟨y,e.cl.set p,by rw[Act.oU];exact e.size,by rw[Act.oX];exact e.K9,e.Hb,e.BD b7,dv,e.AB r p aE ds b9,λb=> ?_,
   e.ext.trans ⟨aE,x.os,x.tape,x.output⟩⟩
  by_cases i:b=(Hs j).size
  ·subst i
   refine⟨λ_=> .inr ⟨bB,bT,?_⟩,λ_=>by rw[B];exact ce⟩
   rw[bX];exact uq e.cl p
  ·by_cases k:b=(Hs ops.size).size
   ·subst k
    refine⟨λh=>absurd N h,λh=> ?_⟩
    rcases h with h|⟨_,h,_⟩
    ·have:=r.lt0 h;omega
    ·omega
   ·rw[I b i k,av b k,e.Qk]
    refine or_congr Iff.rfl ⟨λ⟨J,D,K⟩=>⟨J,D,?_⟩,λ⟨J,D,K⟩=>⟨J,D,?_⟩⟩
    ·rw[r.zf p.lt D J (by rw[ca];omega)];exact K
    ·rw[r.zf p.lt D J (by rw[ca];omega)]at K;exact K
theorem Inv.adE(k:Dr P cx cf base mask m ops E Hs ws mX)(f:Inv cx base mask m ops E Hs ws mX listed a w μ q)(G:J5 ops listed j o)(dm:jU ops mask (E j) o.guard=some true)(cL:fZ o.op=true)
 (b8:∀i W,ops[i]? =some W->fZ W.op=true->(i<j->jg ops i j=true)/\(j<i->jg ops j i=true)) {v:T}
 (C:Cw cx cf mask (E j) (Hs j) o.op v (Hs (j+1))) (dd:(E j).dst mask o.dst v=some (E (j+1))):
 xV P (λc al=>∃I,Inv cx base mask m ops E Hs ws mX (listed.setIfInBounds j true) (a.put o.dst c) al I (λ_=>j+1)) ((execOp a.eval o).run P w):=by
 have ef:oa mask ops E j:=⟨o,G.op,cL,dm⟩
 have bN:∀i,oa mask ops E i->i<j->listed.getD i false=true:=by
  rintro i ⟨W,L,B,_⟩ bv
  exact G.before i ((b8 i W L B).1 bv)
 have bi:∀i,oa mask ops E i->j<i->listed.getD i false=false:=by
  rintro i ⟨W,L,B,_⟩ bv
  exact G.behind i ((b8 i W L B).2 bv)
 have r:=G.lt
 have eh:(Hs j).size<=(Hs (j+1)).size:=k.mono j r
 have eo:(Hs (j+1)).size<=(Hs ops.size).size:=mv k.mono (show j+1<=ops.size from r) (au _)
 have ea:(Hs 0).size<=(Hs j).size:=mv k.mono (aw _) (bC r)
 have ce:∀b,b<(Hs j).size->(PH Hs ops.size q).get b=(Hs j).get b:=by
  intro b e
  have t:b<(Hs ops.size).size:=by omega
  rw[k.vS (f.Hb _) t]
  have bT:sZ Hs b ops.size<=j:=(ku k.mono t (bC r)).1 e
  rcases Nat.le_total (max (q b) (sZ Hs b ops.size)) j with c4|c1
  ·refine(li k.mono c4 λi bp bs=> ?_).symm
   have R:b<(Hs i).size:=(ku k.mono t (by omega)).2 (by omega)
   refine k.same (by omega) R λB Z=> ?_
   have:=(f.kt i b B R Z).1 (bN i B bs)
   omega
  ·refine li k.mono c1 λi bp bs=> ?_
   have c9:=f.Hb b
   have R:b<(Hs i).size:=(ku k.mono t (by omega)).2 (by omega)
   refine k.same (by omega) R λB Z=> ?_
   have hl:=(f.kt i b B R Z).2 (by omega)
   rcases Nat.eq_or_lt_of_le bp with h|h
   ·subst h;rw[G.not]at hl;simp at hl
   ·rw[bi i B h]at hl;simp at hl
 have cX:∀b d,μ b=some d->b<(Hs j).size\/(Hs (j+1)).size<=b:=by
  intro b d e
  rcases aD b (Hs j).size with h|h
  ·exact .inl h
  ·right
   rcases aD b (Hs (j+1)).size with l|l
   ·exfalso
    have t:b<(Hs ops.size).size:=by omega
    rcases(f.Qk b).1 (by rw[e];simp)with g|⟨_,_,g⟩
    ·have:=k.lt0 g;omega
    ·rw[(k.made r t).2 ⟨h,l⟩]at g
     simp only[Nat.add_sub_cancel]at g
     rw[G.not]at g;simp at g
   ·exact l
 have cp:∀b,μ b≠none->mX b≠none\/(Hs 0).size<=b:=λb e=>by
  rcases(f.Qk b).1 e with g|⟨g,_⟩
  ·exact .inl g
  ·exact .inr g
 let N:Mu:=⟨λb=>if b<(Hs j).size then μ b else none,λp=>μ.mH p\/∃b d,(Hs j).size<=b/\μ b=some d/\d.io=p⟩
 have aX:∀b,b<(Hs j).size->N b=μ b:=λb e=>by simp[N,e]
 have O:∀b d,N b=some d->b<(Hs j).size/\μ b=some d:=by
  intro b d e
  by_cases h:b<(Hs j).size
  ·rw[aX b h]at e;exact⟨h,e⟩
  ·simp[N,h]at e
 have an:∀p,mG N p->mG μ p:=by
  rintro p (⟨b,d,e,hl⟩|hr|⟨b,d,e,D,hl⟩)
  ·exact .inl ⟨b,d,(O b d e).2,hl⟩
  ·exact .inr hr
  ·exact .inl ⟨b,d,D,hl⟩
 have ap:∀b d,b<(Hs j).size->μ b=some d->N b=some d:=λb d e D=>by rw[aX b e];exact D
 have dv:St cx base w.heap N (Hs j):=by
  refine⟨k.wf j (bC r),f.st.fit,λb d e=> ?_,λb K d y e aE hl=> ?_,λb d e=> ?_,λb d e=> ?_,λp hr=> ?_,λg a6 bk=> ?_⟩
  ·obtain⟨x,l⟩:=O b d e
   obtain⟨V,C,L⟩:=f.st.box b d l
   rw[ce b x]at C
   exact⟨V,C,L.conv (k.YZ j (bC r) b V (cp b (by rw[l];simp)) C) ap an⟩
  ·exact f.st.inj b K d y (O b d e).2 (O K y aE).2 hl
  ·exact f.st.low b d (O b d e).2
  ·rintro(hr|⟨K,y,aE,Y,hl⟩)
   ·exact f.st.apart b d (O b d e).2 hr
   ·have:=f.st.inj K b y d Y (O b d e).2 hl
    have:=(O b d e).1
    omega
  ·rcases hr with hr|⟨b,d,_,D,hl⟩
   ·exact f.st.pM p hr
   ·rw[<-hl];exact f.st.lt D
  ·have bX:=f.st.xz g a6 bk
   refine bX.conv (n:=0) ?_ (λb d e=>by omega) an
   obtain⟨_,_,_,_,_,_,_,_,_,de,_⟩:=bX.kX
   exact .iT _ λu U=>(de u U).2.low 0
 have ds:jS w.heap N mask (AK mask (E j) (o.looksAt ops)) a.tmps:=by
  intro s u U
  refine(f.LZ k G s u U).conv (n:=(Hs j).size) ?_ ap an
  rw[xh]at U
  split at U
  ·exact k.adD j (bC r) s u U
  ·simp at U
 have dn:=C.congr (e':=AK mask (E j) (o.looksAt ops)) λV C=>yn C
 refine(BA k.iB k.ck dv ds dn).mono λc al cb=> ?_
 obtain⟨⟨I,b9,S,F,ca⟩,_⟩:=cb
 let J:Mu:=⟨λb=>if b<(Hs (j+1)).size then I b else μ b,μ.mH⟩
 have av:∀b,b<(Hs (j+1)).size->J b=I b:=λb e=>by simp[J,e]
 have aA:∀b,(Hs (j+1)).size<=b->J b=μ b:=λb e=>by
  have:¬b<(Hs (j+1)).size:=by omega
  simp[J,this]
 have bz:I.mH=N.mH:=F.ext.mH
 have bu:∀b d,(Hs (j+1)).size<=b->μ b=some d->I.mH d.io:=by
  intro b d e D
  rw[bz]
  exact .inr ⟨b,d,by omega,D,rfl⟩
 have a7:∀p,mG J p->mG I p:=by
  rintro p (⟨b,d,e,hl⟩|hr)
  ·by_cases h:b<(Hs (j+1)).size
   ·rw[av b h]at e;exact .inl ⟨b,d,e,hl⟩
   ·rw[aA b (by omega)]at e
    right;rw[<-hl];exact bu b d (by omega) e
  ·right;rw[bz];exact .inl hr
 have b7:∀b d,I b=some d->b<(Hs (j+1)).size:=λb d e=>S.dL e
 have a8:∀b d,b<(Hs (j+1)).size->I b=some d->J b=some d:=λb d e D=>by rw[av b e];exact D
 have aN:Ext w.heap μ al.heap J:=by
  refine⟨F.ext.size,λp bn c6=> ?_,λb d e=> ?_,rfl,λp bn hr=>F.ext.kept p bn (.inl hr)⟩
  ·obtain⟨z,A⟩:=F.ext.wF p bn λh=>c6 (an p h)
   exact⟨z,λh=>A (a7 p h)⟩
  ·rcases cX b d e with h|h
   ·obtain⟨y,Y,c7⟩:=F.ext.mu b d (ap b d h e)
    exact⟨y,a8 b y (by omega) Y,c7⟩
   ·exact⟨d,by rw[aA b h];exact e,.inl rfl⟩
 have di:St cx base al.heap J (PH Hs ops.size (λ_=>j+1)):=by
  have ae:∀b d,J b=some d->(b<(Hs (j+1)).size/\I b=some d)\/((Hs (j+1)).size<=b/\μ b=some d):=by
   intro b d e
   by_cases h:b<(Hs (j+1)).size
   ·rw[av b h]at e;exact .inl ⟨h,e⟩
   ·rw[aA b (by omega)]at e;exact .inr ⟨by omega,e⟩
  refine⟨Df _ _ _,S.fit,λb d e=> ?_,λb K d y e aE hl=> ?_,λb d e=> ?_,λb d e hr=> ?_,λp hr=> ?_,λg a6 bk=>(f.st.xz g a6 bk).ext aN⟩
  ·rcases ae b d e with⟨x,l⟩|⟨x,l⟩
   ·obtain⟨V,C,L⟩:=S.box b d l
    have t:b<(Hs ops.size).size:=by omega
    have bT:sZ Hs b ops.size<=j+1:=(ku k.mono t (show j+1<=ops.size from r)).1 x
    refine⟨V,?_,L.conv (L.low b7) a8 a7⟩
    rw[k.vS (q:=λ_=>j+1) (show j+1<=ops.size from r) t,show max (j+1) (sZ Hs b ops.size)=j+1 by omega]
    exact C
   ·obtain⟨V,C,L⟩:=f.st.box b d l
    have t:b<(Hs ops.size).size:=f.st.dL l
    have bT:¬sZ Hs b ops.size<=j+1:=λh=>by
     have:=(ku k.mono t (show j+1<=ops.size from r)).2 h;omega
    refine⟨V,?_,L.ext aN ?_⟩
    ·rw[k.vS (f.Hb _) t]at C
     rw[k.vS (q:=λ_=>j+1) (show j+1<=ops.size from r) t,show max (j+1) (sZ Hs b ops.size)=sZ Hs b ops.size by omega]
     rw[<-C]
     refine(li k.mono (by omega) λi bp bs=> ?_).symm
     have c9:=f.Hb b
     have eb:=EA Hs b ops.size
     have R:b<(Hs i).size:=(ku k.mono t (by omega)).2 (by omega)
     refine k.same (by omega) R λB Z=> ?_
     have hl:=(f.kt i b B R Z).2 (by omega)
     rw[bi i B (by omega)]at hl;simp at hl
    ·exact F.ext.kept d.io (f.st.lt l) (.inr ⟨b,d,by omega,l,rfl⟩)
  ·rcases ae b d e with⟨x,l⟩|⟨x,l⟩<;>rcases ae K y aE with⟨bB,X⟩|⟨bB,X⟩
   ·exact S.inj b K d y l X hl
   ·exact absurd (by rw[hl];exact bu K y bB X) (S.apart b d l)
   ·exact absurd (by rw[<-hl];exact bu b d x l) (S.apart K y X)
   ·exact f.st.inj b K d y l X hl
  ·rcases ae b d e with⟨x,l⟩|⟨x,l⟩
   ·exact S.low b d l
   ·exact f.st.low b d l
  ·rcases ae b d e with⟨x,l⟩|⟨x,l⟩
   ·exact S.apart b d l (by rw[bz];exact .inl hr)
   ·exact f.st.apart b d l hr
  ·exact bD (f.st.pM p hr) F.ext.size
 have dk:eg al.heap J v c:=b9.conv (b9.low b7) a8 a7
 refine⟨J,f.cl.set G,by rw[Act.oU];exact f.size,by rw[Act.oX];exact f.K9,λ_=>r,λi b b6 _ _=> ?_,di,f.AB k G aN dk dd,λb=> ?_,
  f.ext.trans ⟨aN,F.os,F.tape,F.output⟩⟩
 ·rcases cO i j with h|h|h
  ·rw[getD_set_ne false (by omega),bN i b6 h];simp;omega
  ·subst h;rw[uq f.cl G];simp
  ·rw[getD_set_ne false (by omega),bi i b6 h];simp;omega
 ·by_cases x:b<(Hs (j+1)).size
  ·rw[av b x]
   have t:b<(Hs ops.size).size:=by omega
   by_cases l:b<(Hs j).size
   ·have:I b≠none↔μ b≠none:=by
     constructor
     ·intro e
      rcases ca.2.1 b e with g|g
      ·rwa[aX b l]at g
      ·omega
     ·intro e
      obtain⟨d,D⟩:=Option.ne_none_iff_exists'.1 e
      obtain⟨y,Y,_⟩:=F.ext.mu b d (ap b d l D)
      rw[Y];simp
    rw[this,f.Qk]
    refine or_congr Iff.rfl ⟨λ⟨z,A,M⟩=>⟨z,A,?_⟩,λ⟨z,A,M⟩=>⟨z,A,?_⟩⟩
    ·rw[k.zf r A z (by omega)];exact M
    ·rw[k.zf r A z (by omega)]at M;exact M
   ·refine⟨λ_=> .inr ⟨by omega,t,?_⟩,λ_=>ca.2.2 b (by omega) x⟩
    rw[(k.made r t).2 ⟨by omega,x⟩]
    exact uq f.cl G
  ·rw[aA b (by omega),f.Qk]
   refine or_congr Iff.rfl ⟨λ⟨z,A,M⟩=>⟨z,A,?_⟩,λ⟨z,A,M⟩=>⟨z,A,?_⟩⟩
   ·rw[k.zf r A z (by omega)];exact M
   ·rw[k.zf r A z (by omega)]at M;exact M
theorem LK{e n f:H}{C:Ty}{c z p B:Nat}{r:T}(b:e.store C (.ptr c z p B) r=some n)(Y:e.ec.length=e.size)(Z:f.ec.length=f.size)(G:f.get c=e.get c):
 n.size=e.size/\(∀h,h≠c->n.get h=e.get h)/\dY e n c=false/\c<e.size/\∃d,f.store C (.ptr c z p B) r=some d/\d.size=f.size/\d.ec.length=d.size/\d.get c=n.get c/\∀h,h≠c->d.get h=f.get h:=by
 have b:fy (Nat.beq (kc r.cells) C.size) (dB (e.get c) λF=> @iE.rec (λ_=>aa H) (λu i g exact t l=>
  fy (Nat.beq i z) (@Bool.rec (λ_=>aa H) (dB (kW l p) λx=>dB (lr x B r.cells) λy=>dB (kf l p y) λs=>
   dB (fF (Nat.succ g)) λk=>e.put c ⟨u,i,k,exact,false,s⟩) none t)) F)=some n:=b
 obtain⟨I,b⟩:=dz.1 b
 replace b:=dj.1 b;obtain⟨⟨u,i,g,N,t,l⟩,v,b⟩:=b
 obtain⟨J,b⟩:=dz.1 b
 cases t with
 |true=>simp at b
 |false=>
  replace b:=dj.1 b;obtain⟨x,K,b⟩:=b
  replace b:=dj.1 b;obtain⟨y,L,b⟩:=b
  replace b:=dj.1 b;obtain⟨s,M,b⟩:=b
  replace b:=dj.1 b;obtain⟨k,D,b⟩:=b
  have X:k=g+1:=by rw[gD]at D;simpa using D.symm
  obtain⟨p1,p2,p3,p4⟩:=z8 b Y
  have V:c<f.size:=H.dL (G.trans v)
  have A:∃d,f.put c ⟨u,i,k,N,false,s⟩=some d:=⟨_,H.uv.2 ⟨V,by omega,rfl⟩⟩
  obtain⟨d,A⟩:=A
  obtain⟨O,R,S,U⟩:=z8 A Z
  refine⟨p1,p4,?_,H.dL v,d,?_,O,R,by rw[S,p3],U⟩
  ·unfold dY
   rw[v,p3]
   show Nat.beq g k=false
   rw[X]
   cases W:Nat.beq g (g+1)with
   |false=>rfl
   |true=>have:=aC W;omega
  ·show fy (Nat.beq (kc r.cells) C.size) (dB (f.get c) λF=> @iE.rec (λ_=>aa H) (λu i g exact t l=>
    fy (Nat.beq i z) (@Bool.rec (λ_=>aa H) (dB (kW l p) λx=>dB (lr x B r.cells) λy=>dB (kf l p y) λs=>
     dB (fF (Nat.succ g)) λk=>f.put c ⟨u,i,k,exact,false,s⟩) none t)) F)=some d
   rw[G,v]
   simp only[I,J,K,L,M,D,fO,dD,A]
theorem Dr.LL(p:Dr P cx cf base mask m ops E Hs ws mX){c:Nat}{i:Oper}(l:ops[c]? =some i)(D:nR i.op=true)(R:oa mask ops E c):
 ∃e,S9 cx mask ops E c e/\e<(Hs c).size/\(Hs (c+1)).size=(Hs c).size/\(∀f,f≠e->(Hs (c+1)).get f=(Hs c).get f)/\dY (Hs c) (Hs (c+1)) e=false/\
  ∀d:H,d.ec.length=d.size->d.get e=(Hs c).get e->∃g,iO i.op cx mask (E c) d=some (.val .undef g)/\g.size=d.size/\g.ec.length=g.size/\g.get e=(Hs (c+1)).get e/\∀f,f≠e->g.get f=d.get f:=by
 obtain⟨al,s,_,F⟩:=R
 rw[l]at s;simp only[ar]at s;subst s
 have C:c<ops.size:=(Array.getElem?_eq_some_iff.1 l).1
 rcases mc (p.tr.step c _ l)with⟨G,_⟩|⟨_,h,b,_⟩
 ·rw[F]at G;simp at G
 ·cases t:i.op with
  |store v x y=>
   rw[t]at b
   rcases b with b|⟨M,I,b,_⟩
   ·have b:(dB (cx.ty v) λn=>dB (eJ cx mask (E c) x) λa=>dB (eJ cx mask (E c) y) λh=>fy h.fT (dB ((Hs c).store n a h) λk=>some (kx.val .undef k)))=some (.val h (Hs (c+1))):=b
    replace b:=dj.1 b;obtain⟨n,J,b⟩:=b
    replace b:=dj.1 b;obtain⟨T,z,b⟩:=b
    replace b:=dj.1 b;obtain⟨an,K,b⟩:=b
    obtain⟨L,b⟩:=dz.1 b
    replace b:=dj.1 b;obtain⟨k,A,b⟩:=b
    simp only[ar,kx.val.injEq]at b
    obtain⟨rfl,rfl⟩:=b
    cases T with
    |ptr e Y Z ae=>
     have B:∀d:H,d.ec.length=d.size->d.get e=(Hs c).get e->_:=λd u r=>LK A (p.wf c (bC C)) u r
     obtain⟨U,V,W,X,_⟩:=B (Hs c) (p.wf c (bC C)) rfl
     refine⟨e,⟨i,v,x,y,l,t,F,by rw[z];rfl⟩,X,U,V,W,λd u r=> ?_⟩
     obtain⟨_,_,_,_,g,N,O⟩:=B d u r
     refine⟨g,?_,O⟩
     show(dB (cx.ty v) λn=>dB (eJ cx mask (E c) x) λa=>dB (eJ cx mask (E c) y) λh=>fy h.fT (dB (d.store n a h) λk=>some (kx.val .undef k)))=_
     rw[J,z,K]
     simp only[dD,L,fO,N]
    |_=>simp[H.store]at A
   ·exact absurd b (A4 (λf S=>by simp at S) M I)
  |_=>rw[t]at D;simp[nR]at D
theorem Inv.Y0(g:Dr P cx cf base mask m ops E Hs ws mX)(i:Inv cx base mask m ops E Hs ws mX listed a w μ q)(k:J5 ops listed j o)(b6:jU ops mask (E j) o.guard=some true)(C:nR o.op=true)
 {F:T} (n:Cw cx cf mask (E j) (Hs j) o.op F (Hs (j+1))) (bB:(E j).dst mask o.dst F=some (E (j+1))):
 xV P (λL al=>∃G ca,Inv cx base mask m ops E Hs ws mX (listed.setIfInBounds j true) (a.put o.dst L) al G ca) ((execOp a.eval o).run P w):=by
 have R:fZ o.op=true:=by cases bp:o.op<;>rw[bp]at C<;>simp[nR]at C<;>rfl
 have S:oa mask ops E j:=⟨o,k.op,R,b6⟩
 have A:=k.lt
 obtain⟨e,aE,N,bN,bs,bX,Z⟩:=g.LL k.op C S
 have v:e<(Hs ops.size).size:=bD N (mv g.mono (bC A) (au _))
 have K:∀b,oa mask ops E b->b<j->dY (Hs b) (Hs (b+1)) e=false->listed.getD b false=true:=by
  intro b l x c
  rcases g.tr.both j b e aE l x with h|h
  ·rw[c]at h;simp at h
  ·exact k.before b h
 have J:∀b,oa mask ops E b->j<b->dY (Hs b) (Hs (b+1)) e=false->listed.getD b false=false:=by
  intro b l x c
  have a6:=l
  obtain⟨b9,W,a8,_⟩:=a6
  rcases g.CD j b o b9 k.op W x with⟨_,h⟩|h
  ·obtain⟨y,aN,_,_,bu,_⟩:=g.LL W (h R a8).2 l
   have:y=e:=by
    rcases Nat.decEq y e with bn|rfl
    ·exfalso
     have z:=bu e (br bn)
     unfold dY at c
     rw[z]at c
     cases t:(Hs b).get e with
     |none=>rw[t]at c;simp at c
     |some p=>
      rw[t]at c
      have c:Nat.beq p.ver p.ver=false:=c
      simp at c
    ·rfl
   subst this
   rcases g.tr.both b j y aN S x with h|h
   ·rw[bX]at h;simp at h
   ·exact k.behind b h
  ·exact k.behind b h
 have cX:sZ Hs e ops.size<=j:=(ku g.mono v (bC A)).1 N
 have bv:(PH Hs ops.size q).get e=(Hs j).get e:=by
  rw[g.vS (i.Hb _) v]
  have c4:=i.Hb e
  rcases Nat.le_total (max (q e) (sZ Hs e ops.size)) j with bk|a7
  ·refine(li g.mono bk λb U V=> ?_).symm
   have s:e<(Hs b).size:=(ku g.mono v (by omega)).2 (by omega)
   refine g.same (by omega) s λl c=> ?_
   have:=(i.kt b e l s c).1 (K b l V c)
   omega
  ·refine li g.mono a7 λb U V=> ?_
   have s:e<(Hs b).size:=(ku g.mono v (by omega)).2 (by omega)
   refine g.same (by omega) s λl c=> ?_
   have hl:=(i.kt b e l s c).2 (by omega)
   rcases Nat.eq_or_lt_of_le U with h|h
   ·subst h;rw[k.not]at hl;simp at hl
   ·rw[J b l h c]at hl;simp at hl
 obtain⟨cL,Y,M,cp,an,ap⟩:=Z (PH Hs ops.size q) (Df _ _ _) bv
 have bT:F= .undef:=by
  obtain⟨c1,X,_⟩:=Z (Hs j) (g.wf j (bC A)) rfl
  rcases n with n|⟨f,ce,n,_⟩
  ·rw[X]at n;simp only[ar,kx.val.injEq]at n;exact n.1.symm
  ·rw[X]at n;simp at n
 subst bT
 have aX:∀p∈o.op.operands,eJ cx mask (E j) p=eJ cx mask (AK mask (E j) (o.looksAt ops)) p:=λp n=>yn n
 rw[yo aX]at Y
 refine((xm g.iB i.st (i.LZ g k) Y).X9).mono λL al t=> ?_
 obtain⟨G,b7,ae,D,b8⟩:=t
 refine⟨G,λd=>if d=e then j+1 else q d,i.cl.set k,by rw[Act.oU];exact i.size,by rw[Act.oX];exact i.K9,λd=> ?_,λb d B s c=> ?_,
  ae.congr (Df _ _ _) λd I u=> ?_,i.AB g k D.ext b7 bB,i.Es g k bN λd=>⟨λu=> ?_,λu=> ?_⟩,i.ext.trans D⟩
 ·show(if d=e then j+1 else q d)<=ops.size
  have:=i.Hb d
  split<;>omega
 ·show _↔b<(if d=e then j+1 else q d)
  by_cases r:d=e
  ·subst r
   rw[aq rfl]
   rcases cO b j with h|h|h
   ·rw[getD_set_ne false (by omega),K b B h c];simp;omega
   ·subst h;rw[uq i.cl k];simp
   ·rw[getD_set_ne false (by omega),J b B h c];simp;omega
  ·rw[ao r]
   have bi:j≠b:=by
    rintro rfl
    have z:=bs d r
    unfold dY at c
    rw[z]at c
    cases t:(Hs j).get d with
    |none=>rw[t]at c;simp at c
    |some p=>
     rw[t]at c
     have c:Nat.beq p.ver p.ver=false:=c
     simp at c
   rw[getD_set_ne false bi]
   exact i.kt b d B s c
 ·have O:d<(Hs ops.size).size:=by
   have:=ae.dL u
   rw[M]at this;exact this
  have bz:(if d=e then j+1 else q d)<=ops.size:=by have:=i.Hb d;split<;>omega
  rw[g.vS (q:=λd=>if d=e then j+1 else q d) bz O]
  by_cases r:d=e
  ·subst r
   rw[aq rfl,an,show max (j+1) (sZ Hs d ops.size)=j+1 by omega]
  ·rw[ao r,ap d r,g.vS (i.Hb _) O]
 ·rcases b8.2.1 d u with h|h
  ·exact h
  ·rw[M]at h;omega
 ·obtain⟨I,av⟩:=Option.ne_none_iff_exists'.1 u
  obtain⟨cb,aA,_⟩:=D.ext.mu d I av
  rw[aA];simp
theorem Inv.step(c:Dr P cx cf base mask m ops E Hs ws mX)(d:Inv cx base mask m ops E Hs ws mX listed a w μ q)(A:j∈Region.ready .any ops listed):
 wpOp P ops Q j (λy l=>∃i B,Inv cx base mask m ops E Hs ws mX (listed.setIfInBounds j true) y l i B) a w:=by
 obtain⟨o,b⟩:=rdy d.cl A
 unfold wpOp
 simp only[b.op]
 rcases mc (c.tr.step j o b.op)with⟨e,g,z⟩|⟨e,C,r,g⟩
 ·simp only[d.want c b e,ci,bm]
  exact⟨μ,q,d.skip c b e g z⟩
 ·simp only[d.want c b e,aY]
  left
  cases k:fZ o.op with
  |false=>exact xV.wp (d.quiet c b e k r g) λs l f=>by obtain⟨i,h⟩:=f;exact⟨i,q,h⟩
  |true=>
   cases p:nR o.op with
   |true=>exact xV.wp (d.Y0 c b e p r g) λs l f=>f
   |false=>
    refine xV.wp (d.adE c b e k (λv x u t=>⟨λn=> ?_,λn=> ?_⟩) r g) λs l f=>by obtain⟨i,h⟩:=f;exact⟨i,_,h⟩
    ·rcases c.CD v j x o u b.op n with⟨_,h⟩|h
     ·have:=(h t k).2;rw[p]at this;simp at this
     ·exact h
    ·rcases c.CD j v o x b.op u n with⟨_,h⟩|h
     ·have:=(h k t).1;rw[p]at this;simp at this
     ·exact h
def Xo(listed:af Bool):Nat:=(listed.toList.filter λb=> !b).length
theorem Ik:∀(c:List Bool) (j:Nat),c[j]? =some false->((c.set j true).filter λd=> !d).length+1=(c.filter λd=> !d).length:=by
 intro c
 induction c with
 |nil=>intro j b;simp at b
 |cons f c e=>
  intro j b
  cases j with
  |zero=>simp at b;subst b;simp
  |succ j=>
   simp at b
   have:=e j b
   cases f<;>simp[da]<;>omega
theorem IY(b:listed.getD j true=false):Xo (listed.setIfInBounds j true)+1=Xo listed:=by
 have c:j<listed.size:=by
  rcases aD j listed.size with h'|h'
  ·exact h'
  ·simp[cN h']at b
 unfold Xo
 rw[Array.toList_setIfInBounds]
 refine Ik _ _ ?_
 simp[c]at b
 simp[c,b]
theorem IM(g:Dr P cx cf base mask m ops E Hs ws mX)(h:Cl ops listed)(hr:Region.ready .any ops listed=[]):∀b,b<ops.size->listed.getD b false=true:=by
 intro b
 induction b using Nat.strongRecOn with
 |_ b n=>
  intro e
  cases d:listed.getD b false with
  |true=>rfl
  |false=>
   have f:ops[b]? =some ops[b]:=by simp[e]
   have:b∈Region.ready .any ops listed:=by
    refine mem_ready.2 ⟨?_,ops[b],f,λc k i=> ?_⟩
    ·have:b<listed.size:=by rw[h.size];exact e
     simp[this]at d|-;exact d
    ·have l:=g.back b _ f c k i
     exact n c.on l (by omega)
   rw[hr]at this
   simp at this
theorem Inv.ZR(d:Dr P cx cf base mask m ops E Hs ws mX)(f:Inv cx base mask m ops E Hs ws mX listed a w μ q)(p:∀g,g<ops.size->listed.getD g false=true):
 St cx base w.heap μ (Hs ops.size)/\jS w.heap μ mask (E ops.size) a.tmps/\wZ mX μ (Hs 0).size (Hs ops.size).size:=by
 refine⟨f.st.congr (d.wf _ (au _)) λe O r=> ?_,λs h L=>f.LP s h ?_,?_⟩
 ·have v:=f.lt d r
  rw[d.vS (f.Hb _) v]
  have R:=EA Hs e ops.size
  have:=f.Hb e
  refine li d.mono (by omega) λg T y=> ?_
  have u:e<(Hs g).size:=(ku d.mono v (by omega)).2 (by omega)
  refine d.same y u λI K=> ?_
  have:=(f.kt g e I u K).1 (p g y)
  omega
 ·
  have N:∀b,qX ops listed s ops.size+b<=ops.size->(E (qX ops listed s ops.size+b)).get mask s=(E (qX ops listed s ops.size)).get mask s:=by
   intro b
   induction b with
   |zero=>intro _;rfl
   |succ b M=>
    intro S
    have t:qX ops listed s ops.size+b<ops.size:=by omega
    have z:ops[qX ops listed s ops.size+b]? =some ops[qX ops listed s ops.size+b]:=by simp[t]
    rw[<-M (by omega)]
    have A:ops[qX ops listed s ops.size+b].dst≠some s:=by
     intro G
     have:=H3 (n:=ops.size) t (p _ t) (by rw[z];exact G)
     omega
    have B:∀h i,(E (qX ops listed s ops.size+b)).dst mask ops[qX ops listed s ops.size+b].dst h=some i->i.get mask s=(E (qX ops listed s ops.size+b)).get mask s:=by
     intro h i c
     cases x:ops[qX ops listed s ops.size+b].dst with
     |none=>rw[x]at c;have c:some _=some i:=c;simp only[ar]at c;rw[c]
     |some C=>
      rw[x]at c A
      have J:s≠C:=λD=>A (by rw[D])
      rw[Env.Ae (show Env.set mask _ C h=some i from c) s,ao J]
    rcases mc (d.tr.step _ _ z)with⟨_,c,_⟩|⟨_,h,_,c⟩
    ·exact B _ _ c
    ·exact B _ _ c
  have U:=Un (ops:=ops) (listed:=listed) (s:=s) ops.size
  have:=N (ops.size-qX ops listed s ops.size) (by omega)
  rw[show qX ops listed s ops.size+(ops.size-qX ops listed s ops.size)=ops.size by omega]at this
  rw[<-this];exact L
 ·refine⟨mv d.mono (aw _) (au _),λe r=> ?_,λe k l=> ?_⟩
  ·rcases(f.Qk e).1 r with F|⟨k,l,_⟩
   ·exact .inl F
   ·exact .inr ⟨k,l⟩
  ·refine(f.Qk e).2 (.inr ⟨k,l,p _ ?_⟩)
   have:=d.cr0 l k
   have:=EA Hs e ops.size
   omega
theorem Lq(f:Dr P cx cf base mask m ops E Hs ws mX)
 (p:∀a w μ,St cx base w.heap μ (Hs ops.size)->jS w.heap μ mask (E ops.size) a.tmps->wZ mX μ (Hs 0).size (Hs ops.size).size->oI ws mX w μ->a.tmps.size=m->a.defers=[]->Q .normal a w):
 ∀(c:Nat) (listed:af Bool) (a:Act) (w:World),Xo listed<=c->(∃μ q,Inv cx base mask m ops E Hs ws mX listed a w μ q)->wpAny P .any ops Q c listed a w:=by
 have fin:∀(listed:af Bool) (a:Act) (w:World),(∃μ q,Inv cx base mask m ops E Hs ws mX listed a w μ q)->Region.ready .any ops listed=[]->Q .normal a w:=by
  rintro listed a w ⟨μ,q,b⟩ hr
  obtain⟨k,l,n⟩:=b.ZR f (IM f b.cl hr)
  exact p a w μ k l n b.ext b.size b.K9
 intro c
 induction c with
 |zero=>
  intro listed a w r d
  have hr:Region.ready .any ops listed=[]:=by
   cases hr:Region.ready .any ops listed with
   |nil=>rfl
   |cons g u=>
    have e:g∈Region.ready .any ops listed:=by rw[hr];simp
    have:=IY (mem_ready.1 e).1
    omega
  exact⟨hr,fin listed a w d hr⟩
 |succ c s=>
  intro listed a w r d
  refine⟨λhr=>fin listed a w d hr,λg e=> ?_⟩
  obtain⟨μ,q,b⟩:=d
  have:=IY (mem_ready.1 e).1
  exact wpOp_mono (λh t i=>s _ h t (by omega) i) (b.step f e)
theorem chain{n:World}{p:Mu}{h:H}{u:Env}{g c:H}{f:Env}(iB:iG P cx)(t:mN P cx cf)(v:Dg m ops){l:Nat}(y:ops[l]? =some o)(K:kK cx cf mask ops u g o=some (f,c))
 (r:rR cx base mask m n p h u g a w):(∃B e,rR cx base mask m n p h f c B e)/\kv g c:=by
 have A:=r
 obtain⟨μ,b,d,M,C,D,x,J⟩:=A
 rcases mc K with⟨L,k,rfl⟩|⟨L,O,z,k⟩
 ·exact⟨⟨_,w,μ,b,jS.put d .undef (λb i=>by rw[x];exact v l o b y i) k,M,C,D,by rw[Act.oU];exact x,by rw[Act.oX];exact J⟩,kv.refl b.wf⟩
 ·have hr:=BA (P:=P) iB t b d z
  obtain⟨s,e,G⟩:=hr.some
  have F:xV P (λs e=>rR cx base mask m n p h f c (a.put o.dst s) e) ((execOp a.eval o).run P w):=
   r.after (λb i=>v l o b y i) k λbase μ b d=>BA iB t b d z
  obtain⟨N,R,I⟩:=F.some
  exact⟨⟨_,_,I⟩,G.2⟩
theorem Ir(bT:P.follows .mixedOrders=true)(iB:iG P cx)(N:mN P cx cf):OX P cx cf nU:=by
 intro base mask m c9 dd c6 ops e bk h bp a w Q id Y R b6 a7 bu
 obtain⟨E,Hs,ca,ce,aX,U,cp,_,_,cL,cX,_,cb⟩:=B8 ops.toList 0 ⟨[],[]⟩ e bk h bp (λt=>by simp) b6
 simp only[Nat.zero_add,bZ]at aX U
 have V:Trace cx cf mask ops E Hs:=⟨λb o k=>cp b o (aw _) k,λb B c u v A=>cL b B c (aw _) u v A,λb B c u v A=>cX b B c (aw _) u v A,λb B c u v A=>cb b B c (aw _) u v A⟩
 obtain⟨mX,s,r,x,bi,g,an,ae⟩:=a7
 subst ca ce
 have K:∀b,b<=ops.size->∃M I,rR cx base mask m w mX (Hs 0) (E b) (Hs b) M I:=by
  intro b
  induction b with
  |zero=>intro _;exact⟨a,w,mX,s,r,oI.refl _ _,wZ.refl _ _,kv.refl s.wf,an,ae⟩
  |succ b T=>
   intro f
   obtain⟨a1,J,L⟩:=T (by omega)
   have k:ops[b]? =some ops[b]:=by simp[show b<ops.size by omega]
   exact(chain iB N R k (V.step b _ k) L).1
 have X:∀b,b<ops.size->kv (Hs b) (Hs (b+1)):=by
  intro b f
  obtain⟨a1,J,L⟩:=K b (by omega)
  have k:ops[b]? =some ops[b]:=by simp[f]
  exact(chain iB N R k (V.step b _ k) L).2
 have D:Dr P cx cf base mask m ops E Hs {w with drawn:=w.drawn+1} mX:=by
  refine⟨iB,N,R,V,s,λi j c7 b9 bv bN bz=>Gu Y bv bN bz,λj o k=>Is Y k,λb f sl C n=> ?_,λb f c y d ap C n=> ?_,X,λb f=> ?_⟩
  ·obtain⟨a1,J,W,p,r1,_⟩:=K b f
   exact(r1 sl C n).low λc l d=>p.dL d
  ·obtain⟨a1,J,W,p,r1,c1,a8,_⟩:=K b f
   have bB:W c≠none:=by
    rcases d with d|d
    ·obtain⟨l,O⟩:=Option.ne_none_iff_exists'.1 d
     obtain⟨c4,bs,_⟩:=c1.ext.mu c l O
     rw[bs];simp
    ·exact a8.2.2 c d (H.dL ap)
   obtain⟨l,O⟩:=Option.ne_none_iff_exists'.1 bB
   obtain⟨z,S,bX⟩:=p.box c l O
   rw[ap]at S;simp only[ar]at S;subst S
   exact bX.low (λc l d=>p.dL d) C n
  ·obtain⟨a1,J,W,p,_⟩:=K b f
   exact p.wf
 have bn:∀b,b<=ops.size->kv (Hs 0) (Hs b):=by
  intro b
  induction b with
  |zero=>intro _;exact kv.refl s.wf
  |succ b T=>intro f;exact(T (by omega)).trans (X b (by omega))
 refine wp_region_any bT (Lq D (λM I a6 av aA aE G b7 b8=> ?_) ops.size _ a _ (by simp[Xo]) ⟨mX,λ_=>0,?_⟩)
 ·rw[aX]at aA
  rw[U]at av aE
  have aN:oI w mX I a6:=⟨G.ext,G.os,G.tape,G.output⟩
  exact bu M I ⟨a6,av,aA,x.trans aN,bi.trans (hp:=w.heap) aE aN.ext,by have:=bn ops.size (au _);rw[U]at this;exact g.trans this,b7,b8⟩
 ·have F:∀b,(Array.replicate ops.size false).getD b false=false:=by
   intro b
   rcases aD b ops.size with h|h<;>simp[h]
  refine⟨⟨by simp,λj b9 _ hl=> ?_⟩,an,ae,λ_=>aw _,λb c _ _ _=> ?_,?_,λsl C n=> ?_,λc=> ?_,⟨Ext.refl _ _,rfl,rfl,rfl⟩⟩
  ·rw[F]at hl;simp at hl
  ·rw[F];simp
  ·refine s.congr (Df _ _ _) λc l d=> ?_
   have al:=s.dL d
   have Z:c<(Hs ops.size).size:=bD al (mv D.mono (aw _) (au _))
   rw[D.vS (q:=λ_=>0) (aw _) Z]
   have:sZ Hs c ops.size<=0:=(ku D.mono Z (aw _)).1 al
   rw[show max 0 (sZ Hs c ops.size)=0 by omega]
  ·have:qX ops (Array.replicate ops.size false) sl ops.size=0:=by
    rcases xr (ops:=ops) (listed:=Array.replicate ops.size false) (s:=sl) ops.size with h|⟨b,_,_,h,_⟩
    ·exact h
    ·rw[F]at h;simp at h
   rw[this]at n
   exact r sl C n
  ·rw[F];simp
end
end
noncomputable section
section
variable {P:ai}{cx:Ctx}{cf:ir}{base mask m:Nat}{w0 w:World}{μ0 μ:Mu}{h0 h h':H}{e e':Env}{a:Act}
theorem yp{f:List T}{cs:af am}{g:af Obj}(b:fI g μ f cs.toList):eg g μ (hU f) (if h:cs.size=1 then cs[0]else .tuple cs):=by
 have d:∀(k:cs.size≠1),eg g μ (.tuple f) (if h:cs.size=1 then cs[0]else .tuple cs):=by
  intro k
  rw[dif_neg k]
  exact .tuple f cs (by simpa using b.1.symm) λn i l=>by simpa[aW,List.getD]using b.2 n i l
 have c:=b.1
 match f,b,c,d with
 | [],b,c,d=>exact d (by simp at c;omega)
 | [i],b,c,d=>
  have j:cs.size=1:=by simpa using c.symm
  rw[dif_pos j]
  have:=b.2 0 i (by simp)
  simpa[hU,List.getD,j]using this
 |o::p::f,b,c,d=>exact d (by simp at c;omega)
def mT(c:af am):ResultVar->Sem am
 | .tmp b=>pure (c.getD b Go.undef)
 | .cell d b=>do loadVar b (<-asAddr (c.getD d Go.undef))
theorem AH(c:Func)(d:af am):results c d=(do let b<-c.results.mapM (mT d);pure (if h:b.size=1 then b[0]else .tuple b)):=by
 unfold results
 congr 1
theorem Dp(iB:iG P cx)(E:St cx base w.heap μ h)(r:jS w.heap μ mask e a.tmps):∀(g:List ResultVar) (k:List T),kq cx mask e h g=some k->
 ∃d:List am,fI w.heap μ k d/\(g.mapM (mT a.tmps)).run P w= .ok d w:=by
 intro g
 induction g with
 |nil=>
  intro k b
  have b:some []=some k:=b
  simp only[ar]at b;subst b
  exact⟨[],fI.nil,by simp⟩
 |cons n g D=>
  intro k b
  unfold kq at b
  rw[jc]at b
  replace b:=dj.1 b;obtain⟨j,c,b⟩:=b
  replace b:=dj.1 b;obtain⟨s,C,b⟩:=b
  simp only[ar]at b;subst b
  obtain⟨d,x,A⟩:=D s C
  have q:∀f,(mT a.tmps n).run P w= .ok f w->eg w.heap μ j f->∃d:List am,fI w.heap μ (j::s) d/\((n::g).mapM (mT a.tmps)).run P w= .ok d w:=by
   intro f y hr
   refine⟨f::d,fI.cons hr x,?_⟩
   rw[List.mapM_cons,Sem.run_bind,y,Result.andThen_ok,Sem.run_bind,A,Result.andThen_ok,Sem.run_pure]
  cases n with
  |tmp i=>
   have c:e.get mask i=some j:=c
   exact q _ (by simp only[mT,Sem.run_pure]) (r i j c)
  |cell p i=>
   have c:(dB (e.get mask p) λl=>dB (cx.ty i) λo=>h.load o l)=some j:=c
   replace c:=dj.1 c;obtain⟨l,z,c⟩:=c
   replace c:=dj.1 c;obtain⟨o,B,c⟩:=c
   obtain⟨F,f,t,u,v⟩:=A9 (iB.ty i o B) E (r p l z) c
   exact q f (by simp only[mT,t,asAddr,Sem.run_bind,Sem.run_pure,Result.andThen_ok,u]) v
theorem B9(iB:iG P cx)(k:St cx base w.heap μ h)(j:jS w.heap μ mask e a.tmps){b:Func}{d:List T}(g:kq cx mask e h b.results.toList=some d):
 ∃c,(results b a.tmps).run P w= .ok c w/\eg w.heap μ (hU d) c:=by
 obtain⟨cs,f,i⟩:=Dp (P:=P) iB k j _ _ g
 refine⟨_,?_,yp (cs:=cs.toArray) (by simpa using f)⟩
 rw[AH]
 have:b.results.mapM (mT a.tmps)=List.toArray<$>b.results.toList.mapM (mT a.tmps):=by
  rw[<-List.mapM_toArray]
 rw[this,Sem.run_bind,Sem.run_map,i]
 rfl
theorem Ch:∀(i g:Nat) (n:List T) (q:eZ),lz mask i g n=some q->∀o k,dt q o=some k->(∃d,o=g+d/\d<i/\(n[d]? =some k\/(n.length<=d/\k= .undef))):=by
 intro i
 induction i with
 |zero=>
  intro g n q b o k f
  have b:some eZ.nil=some q:=b
  simp only[ar]at b;subst b
  simp[dt]at f
 |succ i v=>
  intro g n q b o k f
  have b:(dB (fF (Nat.succ g)) λs=> @List.rec T (λ_=>aa eZ)
   (@Bool.rec (λ_=>aa eZ) (lz mask i s []) (dB (lz mask i s []) λj=>some (.cons g .undef j)) (jJ mask g))
   (λa l _=>dB (lz mask i s l) λj=>some (.cons g a j)) n)=some q:=b
  simp only[gD,dD]at b
  have t:∀{l:List T} {j:eZ},lz mask i (g+1) l=some j->dt j o=some k->∃d,o=g+(d+1)/\d<i/\(l[d]? =some k\/(l.length<=d/\k= .undef)):=by
   intro l j ht hl
   obtain⟨d,p,r,c⟩:=v (g+1) l j ht o k hl
   exact⟨d,by omega,r,c⟩
  cases n with
  |nil=>
   simp only at b
   cases hl:jJ mask g with
   |false=>
    rw[hl]at b
    obtain⟨d,p,r,c⟩:=t b f
    refine⟨d+1,p,by omega,.inr ?_⟩
    rcases c with c|c
    ·simp at c
    ·exact⟨by simp,c.2⟩
   |true=>
    rw[hl]at b
    replace b:=dj.1 b;obtain⟨j,ht,b⟩:=b
    simp only[ar]at b;subst b
    rw[mz]at f
    split at f
    ·rename_i u
     simp only[ar]at f
     exact⟨0,by omega,by omega,.inr ⟨by simp,f.symm⟩⟩
    ·obtain⟨d,p,r,c⟩:=t ht f
     refine⟨d+1,p,by omega,.inr ?_⟩
     rcases c with c|c
     ·simp at c
     ·exact⟨by simp,c.2⟩
  |cons x l=>
   simp only at b
   replace b:=dj.1 b;obtain⟨j,ht,b⟩:=b
   simp only[ar]at b;subst b
   rw[mz]at f
   split at f
   ·rename_i u
    simp only[ar]at f;subst f
    exact⟨0,by omega,by omega,.inl (by simp)⟩
   ·obtain⟨d,p,r,c⟩:=t ht f
    refine⟨d+1,p,by omega,?_⟩
    rcases c with c|c
    ·exact .inl (by simpa using c)
    ·exact .inr ⟨by simp;omega,c.2⟩
theorem Ic{n:Nat}{d:List T}{i:eZ}{l:af Obj}{c:af am}(k:fI l μ d c.toList)(o:lz mask n 0 d=some i):
 jS l μ mask ⟨i,.nil⟩ (c++Array.replicate (n-c.size) Go.undef):=by
 intro b j g
 have g: @Bool.rec (λ_=>aa T) (dt .nil b) (dt i b) (jJ mask b)=some j:=g
 cases hl:jJ mask b with
 |false=>rw[hl]at g;simp[dt]at g
 |true=>
  rw[hl]at g
  obtain⟨q,r,s,f⟩:=Ch n 0 d i o b j g
  have p:b=q:=by omega
  subst p
  have t:d.length=c.size:=by simpa using k.1
  rcases f with f|⟨f,rfl⟩
  ·have u:b<d.length:=by
    rcases aD b d.length with h|h
    ·exact h
    ·rw[aM h]at f;simp at f
   have hr:=k.2 b j f
   have:(c++Array.replicate (n-c.size) Go.undef).getD b Go.undef=c.toList.getD b Go.undef:=by
    rw[aW,Array.getElem?_append_left (by omega)]
    simp[List.getD]
   rw[this];exact hr
  ·have:(c++Array.replicate (n-c.size) Go.undef).getD b Go.undef=Go.undef:=by
    rw[aW,Array.getElem?_append_right (by omega)]
    rcases aD (b-c.size) (n-c.size)with h|h
    ·simp[h]
    ·rw[cN (by simpa using h)];rfl
   rw[this];exact .undef
theorem FD{m l:Nat}{k:af Oper->Bool}(q:m<=l):∀(b:Code),lL m k b=true->lL l k b=true:=by
 intro b
 induction b with
 |region id r p=>
  intro h
  simp only[lL,ay]at h|-
  refine⟨?_,h.2⟩
  have d:=h.1
  unfold Qj at d|-
  rw[cu]at d|-
  intro j o
  have:=d j o
  cases n:j.dst with
  |none=>rfl
  |some s=>
   rw[n]at this
   simp only[aG]at this|-
   omega
 |seq a c g i=>intro h;simp only[lL,ay]at h|-;exact⟨g h.1,i h.2⟩
 |cond j a c g i=>intro h;simp only[lL,ay]at h|-;exact⟨g h.1,i h.2⟩
 |block id c f=>intro h;simp only[lL]at h|-;exact f h
 |loop c f=>intro h;simp only[lL]at h|-;exact f h
 |_=>intro _;rfl
def B1(P:ai)(cx:Ctx)(f:aj)(g:Prim):Prop:=
 ∀b h d h',AP g b h=some (d,h')->∀base w μ (c:af am),St cx base w.heap μ h->fI w.heap μ b c.toList->xV P (pK cx base w μ h d h') ((callFunc f c).run P w)
def vY(b:Fun):Bool:= !(b.fn.name== "runtime.NumGoroutine")&&match b.fn.body with
 |none=>false
 |some c=>lL b.fn.ntmps nU c
theorem m9{c:aj}{b:Func}{f:Code}(i:P.funcs[c]? =some b)(k:(b.name== "runtime.NumGoroutine")=false)(g:b.body=some f)(d:af am)(w:World):
 (callFunc c d).run P w= .ok (.enter c d) w:=by
 have j:¬b.name= "runtime.NumGoroutine" :=by simpa using k
 simp[callFunc,i,j,g]
theorem IH(U:P.follows .mixedOrders=true)(iB:iG P cx)(z:mN P cx cf){r:aj}{b:Fun}(C:P.funcs[r]? =some b.fn)(g:vY b=true){B:Nat}{x:List T}{o:T}
 (c:rG cx cf B b.fn b.mask b.j8 x h=some (o,h')) (F:St cx base w.heap μ h) {f:af am} (R:fI w.heap μ x f.toList):
 xV P (pK cx base w μ h o h') ((callFunc r f).run P w):=by
 unfold vY at g
 simp only[ay,bP]at g
 obtain⟨V,g⟩:=g
 unfold rG at c
 cases l:b.fn.body with
 |none=>rw[l]at g;simp at g
 |some y=>
  rw[l]at g c
  simp only at g
  obtain⟨d,t,k⟩:=h
  simp only at c
  replace c:=dj.1 c;obtain⟨aN,Z,c⟩:=c
  replace c:=dj.1 c;obtain⟨⟨q,A,s⟩,S,c⟩:=c
  simp only[km]at c
  have j:(q= .normal\/q= .ret)/\(dB (kq cx b.mask A s b.fn.results.toList) λI=>qH b.j8 d t (hU I) s)=some (o,h'):=by
   cases q with
   |normal=>exact⟨.inl rfl,c⟩
   |exit i=>simp at c
   |ret=>exact⟨.inr rfl,c⟩
  obtain⟨al,j⟩:=j
  replace j:=dj.1 j;obtain⟨I,ae,j⟩:=j
  rw[m9 C V l]
  show Calls P r f w _
  refine calls_of_wp C l ?_
  have G:St cx base w.heap μ ⟨d,d,k⟩:=F.I9 d
  have W:=Ic (mask:=b.mask) (n:=b.fn.ntmps) R Z
  have J:rR cx base b.mask (f.size+(b.fn.ntmps-f.size)) w μ ⟨d,d,k⟩ ⟨aN,.nil⟩ ⟨d,d,k⟩ {tmps:=f++Array.replicate (b.fn.ntmps-f.size) Go.undef,defers:=[]} w:=
   ⟨μ,G,W,oI.refl _ _,wZ.refl _ _,kv.refl G.wf,by simp,rfl⟩
  refine IA (m:=f.size+(b.fn.ntmps-f.size)) (w0:=w) (μ0:=μ) (h0:=⟨d,d,k⟩) (base:=base) (mask:=b.mask) iB z (Ir U iB z) B y (FD (by omega) y g) _ _ q A s S _ _ _ J λv u K=> ?_
  have E:v.defers=[]/\∃p,(results b.fn v.tmps).run P u= .ok p u/\pK cx base w μ ⟨d,t,k⟩ o h' p u:=by
   obtain⟨a7,D,an,ap,av,aA,a6,aE⟩:=K
   obtain⟨p,X,Y⟩:=B9 (P:=P) iB D an ae
   obtain⟨⟨aX,L,M,N,O⟩,Q⟩:=FO (low0:=t) F D aA ap av Y j
   exact⟨aE,p,X,⟨aX,L,M,N,O⟩,Q⟩
  rcases al with rfl|rfl
  ·exact E
  ·exact E
end
end
end Go.TI
