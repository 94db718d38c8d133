/- Texts TiDraw3 to TiCall. -/
import Derived.Test.YtmaeadedikngoaaGreatDoorA5
set_option linter.unusedVariables false
set_option linter.unusedSimpArgs false
set_option linter.defProp false
namespace Go.TI
noncomputable section
structure Dr(P:ai)(cx:Ctx)(cf:iG)(base mask m:Nat)(ops:af Oper)(E:Nat->Env)(Hs:Nat->H)(ws:World)(nc:Mu):Prop where
 iH:iM P cx
 ck:mR P cx cf
 dst:Ej m ops
 tr:Trace cx cf mask ops E Hs
 pI:St cx base ws.heap nc (Hs 0)
 DC:∀i j oi oj,ops[i]? =some oi->ops[j]? =some oj->i<j->(oi.apart ops oj=true/\(hU oi.op=true->hU oj.op=true->nZ oi.op=true/\nZ oj.op=true))\/ju ops i j=true
 back:∀j o,ops[j]? =some o->∀e∈o.after,Region.binds .any e=true->e.on<j
 acu:∀k,k<=ops.size->∀s v,(E k).get mask s=some v->oY (Hs k).size v
 Y9:∀k,k<=ops.size->∀b x,(nc b≠none\/(Hs 0).size<=b)->(Hs k).get b=some x->∀v∈eQ x.ee,oY (Hs k).size v
 grow:∀k,k<ops.size->kE (Hs k) (Hs (k+1))
 wf:∀k,k<=ops.size->(Hs k).eY.length=(Hs k).size
structure Inv(cx:Ctx)(base mask m:Nat)(ops:af Oper)(E:Nat->Env)(Hs:Nat->H)(ws:World)(nc:Mu)(listed:af Bool)(a:Act)(w:World)(μ:Mu)(q:Nat->Nat):Prop where
 cl:Cl ops listed
 size:a.tmps.size=m
 LL:a.defers=[]
 HH:∀b,q b<=ops.size
 kz:∀k b,oq mask ops E k->b<(Hs k).size->ew (Hs k) (Hs (k+1)) b=false->(listed.getD k false=true↔k<q b)
 st:St cx base w.heap μ (PH Hs ops.size q)
 Mz:∀s v,(E (rk ops listed s ops.size)).get mask s=some v->fa w.heap μ v (a.tmps.getD s Go.undef)
 Rb:∀b,μ b≠none↔(nc b≠none\/((Hs 0).size<=b/\b<(Hs ops.size).size/\listed.getD (tM Hs b ops.size-1) false=true))
 ext:oP ws nc w μ
section
variable {P:ai}{cx:Ctx}{cf:iG}{base mask m:Nat}{ops:af Oper}{E:Nat->Env}{Hs:Nat->H}{ws w:World}{nc μ:Mu}{listed:af Bool}{a:Act}{q:Nat->Nat}
def Dr.mono(c:Dr P cx cf base mask m ops E Hs ws nc):∀b,b<ops.size->(Hs b).size<=(Hs (b+1)).size:=λb d=>(c.grow b d).size
def Dr.lt0(c:Dr P cx cf base mask m ops E Hs ws nc){b:Nat}(e:nc b≠none):b<(Hs 0).size:=by
 obtain⟨f,d⟩:=Option.ne_none_iff_exists'.1 e;exact c.pI.ej d
def Dr.still(g:Dr P cx cf base mask m ops E Hs ws nc){b d:Nat}(i:b<ops.size)(h:d<(Hs b).size)(k:¬oq mask ops E b):(Hs (b+1)).get d=(Hs b).get d:=by
 have f:ops[b]? =some ops[b]:=by simp[i]
 rcases mr (g.tr.step b _ f)with⟨_,_,c⟩|⟨l,s,n,_⟩
 ·rw[c]
 ·have e:hU ops[b].op=false:=by
   cases c:hU ops[b].op with
   |false=>rfl
   |true=>exact absurd ⟨_,f,c,l⟩ k
  rcases Gb (h2:=Hs b) e (λ_ _ _=>rfl) (Ha e n)with⟨c,_⟩|⟨r,p,_,_,_,c,_⟩
  ·rw[c]
  ·rw[c];exact H.mD h p
def Dr.ver(f:Dr P cx cf base mask m ops E Hs ws nc){b c:Nat}(k:b<ops.size)(i:c<(Hs b).size)(d:ew (Hs b) (Hs (b+1)) c=true):(Hs (b+1)).get c=(Hs b).get c:=by
 obtain⟨h,e⟩:=H.get_some (f.wf b dj) i;obtain⟨n,g,l⟩:=(f.grow b k).ver c h e;rcases l with rfl|p
 ·rw[e,g]
 ·unfold ew at d;rw[e,g]at d;have d:Nat.beq h.ver n.ver=true:=d;have:=aC d;omega
def Dr.same(d:Dr P cx cf base mask m ops E Hs ws nc){b c:Nat}(g:b<ops.size)(e:c<(Hs b).size)(i:oq mask ops E b->ew (Hs b) (Hs (b+1)) c=false->False):(Hs (b+1)).get c=(Hs b).get c:=by
 by_cases f:oq mask ops E b
 ·cases h:ew (Hs b) (Hs (b+1)) c with
  |true=>exact d.ver g e h
  |false=>exact(i f h).elim
 ·exact d.still g e f
def Dr.wq(c:Dr P cx cf base mask m ops E Hs ws nc){b:Nat}(e:q b<=ops.size)(d:b<(Hs ops.size).size):(PH Hs ops.size q).get b=(Hs (max (q b) (tM Hs b ops.size))).get b:=
 VF c.mono c.wf e d
def Inv.lt(f:Dr P cx cf base mask m ops E Hs ws nc)(c:Inv cx base mask m ops E Hs ws nc listed a w μ q){b:Nat}{d:Loc}(e:μ b=some d):b<(Hs ops.size).size:=c.st.ej e
variable {j:Nat}{o:Oper}
structure Ky(ops:af Oper)(listed:af Bool)(j:Nat)(o:Oper):Prop where
 op:ops[j]? =some o
 lt:j<ops.size
 not:listed.getD j false=false
 before:∀i,ju ops i j=true->listed.getD i false=true
 behind:∀k,ju ops j k=true->listed.getD k false=false
 ZR:∀e∈o.after,Region.binds .any e=true->listed.getD e.on false=true
def G6{listed:af Bool}{c:Nat}(b:listed.getD c true=false):listed.getD c false=false:=by
 rcases aD c listed.size with h'|h'
 ·simp[h']at b|-;exact b
 ·simp[cO h']at b
def rdy(c:Cl ops listed)(n:j∈Region.ready .any ops listed):∃o,Ky ops listed j o:=by
 obtain⟨e,o,d,f⟩:=mem_ready.1 n;have r:j<ops.size:=(Array.getElem?_eq_some_iff.1 d).1;refine⟨o,d,r,G6 e,λs l=>Br c l d f,λb p=> ?_,f⟩;cases g:listed.getD b false with
 |false=>rfl
 |true=>
  have k:b<listed.size:=by
   rcases aD b listed.size with h|h
   ·exact h
   ·simp[cO h]at g
  have i:ops[b]? =some (ops[b]'(by rw[<-c.size];exact k)):=by
   have:b<ops.size:=by rw[<-c.size];exact k
   simp[this]
  have:=Br c p i (c.closed b _ i g);rw[G6 e]at this;simp at this
def Cl.set(b:Cl ops listed)(k:Ky ops listed j o):Cl ops (listed.setIfInBounds j true):=by
 refine⟨by simp[b.size],λh i g hl c e d=> ?_⟩;by_cases f:j=h
 ·subst f;have:i=o:=Option.some.inj (g.symm.trans k.op);subst this;exact getD_set_true (k.ZR c e d)
 ·rw[getD_set_ne false f]at hl;exact getD_set_true (b.closed h i g hl c e d)
def uK(b:Cl ops listed)(c:Ky ops listed j o):(listed.setIfInBounds j true).getD j false=true:=by
 have:j<listed.size:=by rw[b.size];exact c.lt
 simp[this]
def Inv.dF(r:Dr P cx cf base mask m ops E Hs ws nc)(O:Inv cx base mask m ops E Hs ws nc listed a w μ q)(f:Ky ops listed j o){s:Nat}(D:s∈o.looksAt ops):
 (E (rk ops listed s ops.size)).get mask s=(E j).get mask s:=by
 have I:∀b k,ops[b]? =some k->k.dst=some s->(b<j->listed.getD b false=true)/\(j<b->listed.getD b false=false):=by
  intro b k i u;refine⟨λv=> ?_,λv=> ?_⟩
  ·rcases r.DC b j k o i f.op v with⟨t,_⟩|x
   ·exact absurd D ((Oper.apart_spec t).1 s u)
   ·exact f.before b x
  ·rcases r.DC j b o k f.op i v with⟨t,_⟩|x
   ·exact absurd D ((Oper.apart_spec t).2.2 s u)
   ·exact f.behind b x
 have S:rk ops listed s ops.size<=j:=by
  rcases xV (ops:=ops) (listed:=listed) (s:=s) ops.size with h|⟨b,R,K,l,z⟩
  ·omega
  ·have e:ops[b]? =some ops[b]:=by simp[K]
   rw[e]at z;have y:=I b _ e z;rcases cP b j with h|h|h
   ·omega
   ·subst h;rw[f.not]at l;simp at l
   ·rw[y.2 h]at l;simp at l
 have N:∀c,rk ops listed s ops.size+c<=j->(E (rk ops listed s ops.size+c)).get mask s=(E (rk ops listed s ops.size)).get mask s:=by
  intro c;induction c with
  |zero=>intro _;rfl
  |succ c M=>
   intro u;have i:rk ops listed s ops.size+c<ops.size:=by have:=f.lt;omega
   have e:ops[rk ops listed s ops.size+c]? =some ops[rk ops listed s ops.size+c]:=by simp[i]
   rw[<-M dj];have C:ops[rk ops listed s ops.size+c].dst≠some s:=by
    intro A;have y:=(I _ _ e A).1 dj;have:=Iy (n:=ops.size) i y (by rw[e];exact A);omega
   have F:∀p g,(E (rk ops listed s ops.size+c)).dst mask ops[rk ops listed s ops.size+c].dst p=some g->g.get mask s=(E (rk ops listed s ops.size+c)).get mask s:=by
    intro p g d;cases B:ops[rk ops listed s ops.size+c].dst with
    |none=>rw[B]at d;have d:some _=some g:=d;simp only[ar]at d;rw[d]
    |some G=>
     rw[B]at d C;have L:s≠G:=λJ=>C (by rw[J]);rw[Env.AM (show Env.set mask _ G p=some g from d) s,ao L]
   rcases mr (r.tr.step _ _ e)with⟨_,d,_⟩|⟨_,p,_,d⟩
   ·exact F _ _ d
   ·exact F _ _ d
 have:=N (j-rk ops listed s ops.size) dj;rw[show rk ops listed s ops.size+(j-rk ops listed s ops.size)=j by omega]at this;exact this.symm
def Inv.MJ(d:Dr P cx cf base mask m ops E Hs ws nc)(c:Inv cx base mask m ops E Hs ws nc listed a w μ q)(f:Ky ops listed j o):j1 w.heap μ mask (Bj mask (E j) (o.looksAt ops)) a.tmps:=by
 intro g h b;rw[xI]at b;split at b
 ·rename_i e;exact c.Mz g h (by rw[c.dF d f e];exact b)
 ·simp at b
def Inv.A7(r:Dr P cx cf base mask m ops E Hs ws nc)(g:Inv cx base mask m ops E Hs ws nc listed a w μ q)(c:Ky ops listed j o){l:af Obj}{p:Mu}(K:Ext w.heap μ l p){n:T}{t:am}
 (I:fa l p n t) (z:(E j).dst mask o.dst n=some (E (j+1))):∀s f,(E (rk ops (listed.setIfInBounds j true) s ops.size)).get mask s=some f->fa l p f ((a.put o.dst t).tmps.getD s Go.undef):=by
 intro s f e;by_cases d:o.dst=some s
 ·have k:rk ops (listed.setIfInBounds j true) s ops.size=j+1:=by
   have M:=Iy (ops:=ops) (s:=s) c.lt (uK g.cl c) (by rw[c.op];exact d);rcases xV (ops:=ops) (listed:=listed.setIfInBounds j true) (s:=s) ops.size with h|⟨b,L,A,i,u⟩
   ·omega
   ·rcases cP b j with h|h|h
    ·omega
    ·omega
    ·have x:ops[b]? =some ops[b]:=by simp[A]
     rw[x]at u;rw[getD_set_ne false dj]at i;rcases r.DC j b o _ c.op x h with⟨B,_⟩|G
     ·exact absurd u ((Oper.apart_spec B).2.1 s d)
     ·rw[c.behind b G]at i;simp at i
  rw[k]at e;rw[d]at z|-;rw[Env.AM (show Env.set mask _ s n=some _ from z) s]at e;simp only[bo,ar]at e;subst e;have D:s<a.tmps.size:=by rw[g.size];exact r.dst j o s c.op d
  simpa[Act.put,aV,D]using I
 ·have k:rk ops (listed.setIfInBounds j true) s ops.size=rk ops listed s ops.size:=by
   refine Ls λb N v=> ?_;have:j≠b:=by rintro rfl;rw[c.op]at v;exact d v
   exact getD_set_ne false this
  rw[k]at e;have y:=(g.Mz s f e).ext K;cases C:o.dst with
  |none=>exact y
  |some J=>
   have F:J≠s:=by rintro rfl;exact d C
   simpa[Act.put,aV,Array.getElem?_setIfInBounds_ne F]using y
def Inv.looked(d:Dr P cx cf base mask m ops E Hs ws nc)(k:Inv cx base mask m ops E Hs ws nc listed a w μ q)(n:Ky ops listed j o)(y:hU o.op=false)(J:j3 ops mask (E j) o.guard=some true)
 {c:Nat} (B:fU cx mask (E j) (Hs j) o.op=some c) {f:Nat} (L:j<=f) (A:f<=ops.size) (x:c<(Hs f).size) (M:f=j\/f=j+1):
 (PH Hs ops.size q).get c=(Hs f).get c:=by
 have l:c<(Hs ops.size).size:=bE x (mF d.mono A (au _));rw[d.wq (k.HH _) l];have K:tM Hs c ops.size<=f:=(kC d.mono l A).1 x;have v:wJ cx mask ops E Hs j c:=⟨o,n.op,y,J,B⟩;have z:¬oq mask ops E j:=by
  rintro⟨N,r,t,_⟩;rw[n.op]at r;simp only[ar]at r;subst r;rw[y]at t;simp at t
 rcases Nat.le_total (max (q c) (tM Hs c ops.size)) f with G|C
 ·refine(ly d.mono G λb D F=> ?_).symm;have g:c<(Hs b).size:=(kC d.mono l dj).2 dj;by_cases e:oq mask ops E b
  ·have p:b<j:=by
    rcases cP b j with h|h|h
    ·exact h
    ·subst h;exact absurd e z
    ·omega
   cases i:ew (Hs b) (Hs (b+1)) c with
   |true=>exact d.ver dj g i
   |false=>
    rcases d.tr.behind j b c v e p with h|h
    ·rw[i]at h;simp at h
    ·have:=(k.kz b c e g i).1 (n.before b h);omega
  ·exact d.still dj g e
 ·refine ly d.mono C λb D F=> ?_;have I:b<q c:=dj;have u:b<ops.size:=by have:=k.HH c;omega
  have g:c<(Hs b).size:=(kC d.mono l dj).2 dj;by_cases e:oq mask ops E b
  ·have p:j<b:=by
    rcases cP b j with h|h|h
    ·omega
    ·subst h;exact absurd e z
    ·exact h
   cases i:ew (Hs b) (Hs (b+1)) c with
   |true=>exact d.ver u g i
   |false=>
    rcases d.tr.ahead j b c v e p with h|h
    ·rw[i]at h;simp at h
    ·have s:=(k.kz b c e g i).2 I;rw[n.behind b h]at s;simp at s
  ·exact d.still u g e
def Inv.want(b:Dr P cx cf base mask m ops E Hs ws nc)(c:Inv cx base mask m ops E Hs ws nc listed a w μ q)(k:Ky ops listed j o){d:Bool}(g:j3 ops mask (E j) o.guard=some d):
 Region.wanted o (yielded ops a.tmps)=d:=
 AZ (c.MJ b k) (λh i l e f=>by rw[c.size];exact b.dst h i l e f) (by rw[HL];exact g)
def Dr.made(c:Dr P cx cf base mask m ops E Hs ws nc)(i:j<ops.size){b:Nat}(f:b<(Hs ops.size).size):tM Hs b ops.size=j+1↔((Hs j).size<=b/\b<(Hs (j+1)).size):=by
 have d:=kC c.mono f (show j<=ops.size by omega);have e:=kC c.mono f (show j+1<=ops.size by omega);constructor
 ·intro h;refine⟨?_,e.2 dj⟩;rcases aD b (Hs j).size with k|k
  ·have:=d.1 k;omega
  ·exact k
 ·rintro⟨l,g⟩;have:=e.1 g;have:¬tM Hs b ops.size<=j:=λk=>by have:=d.2 k;omega
  omega
def Dr.cr0(c:Dr P cx cf base mask m ops E Hs ws nc){b:Nat}(d:b<(Hs ops.size).size)(e:(Hs 0).size<=b):0<tM Hs b ops.size:=by
 rcases Nat.eq_zero_or_pos (tM Hs b ops.size)with h|h
 ·have:=(kC c.mono d (aw _)).2 dj;omega
 ·exact h
def Dr.Ad(c:Dr P cx cf base mask m ops E Hs ws nc)(f:j<ops.size){b:Nat}(d:b<(Hs ops.size).size)(e:(Hs 0).size<=b)(g:¬((Hs j).size<=b/\b<(Hs (j+1)).size)):
 (listed.setIfInBounds j true).getD (tM Hs b ops.size-1) false=listed.getD (tM Hs b ops.size-1) false:=by
 refine getD_set_ne false λh=>g ?_;have:=c.cr0 d e;exact(c.made f d).1 dj 
def Inv.Fd(f:Dr P cx cf base mask m ops E Hs ws nc)(k:Inv cx base mask m ops E Hs ws nc listed a w μ q)(h:Ky ops listed j o)(g:(Hs (j+1)).size=(Hs j).size){i:Mu}(l:∀b,i b≠none↔μ b≠none):
 ∀b,i b≠none↔(nc b≠none\/((Hs 0).size<=b/\b<(Hs ops.size).size/\(listed.setIfInBounds j true).getD (tM Hs b ops.size-1) false=true)):=by
 intro b;rw[l,k.Rb];refine or_congr Iff.rfl ⟨λ⟨c,d,e⟩=>⟨c,d,?_⟩,λ⟨c,d,e⟩=>⟨c,d,?_⟩⟩
 ·rw[f.Ad h.lt d c (by rw[g];omega)];exact e
 ·rw[f.Ad h.lt d c (by rw[g];omega)]at e;exact e
def BA(e:Ky ops listed j o)(h:hU o.op=false\/j3 ops mask (E j) o.guard=some false):¬oq mask ops E j:=by
 rintro⟨f,b,c,d⟩;rw[e.op]at b;simp only[ar]at b;subst b;rcases h with h|h
 ·rw[h]at c;simp at c
 ·rw[h]at d;simp at d
def Inv.Cb(e:Inv cx base mask m ops E Hs ws nc listed a w μ q)(g:¬oq mask ops E j):
 ∀b c,oq mask ops E b->c<(Hs b).size->ew (Hs b) (Hs (b+1)) c=false->((listed.setIfInBounds j true).getD b false=true↔b<q c):=by
 intro b c d f h;have:j≠b:=by rintro rfl;exact g d
 rw[getD_set_ne false this];exact e.kz b c d f h
variable {Q:Exit->Act->World->Prop}
def Inv.skip(d:Dr P cx cf base mask m ops E Hs ws nc)(b:Inv cx base mask m ops E Hs ws nc listed a w μ q)(c:Ky ops listed j o)(g:j3 ops mask (E j) o.guard=some false)
 (f:(E j).dst mask o.dst .undef=some (E (j+1))) (e:Hs (j+1)=Hs j):Inv cx base mask m ops E Hs ws nc (listed.setIfInBounds j true) (a.put o.dst Go.undef) w μ q:=
 ⟨b.cl.set c,by rw[Act.o9];exact b.size,by rw[Act.pf];exact b.LL,b.HH,b.Cb (BA c (.inr g)),b.st,
   b.A7 d c (Ext.refl _ _) .undef f,b.Fd d c (by rw[e]) λ_=>Iff.rfl,b.ext⟩
def Inv.quiet(r:Dr P cx cf base mask m ops E Hs ws nc)(e:Inv cx base mask m ops E Hs ws nc listed a w μ q)(p:Ky ops listed j o)(ca:j3 ops mask (E j) o.guard=some true)(V:hU o.op=false){v:T}
 (bn:Dq cx cf mask (E j) (Hs j) o.op v (Hs (j+1))) (b8:(E j).dst mask o.dst v=some (E (j+1))):
 yv P (λY R=>∃s,Inv cx base mask m ops E Hs ws nc (listed.setIfInBounds j true) (a.put o.dst Y) R s q) ((execOp a.eval o).run P w):=by
 have b6:=BA (mask:=mask) (E:=E) p (.inl V);have b7:=Ha V bn;have ap:∀C∈o.op.operands,fy cx mask (E j) C=fy cx mask (Bj mask (E j) (o.looksAt ops)) C:=λC bn=>yQ bn;rw[yR ap]at b7;have di:∀b,fU cx mask (Bj mask (E j) (o.looksAt ops)) (Hs j) o.op=some b->b<(Hs j).size->(PH Hs ops.size q).get b=(Hs j).get b:=by
  intro b c aX;rw[<-uU ap]at c;exact e.looked r p V ca c (au _) (bp p.lt) aX (.inl rfl)
 rcases Gb V di b7 with⟨Z,bk⟩|⟨f,C,F,c,ea,Z,bk⟩
 ·
  refine((xN r.iH e.st (e.MJ r p) bk).Yl).mono λY R an=> ?_;obtain⟨s,A,t,x,O⟩:=an;refine⟨s,e.cl.set p,by rw[Act.o9];exact e.size,by rw[Act.pf];exact e.LL,e.HH,e.Cb b6,t,e.A7 r p x.ext A b8,?_,e.ext.trans x⟩;refine e.Fd r p (by rw[Z]) λb=>⟨λc=> ?_,λc=> ?_⟩
  ·rcases O.2.1 b c with h|h
   ·exact h
   ·omega
  ·obtain⟨d,L⟩:=Option.ne_none_iff_exists'.1 c;obtain⟨M,U,_⟩:=x.ext.mu b d L;rw[U];simp
 ·
  subst ea;have al:(PH Hs ops.size q).size=(Hs ops.size).size:=rfl;have b9:(Hs (j+1)).size=(Hs j).size+1:=by rw[Z];rfl
  have bN:(Hs j).size<(Hs ops.size).size:=by
   have:=mF r.mono (show j+1<=ops.size from p.lt) (au _);omega
  have bC:(Hs 0).size<=(Hs j).size:=mF r.mono (aw _) (bp p.lt);have bS:tM Hs (Hs j).size ops.size=j+1:=(r.made p.lt bN).2 ⟨au _,dj⟩;have eh:μ (Hs j).size=none:=by
   cases a7:μ (Hs j).size with
   |none=>rfl
   |some d=>
    exfalso;rcases(e.Rb (Hs j).size).1 (by rw[a7];simp)with h|⟨_,_,h⟩
    ·have:=r.lt0 h;omega
    ·rw[bS]at h;simp only[Nat.add_sub_cancel]at h;rw[p.not]at h;simp at h
  have bT:(Hs (j+1)).get (Hs j).size=some C:=by rw[Z];exact H.sa (r.wf j (bp p.lt)) C
  have dn:(PH Hs ops.size q).get (Hs j).size=some C:=by
   rw[<-uU ap]at c;rw[e.looked r p V ca c (show j<=j+1 by omega) p.lt dj (.inr rfl)];exact bT
  refine((xN r.iH e.st (e.MJ r p) bk).Yl).mono λY R an=> ?_;obtain⟨s,A,t,x,O⟩:=an;rw[al]at A O;have c9:((PH Hs ops.size q).cons C).size=(Hs ops.size).size+1:=rfl;rw[c9]at O;have cb:s (Hs ops.size).size≠none:=O.2.2 _ (au _) dj;have a6:∀b d,μ b=some d->b<(Hs ops.size).size:=λb d c=>e.st.ej c;have av:∀b,b≠(Hs ops.size).size->(s b≠none↔μ b≠none):=by
   intro b ey;constructor
   ·intro c;rcases O.2.1 b c with h|h
    ·exact h
    ·omega
   ·intro c;obtain⟨d,L⟩:=Option.ne_none_iff_exists'.1 c;obtain⟨M,U,_⟩:=x.ext.mu b d L;rw[U];simp
  have ef:s (Hs j).size=none:=by
   cases a7:s (Hs j).size with
   |none=>rfl
   |some d=>exact absurd eh ((av _ dj).1 (by rw[a7];simp))
  obtain⟨et,eu⟩:=Option.ne_none_iff_exists'.1 cb
  let y:Mu:=⟨λb=>if b=(Hs j).size then s (Hs ops.size).size else if b=(Hs ops.size).size then none else s b,s.oD⟩
  have B:y (Hs j).size=s (Hs ops.size).size:=by simp[y]
  have N:y (Hs ops.size).size=none:=by
   have:(Hs ops.size).size≠(Hs j).size:=dj;simp[y,this]
  have I:∀b,b≠(Hs j).size->b≠(Hs ops.size).size->y b=s b:=λb i k=>by simp[y,i,k]
  have aN:∀G,mN y G->mN s G:=by
   rintro G (⟨b,d,c,hl⟩|hr)
   ·by_cases i:b=(Hs j).size
    ·subst i;rw[B]at c;exact .inl ⟨_,d,c,hl⟩
    ·by_cases k:b=(Hs ops.size).size
     ·subst k;rw[N]at c;simp at c
     ·rw[I b i k]at c;exact .inl ⟨b,d,c,hl⟩
   ·exact .inr hr
  have a8:∀b d,b<(Hs ops.size).size->s b=some d->y b=some d:=by
   intro b d c L;have i:b≠(Hs j).size:=by rintro rfl;rw[ef]at L;simp at L
   rw[I b i dj];exact L
  have aE:Ext w.heap μ R.heap y:=by
   refine⟨x.ext.size,λG de dk=> ?_,λb d c=> ?_,x.ext.oD,x.ext.kept⟩
   ·obtain⟨eo,er⟩:=x.ext.mT G de dk;exact⟨eo,λh=>er (aN G h)⟩
   ·obtain⟨M,U,dm⟩:=x.ext.mu b d c;exact⟨M,a8 b M (a6 b d c) U,dm⟩
  have ds:fa R.heap y (f (Hs j).size) Y:=by
   rcases F with F|⟨l,F⟩|F|F
   ·rw[F]at A|-;cases A with|ptr _ _ _ _ d S c aA c4=>exact .ptr _ _ _ _ d S (by rw[B];exact c) aA c4
   ·rw[F]at A|-;cases A with|arr _ _ _ _ _ d S cp c aA hl h=>exact .arr _ _ _ _ _ d S cp (by rw[B];exact c) aA hl h
   ·rw[F]at A|-;cases A with|iter _ d S c h=>exact .iter _ d S (by rw[B];exact c) h
   ·rw[F]at A|-;cases A with|map _ d G c h=>exact .map _ d G (by rw[B];exact c) h
  have dv:St cx base R.heap y (PH Hs ops.size q):=by
   refine⟨Ei _ _ _,t.fit,λb d c=> ?_,λb ce d M c c6 hl=> ?_,λb d c=> ?_,λb d c=> ?_,t.pS,λg cL dd=> ?_⟩
   ·by_cases i:b=(Hs j).size
    ·subst i;rw[B]at c;obtain⟨X,W,bi⟩:=t.box _ d c;have eb:X=C:=by
      have:=H.sa (Ei Hs ops.size q) C;rw[al,W]at this;simpa using this
     subst eb;refine⟨X,dn,bi.conv (n:=(Hs ops.size).size) (λu bl=> ?_) a8 aN⟩;exact(r.Y9 (j+1) p.lt _ X (.inr bC) bT u bl).mono dj
    ·by_cases k:b=(Hs ops.size).size
     ·subst k;rw[N]at c;simp at c
     ·rw[I b i k]at c;obtain⟨X,W,bi⟩:=t.box b d c;have c7:μ b≠none:=(av b k).1 (by rw[c];simp);obtain⟨bu,bH⟩:=Option.ne_none_iff_exists'.1 c7;have aX:=a6 b bu bH;rw[H.mD (by rw[al];exact aX)]at W;refine⟨X,W,bi.conv (n:=(Hs ops.size).size) (λu bl=> ?_) a8 aN⟩;obtain⟨z,bs,ec⟩:=e.st.box b bu bH;rw[W]at bs;simp only[ar]at bs;subst bs;exact ec.low a6 u bl
   ·have bz:∀b d,y b=some d->(b=(Hs j).size/\s (Hs ops.size).size=some d)\/(b≠(Hs j).size/\b≠(Hs ops.size).size/\s b=some d):=by
     intro b d c;by_cases i:b=(Hs j).size
     ·subst i;rw[B]at c;exact .inl ⟨rfl,c⟩
     ·by_cases k:b=(Hs ops.size).size
      ·subst k;rw[N]at c;simp at c
      ·rw[I b i k]at c;exact .inr ⟨i,k,c⟩
    rcases bz b d c with⟨J,D⟩|⟨J,D,K⟩<;>rcases bz ce M c6 with⟨c1,ae⟩|⟨c1,ae,bB⟩
    ·omega
    ·exact absurd (t.inj _ _ _ _ D bB hl).symm ae
    ·exact absurd (t.inj _ _ _ _ K ae hl) D
    ·exact t.inj _ _ _ _ K bB hl
   ·by_cases i:b=(Hs j).size
    ·subst i;rw[B]at c;exact t.low _ _ c
    ·by_cases k:b=(Hs ops.size).size
     ·subst k;rw[N]at c;simp at c
     ·rw[I b i k]at c;exact t.low _ _ c
   ·by_cases i:b=(Hs j).size
    ·subst i;rw[B]at c;exact t.apart _ _ c
    ·by_cases k:b=(Hs ops.size).size
     ·subst k;rw[N]at c;simp at c
     ·rw[I b i k]at c;exact t.apart _ _ c
   ·exact(e.st.x6 g cL dd).ext aE
  refine⟨y,e.cl.set p,by rw[Act.o9];exact e.size,by rw[Act.pf];exact e.LL,e.HH,e.Cb b6,dv,e.A7 r p aE ds b8,λb=> ?_,
   e.ext.trans ⟨aE,x.os,x.tape,x.output⟩⟩
  by_cases i:b=(Hs j).size
  ·subst i;refine⟨λ_=> .inr ⟨bC,bN,?_⟩,λ_=>by rw[B];exact cb⟩;rw[bS];exact uK e.cl p
  ·by_cases k:b=(Hs ops.size).size
   ·subst k;refine⟨λh=>absurd N h,λh=> ?_⟩;rcases h with h|⟨_,h,_⟩
    ·have:=r.lt0 h;omega
    ·omega
   ·rw[I b i k,av b k,e.Rb];refine or_congr Iff.rfl ⟨λ⟨J,D,K⟩=>⟨J,D,?_⟩,λ⟨J,D,K⟩=>⟨J,D,?_⟩⟩
    ·rw[r.Ad p.lt D J (by rw[b9];omega)];exact K
    ·rw[r.Ad p.lt D J (by rw[b9];omega)]at K;exact K
def Inv.acv(k:Dr P cx cf base mask m ops E Hs ws nc)(f:Inv cx base mask m ops E Hs ws nc listed a w μ q)(G:Ky ops listed j o)(dm:j3 ops mask (E j) o.guard=some true)(cp:hU o.op=true)
 (b7:∀i W,ops[i]? =some W->hU W.op=true->(i<j->ju ops i j=true)/\(j<i->ju ops j i=true)) {v:T}
 (C:Dq cx cf mask (E j) (Hs j) o.op v (Hs (j+1))) (dd:(E j).dst mask o.dst v=some (E (j+1))):
 yv P (λc al=>∃I,Inv cx base mask m ops E Hs ws nc (listed.setIfInBounds j true) (a.put o.dst c) al I (λ_=>j+1)) ((execOp a.eval o).run P w):=by
 have ec:oq mask ops E j:=⟨o,G.op,cp,dm⟩;have bH:∀i,oq mask ops E i->i<j->listed.getD i false=true:=by
  rintro i ⟨W,L,B,_⟩ bz;exact G.before i ((b7 i W L B).1 bz)
 have bi:∀i,oq mask ops E i->j<i->listed.getD i false=false:=by
  rintro i ⟨W,L,B,_⟩ bz;exact G.behind i ((b7 i W L B).2 bz)
 have r:=G.lt;have ef:(Hs j).size<=(Hs (j+1)).size:=k.mono j r;have eh:(Hs (j+1)).size<=(Hs ops.size).size:=mF k.mono (show j+1<=ops.size from r) (au _);have ea:(Hs 0).size<=(Hs j).size:=mF k.mono (aw _) (bp r);have cb:∀b,b<(Hs j).size->(PH Hs ops.size q).get b=(Hs j).get b:=by
  intro b e;have t:b<(Hs ops.size).size:=dj;rw[k.wq (f.HH _) t];have bN:tM Hs b ops.size<=j:=(kC k.mono t (bp r)).1 e;rcases Nat.le_total (max (q b) (tM Hs b ops.size)) j with c4|c1
  ·refine(ly k.mono c4 λi bn bs=> ?_).symm;have R:b<(Hs i).size:=(kC k.mono t dj).2 dj;refine k.same dj R λB Z=> ?_;have:=(f.kz i b B R Z).1 (bH i B bs);omega
  ·refine ly k.mono c1 λi bn bs=> ?_;have c9:=f.HH b;have R:b<(Hs i).size:=(kC k.mono t dj).2 dj;refine k.same dj R λB Z=> ?_;have hl:=(f.kz i b B R Z).2 dj;rcases Nat.eq_or_lt_of_le bn with h|h
   ·subst h;rw[G.not]at hl;simp at hl
   ·rw[bi i B h]at hl;simp at hl
 have cL:∀b d,μ b=some d->b<(Hs j).size\/(Hs (j+1)).size<=b:=by
  intro b d e;rcases aD b (Hs j).size with h|h
  ·exact .inl h
  ·right;rcases aD b (Hs (j+1)).size with l|l
   ·exfalso;have t:b<(Hs ops.size).size:=dj;rcases(f.Rb b).1 (by rw[e];simp)with g|⟨_,_,g⟩
    ·have:=k.lt0 g;omega
    ·rw[(k.made r t).2 ⟨h,l⟩]at g;simp only[Nat.add_sub_cancel]at g;rw[G.not]at g;simp at g
   ·exact l
 have ce:∀b,μ b≠none->nc b≠none\/(Hs 0).size<=b:=λb e=>by
  rcases(f.Rb b).1 e with g|⟨g,_⟩
  ·exact .inl g
  ·exact .inr g
 let N:Mu:=⟨λb=>if b<(Hs j).size then μ b else none,λp=>μ.oD p\/∃b d,(Hs j).size<=b/\μ b=some d/\d.iD=p⟩
 have aX:∀b,b<(Hs j).size->N b=μ b:=λb e=>by simp[N,e]
 have O:∀b d,N b=some d->b<(Hs j).size/\μ b=some d:=by
  intro b d e;by_cases h:b<(Hs j).size
  ·rw[aX b h]at e;exact⟨h,e⟩
  ·simp[N,h]at e
 have an:∀p,mN N p->mN μ p:=by
  rintro p (⟨b,d,e,hl⟩|hr|⟨b,d,e,D,hl⟩)
  ·exact .inl ⟨b,d,(O b d e).2,hl⟩
  ·exact .inr hr
  ·exact .inl ⟨b,d,D,hl⟩
 have ap:∀b d,b<(Hs j).size->μ b=some d->N b=some d:=λb d e D=>by rw[aX b e];exact D
 have dv:St cx base w.heap N (Hs j):=by
  refine⟨k.wf j (bp r),f.st.fit,λb d e=> ?_,λb K d y e aE hl=> ?_,λb d e=> ?_,λb d e=> ?_,λp hr=> ?_,λg a6 bk=> ?_⟩
  ·obtain⟨x,l⟩:=O b d e;obtain⟨V,C,L⟩:=f.st.box b d l;rw[cb b x]at C;exact⟨V,C,L.conv (k.Y9 j (bp r) b V (ce b (by rw[l];simp)) C) ap an⟩
  ·exact f.st.inj b K d y (O b d e).2 (O K y aE).2 hl
  ·exact f.st.low b d (O b d e).2
  ·rintro(hr|⟨K,y,aE,Y,hl⟩)
   ·exact f.st.apart b d (O b d e).2 hr
   ·have:=f.st.inj K b y d Y (O b d e).2 hl;have:=(O b d e).1;omega
  ·rcases hr with hr|⟨b,d,_,D,hl⟩
   ·exact f.st.pS p hr
   ·rw[<-hl];exact f.st.lt D
  ·have bS:=f.st.x6 g a6 bk;refine bS.conv (n:=0) ?_ (λb d e=>by omega) an;obtain⟨_,_,_,_,_,_,_,_,_,de,_⟩:=bS.lm;exact .je _ λu U=>(de u U).2.low 0
 have ds:j1 w.heap N mask (Bj mask (E j) (o.looksAt ops)) a.tmps:=by
  intro s u U;refine(f.MJ k G s u U).conv (n:=(Hs j).size) ?_ ap an
  rw[xI]at U;split at U
  ·exact k.acu j (bp r) s u U
  ·simp at U
 have dn:=C.congr (e':=Bj mask (E j) (o.looksAt ops)) λV C=>yQ C;refine(B8 k.iH k.ck dv ds dn).mono λc al ca=> ?_;obtain⟨⟨I,b8,S,F,b9⟩,_⟩:=ca
 let J:Mu:=⟨λb=>if b<(Hs (j+1)).size then I b else μ b,μ.oD⟩
 have av:∀b,b<(Hs (j+1)).size->J b=I b:=λb e=>by simp[J,e]
 have aA:∀b,(Hs (j+1)).size<=b->J b=μ b:=λb e=>by
  have:¬b<(Hs (j+1)).size:=dj;simp[J,this]
 have bB:I.oD=N.oD:=F.ext.oD;have bu:∀b d,(Hs (j+1)).size<=b->μ b=some d->I.oD d.iD:=by
  intro b d e D;rw[bB];exact .inr ⟨b,d,dj,D,rfl⟩
 have a7:∀p,mN J p->mN I p:=by
  rintro p (⟨b,d,e,hl⟩|hr)
  ·by_cases h:b<(Hs (j+1)).size
   ·rw[av b h]at e;exact .inl ⟨b,d,e,hl⟩
   ·rw[aA b dj]at e;right;rw[<-hl];exact bu b d dj e
  ·right;rw[bB];exact .inl hr
 have b6:∀b d,I b=some d->b<(Hs (j+1)).size:=λb d e=>S.ej e;have a8:∀b d,b<(Hs (j+1)).size->I b=some d->J b=some d:=λb d e D=>by rw[av b e];exact D
 have aN:Ext w.heap μ al.heap J:=by
  refine⟨F.ext.size,λp bl c6=> ?_,λb d e=> ?_,rfl,λp bl hr=>F.ext.kept p bl (.inl hr)⟩
  ·obtain⟨z,A⟩:=F.ext.mT p bl λh=>c6 (an p h);exact⟨z,λh=>A (a7 p h)⟩
  ·rcases cL b d e with h|h
   ·obtain⟨y,Y,c7⟩:=F.ext.mu b d (ap b d h e);exact⟨y,a8 b y dj Y,c7⟩
   ·exact⟨d,by rw[aA b h];exact e,.inl rfl⟩
 have di:St cx base al.heap J (PH Hs ops.size (λ_=>j+1)):=by
  have ae:∀b d,J b=some d->(b<(Hs (j+1)).size/\I b=some d)\/((Hs (j+1)).size<=b/\μ b=some d):=by
   intro b d e;by_cases h:b<(Hs (j+1)).size
   ·rw[av b h]at e;exact .inl ⟨h,e⟩
   ·rw[aA b dj]at e;exact .inr ⟨dj,e⟩
  refine⟨Ei _ _ _,S.fit,λb d e=> ?_,λb K d y e aE hl=> ?_,λb d e=> ?_,λb d e hr=> ?_,λp hr=> ?_,λg a6 bk=>(f.st.x6 g a6 bk).ext aN⟩
  ·rcases ae b d e with⟨x,l⟩|⟨x,l⟩
   ·obtain⟨V,C,L⟩:=S.box b d l;have t:b<(Hs ops.size).size:=dj;have bN:tM Hs b ops.size<=j+1:=(kC k.mono t (show j+1<=ops.size from r)).1 x;refine⟨V,?_,L.conv (L.low b6) a8 a7⟩;rw[k.wq (q:=λ_=>j+1) (show j+1<=ops.size from r) t,show max (j+1) (tM Hs b ops.size)=j+1 by omega];exact C
   ·obtain⟨V,C,L⟩:=f.st.box b d l;have t:b<(Hs ops.size).size:=f.st.ej l;have bN:¬tM Hs b ops.size<=j+1:=λh=>by
     have:=(kC k.mono t (show j+1<=ops.size from r)).2 h;omega
    refine⟨V,?_,L.ext aN ?_⟩
    ·rw[k.wq (f.HH _) t]at C;rw[k.wq (q:=λ_=>j+1) (show j+1<=ops.size from r) t,show max (j+1) (tM Hs b ops.size)=tM Hs b ops.size by omega];rw[<-C];refine(ly k.mono dj λi bn bs=> ?_).symm;have c9:=f.HH b;have eb:=Fh Hs b ops.size;have R:b<(Hs i).size:=(kC k.mono t dj).2 dj;refine k.same dj R λB Z=> ?_;have hl:=(f.kz i b B R Z).2 dj;rw[bi i B dj]at hl;simp at hl
    ·exact F.ext.kept d.iD (f.st.lt l) (.inr ⟨b,d,dj,l,rfl⟩)
  ·rcases ae b d e with⟨x,l⟩|⟨x,l⟩<;>rcases ae K y aE with⟨bC,X⟩|⟨bC,X⟩
   ·exact S.inj b K d y l X hl
   ·exact absurd (by rw[hl];exact bu K y bC X) (S.apart b d l)
   ·exact absurd (by rw[<-hl];exact bu b d x l) (S.apart K y X)
   ·exact f.st.inj b K d y l X hl
  ·rcases ae b d e with⟨x,l⟩|⟨x,l⟩
   ·exact S.low b d l
   ·exact f.st.low b d l
  ·rcases ae b d e with⟨x,l⟩|⟨x,l⟩
   ·exact S.apart b d l (by rw[bB];exact .inl hr)
   ·exact f.st.apart b d l hr
  ·exact bE (f.st.pS p hr) F.ext.size
 have dk:fa al.heap J v c:=b8.conv (b8.low b6) a8 a7;refine⟨J,f.cl.set G,by rw[Act.o9];exact f.size,by rw[Act.pf];exact f.LL,λ_=>r,λi b bT _ _=> ?_,di,f.A7 k G aN dk dd,λb=> ?_,
  f.ext.trans ⟨aN,F.os,F.tape,F.output⟩⟩
 ·rcases cP i j with h|h|h
  ·rw[getD_set_ne false dj,bH i bT h];simp;omega
  ·subst h;rw[uK f.cl G];simp
  ·rw[getD_set_ne false dj,bi i bT h];simp;omega
 ·by_cases x:b<(Hs (j+1)).size
  ·rw[av b x];have t:b<(Hs ops.size).size:=dj;by_cases l:b<(Hs j).size
   ·have:I b≠none↔μ b≠none:=by
     constructor
     ·intro e;rcases b9.2.1 b e with g|g
      ·rwa[aX b l]at g
      ·omega
     ·intro e;obtain⟨d,D⟩:=Option.ne_none_iff_exists'.1 e;obtain⟨y,Y,_⟩:=F.ext.mu b d (ap b d l D);rw[Y];simp
    rw[this,f.Rb];refine or_congr Iff.rfl ⟨λ⟨z,A,M⟩=>⟨z,A,?_⟩,λ⟨z,A,M⟩=>⟨z,A,?_⟩⟩
    ·rw[k.Ad r A z dj];exact M
    ·rw[k.Ad r A z dj]at M;exact M
   ·refine⟨λ_=> .inr ⟨dj,t,?_⟩,λ_=>b9.2.2 b dj x⟩;rw[(k.made r t).2 ⟨dj,x⟩];exact uK f.cl G
  ·rw[aA b dj,f.Rb];refine or_congr Iff.rfl ⟨λ⟨z,A,M⟩=>⟨z,A,?_⟩,λ⟨z,A,M⟩=>⟨z,A,?_⟩⟩
   ·rw[k.Ad r A z dj];exact M
   ·rw[k.Ad r A z dj]at M;exact M
def Mr{e n f:H}{C:Ty}{c z p B:Nat}{r:T}(b:e.store C (.ptr c z p B) r=some n)(Y:e.eY.length=e.size)(Z:f.eY.length=f.size)(G:f.get c=e.get c):
 n.size=e.size/\(∀h,h≠c->n.get h=e.get h)/\ew e n c=false/\c<e.size/\∃d,f.store C (.ptr c z p B) r=some d/\d.size=f.size/\d.eY.length=d.size/\d.get c=n.get c/\∀h,h≠c->d.get h=f.get h:=by
 have b:fP (Nat.beq (kx r.cells) C.size) (dJ (e.get c) λF=> @iJ.rec (λ_=>aa H) (λu i g exact t l=>
  fP (Nat.beq i z) (@Bool.rec (λ_=>aa H) (dJ (lF l p) λx=>dJ (mt x B r.cells) λy=>dJ (kj l p y) λs=>
   dJ (f6 (Nat.succ g)) λk=>e.put c ⟨u,i,k,exact,false,s⟩) none t)) F)=some n:=b
 obtain⟨I,b⟩:=dI.1 b;replace b:=dA.1 b;obtain⟨⟨u,i,g,N,t,l⟩,v,b⟩:=b;obtain⟨J,b⟩:=dI.1 b;cases t with
 |true=>simp at b
 |false=>
  replace b:=dA.1 b;obtain⟨x,K,b⟩:=b;replace b:=dA.1 b;obtain⟨y,L,b⟩:=b;replace b:=dA.1 b;obtain⟨s,M,b⟩:=b;replace b:=dA.1 b;obtain⟨k,D,b⟩:=b;have X:k=g+1:=by rw[iq]at D;simpa using D.symm
  obtain⟨p1,p2,p3,p4⟩:=AH b Y;have V:c<f.size:=H.ej (G.trans v);have A:∃d,f.put c ⟨u,i,k,N,false,s⟩=some d:=⟨_,H.uO.2 ⟨V,dj,rfl⟩⟩;obtain⟨d,A⟩:=A;obtain⟨O,R,S,U⟩:=AH A Z;refine⟨p1,p4,?_,H.ej v,d,?_,O,R,by rw[S,p3],U⟩
  ·unfold ew;rw[v,p3];show Nat.beq g k=false;rw[X];cases W:Nat.beq g (g+1)with
   |false=>rfl
   |true=>have:=aC W;omega
  ·show fP (Nat.beq (kx r.cells) C.size) (dJ (f.get c) λF=> @iJ.rec (λ_=>aa H) (λu i g exact t l=>
    fP (Nat.beq i z) (@Bool.rec (λ_=>aa H) (dJ (lF l p) λx=>dJ (mt x B r.cells) λy=>dJ (kj l p y) λs=>
     dJ (f6 (Nat.succ g)) λk=>f.put c ⟨u,i,k,exact,false,s⟩) none t)) F)=some d
   rw[G,v];simp only[I,J,K,L,M,D,gX,dO,A]
def Dr.Ms(p:Dr P cx cf base mask m ops E Hs ws nc){c:Nat}{i:Oper}(l:ops[c]? =some i)(D:nZ i.op=true)(R:oq mask ops E c):
 ∃e,Tt cx mask ops E c e/\e<(Hs c).size/\(Hs (c+1)).size=(Hs c).size/\(∀f,f≠e->(Hs (c+1)).get f=(Hs c).get f)/\ew (Hs c) (Hs (c+1)) e=false/\
  ∀d:H,d.eY.length=d.size->d.get e=(Hs c).get e->∃g,iW i.op cx mask (E c) d=some (.val .undef g)/\g.size=d.size/\g.eY.length=g.size/\g.get e=(Hs (c+1)).get e/\∀f,f≠e->g.get f=d.get f:=by
 obtain⟨al,s,_,F⟩:=R;rw[l]at s;simp only[ar]at s;subst s;have C:c<ops.size:=(Array.getElem?_eq_some_iff.1 l).1;rcases mr (p.tr.step c _ l)with⟨G,_⟩|⟨_,h,b,_⟩
 ·rw[F]at G;simp at G
 ·cases t:i.op with
  |store v x y=>
   rw[t]at b;rcases b with b|⟨M,I,b,_⟩
   ·have b:(dJ (cx.ty v) λn=>dJ (fy cx mask (E c) x) λa=>dJ (fy cx mask (E c) y) λh=>fP h.gD (dJ ((Hs c).store n a h) λk=>some (kW.val .undef k)))=some (.val h (Hs (c+1))):=b;replace b:=dA.1 b;obtain⟨n,J,b⟩:=b;replace b:=dA.1 b;obtain⟨T,z,b⟩:=b;replace b:=dA.1 b;obtain⟨an,K,b⟩:=b;obtain⟨L,b⟩:=dI.1 b;replace b:=dA.1 b;obtain⟨k,A,b⟩:=b;simp only[ar,kW.val.injEq]at b;obtain⟨rfl,rfl⟩:=b;cases T with
    |ptr e Y Z ae=>
     have B:∀d:H,d.eY.length=d.size->d.get e=(Hs c).get e->_:=λd u r=>Mr A (p.wf c (bp C)) u r;obtain⟨U,V,W,X,_⟩:=B (Hs c) (p.wf c (bp C)) rfl;refine⟨e,⟨i,v,x,y,l,t,F,by rw[z];rfl⟩,X,U,V,W,λd u r=> ?_⟩;obtain⟨_,_,_,_,g,N,O⟩:=B d u r;refine⟨g,?_,O⟩;show(dJ (cx.ty v) λn=>dJ (fy cx mask (E c) x) λa=>dJ (fy cx mask (E c) y) λh=>fP h.gD (dJ (d.store n a h) λk=>some (kW.val .undef k)))=_;rw[J,z,K];simp only[dO,L,gX,N]
    |_=>simp[H.store]at A
   ·exact absurd b (BC (λf S=>by simp at S) M I)
  |_=>rw[t]at D;simp[nZ]at D
def Inv.Za(g:Dr P cx cf base mask m ops E Hs ws nc)(i:Inv cx base mask m ops E Hs ws nc listed a w μ q)(k:Ky ops listed j o)(bT:j3 ops mask (E j) o.guard=some true)(C:nZ o.op=true)
 {F:T} (n:Dq cx cf mask (E j) (Hs j) o.op F (Hs (j+1))) (bC:(E j).dst mask o.dst F=some (E (j+1))):
 yv P (λL al=>∃G b9,Inv cx base mask m ops E Hs ws nc (listed.setIfInBounds j true) (a.put o.dst L) al G b9) ((execOp a.eval o).run P w):=by
 have R:hU o.op=true:=by cases bn:o.op<;>rw[bn]at C<;>simp[nZ]at C<;>rfl
 have S:oq mask ops E j:=⟨o,k.op,R,bT⟩;have A:=k.lt;obtain⟨e,aE,N,bH,bs,bS,Z⟩:=g.Ms k.op C S;have v:e<(Hs ops.size).size:=bE N (mF g.mono (bp A) (au _));have K:∀b,oq mask ops E b->b<j->ew (Hs b) (Hs (b+1)) e=false->listed.getD b false=true:=by
  intro b l x c;rcases g.tr.both j b e aE l x with h|h
  ·rw[c]at h;simp at h
  ·exact k.before b h
 have J:∀b,oq mask ops E b->j<b->ew (Hs b) (Hs (b+1)) e=false->listed.getD b false=false:=by
  intro b l x c;have a6:=l;obtain⟨b8,W,a8,_⟩:=a6;rcases g.DC j b o b8 k.op W x with⟨_,h⟩|h
  ·obtain⟨y,aN,_,_,bu,_⟩:=g.Ms W (h R a8).2 l;have:y=e:=by
    rcases Nat.decEq y e with bl|rfl
    ·exfalso;have z:=bu e (bg bl);unfold ew at c;rw[z]at c;cases t:(Hs b).get e with
     |none=>rw[t]at c;simp at c
     |some p=>
      rw[t]at c;have c:Nat.beq p.ver p.ver=false:=c;simp at c
    ·rfl
   subst this;rcases g.tr.both b j y aN S x with h|h
   ·rw[bS]at h;simp at h
   ·exact k.behind b h
  ·exact k.behind b h
 have cL:tM Hs e ops.size<=j:=(kC g.mono v (bp A)).1 N;have bz:(PH Hs ops.size q).get e=(Hs j).get e:=by
  rw[g.wq (i.HH _) v];have c4:=i.HH e;rcases Nat.le_total (max (q e) (tM Hs e ops.size)) j with bk|a7
  ·refine(ly g.mono bk λb U V=> ?_).symm;have s:e<(Hs b).size:=(kC g.mono v dj).2 dj;refine g.same dj s λl c=> ?_;have:=(i.kz b e l s c).1 (K b l V c);omega
  ·refine ly g.mono a7 λb U V=> ?_;have s:e<(Hs b).size:=(kC g.mono v dj).2 dj;refine g.same dj s λl c=> ?_;have hl:=(i.kz b e l s c).2 dj;rcases Nat.eq_or_lt_of_le U with h|h
   ·subst h;rw[k.not]at hl;simp at hl
   ·rw[J b l h c]at hl;simp at hl
 obtain⟨cp,Y,M,ce,an,ap⟩:=Z (PH Hs ops.size q) (Ei _ _ _) bz;have bN:F= .undef:=by
  obtain⟨c1,X,_⟩:=Z (Hs j) (g.wf j (bp A)) rfl;rcases n with n|⟨f,cb,n,_⟩
  ·rw[X]at n;simp only[ar,kW.val.injEq]at n;exact n.1.symm
  ·rw[X]at n;simp at n
 subst bN;have aX:∀p∈o.op.operands,fy cx mask (E j) p=fy cx mask (Bj mask (E j) (o.looksAt ops)) p:=λp n=>yQ n;rw[yR aX]at Y;refine((xN g.iH i.st (i.MJ g k) Y).Yl).mono λL al t=> ?_;obtain⟨G,b6,ae,D,b7⟩:=t;refine⟨G,λd=>if d=e then j+1 else q d,i.cl.set k,by rw[Act.o9];exact i.size,by rw[Act.pf];exact i.LL,λd=> ?_,λb d B s c=> ?_,
  ae.congr (Ei _ _ _) λd I u=> ?_,i.A7 g k D.ext b6 bC,i.Fd g k bH λd=>⟨λu=> ?_,λu=> ?_⟩,i.ext.trans D⟩
 ·show(if d=e then j+1 else q d)<=ops.size;have:=i.HH d;split<;>omega
 ·show _↔b<(if d=e then j+1 else q d);by_cases r:d=e
  ·subst r;rw[aq rfl];rcases cP b j with h|h|h
   ·rw[getD_set_ne false dj,K b B h c];simp;omega
   ·subst h;rw[uK i.cl k];simp
   ·rw[getD_set_ne false dj,J b B h c];simp;omega
  ·rw[ao r];have bi:j≠b:=by
    rintro rfl;have z:=bs d r;unfold ew at c;rw[z]at c;cases t:(Hs j).get d with
    |none=>rw[t]at c;simp at c
    |some p=>
     rw[t]at c;have c:Nat.beq p.ver p.ver=false:=c;simp at c
   rw[getD_set_ne false bi];exact i.kz b d B s c
 ·have O:d<(Hs ops.size).size:=by
   have:=ae.ej u;rw[M]at this;exact this
  have bB:(if d=e then j+1 else q d)<=ops.size:=by have:=i.HH d;split<;>omega
  rw[g.wq (q:=λd=>if d=e then j+1 else q d) bB O];by_cases r:d=e
  ·subst r;rw[aq rfl,an,show max (j+1) (tM Hs d ops.size)=j+1 by omega]
  ·rw[ao r,ap d r,g.wq (i.HH _) O]
 ·rcases b7.2.1 d u with h|h
  ·exact h
  ·rw[M]at h;omega
 ·obtain⟨I,av⟩:=Option.ne_none_iff_exists'.1 u;obtain⟨ca,aA,_⟩:=D.ext.mu d I av;rw[aA];simp
def Inv.step(c:Dr P cx cf base mask m ops E Hs ws nc)(d:Inv cx base mask m ops E Hs ws nc listed a w μ q)(A:j∈Region.ready .any ops listed):
 wpOp P ops Q j (λy l=>∃i B,Inv cx base mask m ops E Hs ws nc (listed.setIfInBounds j true) y l i B) a w:=by
 obtain⟨o,b⟩:=rdy d.cl A;unfold wpOp;simp only[b.op];rcases mr (c.tr.step j o b.op)with⟨e,g,z⟩|⟨e,C,r,g⟩
 ·simp only[d.want c b e,cd,br];exact⟨μ,q,d.skip c b e g z⟩
 ·simp only[d.want c b e,bo];left;cases k:hU o.op with
  |false=>exact yv.wp (d.quiet c b e k r g) λs l f=>by obtain⟨i,h⟩:=f;exact⟨i,q,h⟩
  |true=>
   cases p:nZ o.op with
   |true=>exact yv.wp (d.Za c b e p r g) λs l f=>f
   |false=>
    refine yv.wp (d.acv c b e k (λv x u t=>⟨λn=> ?_,λn=> ?_⟩) r g) λs l f=>by obtain⟨i,h⟩:=f;exact⟨i,_,h⟩
    ·rcases c.DC v j x o u b.op n with⟨_,h⟩|h
     ·have:=(h t k).2;rw[p]at this;simp at this
     ·exact h
    ·rcases c.DC j v o x b.op u n with⟨_,h⟩|h
     ·have:=(h k t).1;rw[p]at this;simp at this
     ·exact h
def WZ(listed:af Bool):Nat:=(listed.toList.filter λb=> !b).length
def IR:∀(c:List Bool) (j:Nat),c[j]? =some false->((c.set j true).filter λd=> !d).length+1=(c.filter λd=> !d).length:=by
 intro c;induction c with
 |nil=>intro j b;simp at b
 |cons f c e=>
  intro j b;cases j with
  |zero=>simp at b;subst b;simp
  |succ j=>
   simp at b;have:=e j b;cases f<;>simp[cV]<;>omega
def Jt(b:listed.getD j true=false):WZ (listed.setIfInBounds j true)+1=WZ listed:=by
 have c:j<listed.size:=by
  rcases aD j listed.size with h'|h'
  ·exact h'
  ·simp[cO h']at b
 unfold WZ;rw[Array.toList_setIfInBounds];refine IR _ _ ?_;simp[c]at b;simp[c,b]
def Jj(g:Dr P cx cf base mask m ops E Hs ws nc)(h:Cl ops listed)(hr:Region.ready .any ops listed=[]):∀b,b<ops.size->listed.getD b false=true:=by
 intro b;induction b using Nat.strongRecOn with
 |_ b n=>
  intro e;cases d:listed.getD b false with
  |true=>rfl
  |false=>
   have f:ops[b]? =some ops[b]:=by simp[e]
   have:b∈Region.ready .any ops listed:=by
    refine mem_ready.2 ⟨?_,ops[b],f,λc k i=> ?_⟩
    ·have:b<listed.size:=by rw[h.size];exact e
     simp[this]at d|-;exact d
    ·have l:=g.back b _ f c k i;exact n c.on l dj
   rw[hr]at this;simp at this
def Inv.ZK(d:Dr P cx cf base mask m ops E Hs ws nc)(f:Inv cx base mask m ops E Hs ws nc listed a w μ q)(p:∀g,g<ops.size->listed.getD g false=true):
 St cx base w.heap μ (Hs ops.size)/\j1 w.heap μ mask (E ops.size) a.tmps/\xu nc μ (Hs 0).size (Hs ops.size).size:=by
 refine⟨f.st.congr (d.wf _ (au _)) λe O r=> ?_,λs h L=>f.Mz s h ?_,?_⟩
 ·have v:=f.lt d r;rw[d.wq (f.HH _) v];have R:=Fh Hs e ops.size;have:=f.HH e;refine ly d.mono dj λg T y=> ?_;have u:e<(Hs g).size:=(kC d.mono v dj).2 dj;refine d.same y u λI K=> ?_;have:=(f.kz g e I u K).1 (p g y);omega
 ·
  have N:∀b,rk ops listed s ops.size+b<=ops.size->(E (rk ops listed s ops.size+b)).get mask s=(E (rk ops listed s ops.size)).get mask s:=by
   intro b;induction b with
   |zero=>intro _;rfl
   |succ b M=>
    intro S;have t:rk ops listed s ops.size+b<ops.size:=dj;have z:ops[rk ops listed s ops.size+b]? =some ops[rk ops listed s ops.size+b]:=by simp[t]
    rw[<-M dj];have A:ops[rk ops listed s ops.size+b].dst≠some s:=by
     intro G;have:=Iy (n:=ops.size) t (p _ t) (by rw[z];exact G);omega
    have B:∀h i,(E (rk ops listed s ops.size+b)).dst mask ops[rk ops listed s ops.size+b].dst h=some i->i.get mask s=(E (rk ops listed s ops.size+b)).get mask s:=by
     intro h i c;cases x:ops[rk ops listed s ops.size+b].dst with
     |none=>rw[x]at c;have c:some _=some i:=c;simp only[ar]at c;rw[c]
     |some C=>
      rw[x]at c A;have J:s≠C:=λD=>A (by rw[D]);rw[Env.AM (show Env.set mask _ C h=some i from c) s,ao J]
    rcases mr (d.tr.step _ _ z)with⟨_,c,_⟩|⟨_,h,_,c⟩
    ·exact B _ _ c
    ·exact B _ _ c
  have U:=Uy (ops:=ops) (listed:=listed) (s:=s) ops.size;have:=N (ops.size-rk ops listed s ops.size) dj;rw[show rk ops listed s ops.size+(ops.size-rk ops listed s ops.size)=ops.size by omega]at this;rw[<-this];exact L
 ·refine⟨mF d.mono (aw _) (au _),λe r=> ?_,λe k l=> ?_⟩
  ·rcases(f.Rb e).1 r with F|⟨k,l,_⟩
   ·exact .inl F
   ·exact .inr ⟨k,l⟩
  ·refine(f.Rb e).2 (.inr ⟨k,l,p _ ?_⟩);have:=d.cr0 l k;have:=Fh Hs e ops.size;omega
def LZ(f:Dr P cx cf base mask m ops E Hs ws nc)
 (p:∀a w μ,St cx base w.heap μ (Hs ops.size)->j1 w.heap μ mask (E ops.size) a.tmps->xu nc μ (Hs 0).size (Hs ops.size).size->oP ws nc w μ->a.tmps.size=m->a.defers=[]->Q .normal a w):
 ∀(c:Nat) (listed:af Bool) (a:Act) (w:World),WZ listed<=c->(∃μ q,Inv cx base mask m ops E Hs ws nc listed a w μ q)->wpAny P .any ops Q c listed a w:=by
 have fin:∀(listed:af Bool) (a:Act) (w:World),(∃μ q,Inv cx base mask m ops E Hs ws nc listed a w μ q)->Region.ready .any ops listed=[]->Q .normal a w:=by
  rintro listed a w ⟨μ,q,b⟩ hr;obtain⟨k,l,n⟩:=b.ZK f (Jj f b.cl hr);exact p a w μ k l n b.ext b.size b.LL
 intro c;induction c with
 |zero=>
  intro listed a w r d;have hr:Region.ready .any ops listed=[]:=by
   cases hr:Region.ready .any ops listed with
   |nil=>rfl
   |cons g u=>
    have e:g∈Region.ready .any ops listed:=by rw[hr];simp
    have:=Jt (mem_ready.1 e).1;omega
  exact⟨hr,fin listed a w d hr⟩
 |succ c s=>
  intro listed a w r d;refine⟨λhr=>fin listed a w d hr,λg e=> ?_⟩;obtain⟨μ,q,b⟩:=d;have:=Jt (mem_ready.1 e).1;exact wpOp_mono (λh t i=>s _ h t dj i) (b.step f e)
def chain{n:World}{p:Mu}{h:H}{u:Env}{g c:H}{f:Env}(iH:iM P cx)(t:mR P cx cf)(v:Ej m ops){l:Nat}(y:ops[l]? =some o)(K:kQ cx cf mask ops u g o=some (f,c))
 (r:sj cx base mask m n p h u g a w):(∃B e,sj cx base mask m n p h f c B e)/\kE g c:=by
 have A:=r;obtain⟨μ,b,d,M,C,D,x,J⟩:=A;rcases mr K with⟨L,k,rfl⟩|⟨L,O,z,k⟩
 ·exact⟨⟨_,w,μ,b,j1.put d .undef (λb i=>by rw[x];exact v l o b y i) k,M,C,D,by rw[Act.o9];exact x,by rw[Act.pf];exact J⟩,kE.refl b.wf⟩
 ·have hr:=B8 (P:=P) iH t b d z;obtain⟨s,e,G⟩:=hr.some;have F:yv P (λs e=>sj cx base mask m n p h f c (a.put o.dst s) e) ((execOp a.eval o).run P w):=
   r.after (λb i=>v l o b y i) k λbase μ b d=>B8 iH t b d z
  obtain⟨N,R,I⟩:=F.some;exact⟨⟨_,_,I⟩,G.2⟩
def IZ(bN:P.follows .mixedOrders=true)(iH:iM P cx)(N:mR P cx cf):PQ P cx cf oe:=by
 intro base mask m c9 dd c6 ops e bk h bn a w Q id Y R bT a7 bu;obtain⟨E,Hs,b9,cb,aX,U,ce,_,_,cp,cL,_,ca⟩:=CH ops.toList 0 ⟨[],[]⟩ e bk h bn (λt=>by simp) bT;simp only[Nat.zero_add,bZ]at aX U;have V:Trace cx cf mask ops E Hs:=⟨λb o k=>ce b o (aw _) k,λb B c u v A=>cp b B c (aw _) u v A,λb B c u v A=>cL b B c (aw _) u v A,λb B c u v A=>ca b B c (aw _) u v A⟩;obtain⟨nc,s,r,x,bi,g,an,ae⟩:=a7;subst b9 cb;have K:∀b,b<=ops.size->∃M I,sj cx base mask m w nc (Hs 0) (E b) (Hs b) M I:=by
  intro b;induction b with
  |zero=>intro _;exact⟨a,w,nc,s,r,oP.refl _ _,xu.refl _ _,kE.refl s.wf,an,ae⟩
  |succ b T=>
   intro f;obtain⟨a1,J,L⟩:=T dj;have k:ops[b]? =some ops[b]:=by simp[show b<ops.size by omega]
   exact(chain iH N R k (V.step b _ k) L).1
 have X:∀b,b<ops.size->kE (Hs b) (Hs (b+1)):=by
  intro b f;obtain⟨a1,J,L⟩:=K b dj;have k:ops[b]? =some ops[b]:=by simp[f]
  exact(chain iH N R k (V.step b _ k) L).2
 have D:Dr P cx cf base mask m ops E Hs {w with drawn:=w.drawn+1} nc:=by
  refine⟨iH,N,R,V,s,λi j c7 b8 bz bH bB=>He Y bz bH bB,λj o k=>I1 Y k,λb f sl C n=> ?_,λb f c y d ap C n=> ?_,X,λb f=> ?_⟩
  ·obtain⟨a1,J,W,p,r1,_⟩:=K b f;exact(r1 sl C n).low λc l d=>p.ej d
  ·obtain⟨a1,J,W,p,r1,c1,a8,_⟩:=K b f;have bC:W c≠none:=by
    rcases d with d|d
    ·obtain⟨l,O⟩:=Option.ne_none_iff_exists'.1 d;obtain⟨c4,bs,_⟩:=c1.ext.mu c l O;rw[bs];simp
    ·exact a8.2.2 c d (H.ej ap)
   obtain⟨l,O⟩:=Option.ne_none_iff_exists'.1 bC;obtain⟨z,S,bS⟩:=p.box c l O;rw[ap]at S;simp only[ar]at S;subst S;exact bS.low (λc l d=>p.ej d) C n
  ·obtain⟨a1,J,W,p,_⟩:=K b f;exact p.wf
 have bl:∀b,b<=ops.size->kE (Hs 0) (Hs b):=by
  intro b;induction b with
  |zero=>intro _;exact kE.refl s.wf
  |succ b T=>intro f;exact(T dj).trans (X b dj)
 refine wp_region_any bN (LZ D (λM I a6 av aA aE G b6 b7=> ?_) ops.size _ a _ (by simp[WZ]) ⟨nc,λ_=>0,?_⟩)
 ·rw[aX]at aA;rw[U]at av aE;have aN:oP w nc I a6:=⟨G.ext,G.os,G.tape,G.output⟩;exact bu M I ⟨a6,av,aA,x.trans aN,bi.trans (hp:=w.heap) aE aN.ext,by have:=bl ops.size (au _);rw[U]at this;exact g.trans this,b6,b7⟩
 ·have F:∀b,(Array.replicate ops.size false).getD b false=false:=by
   intro b;rcases aD b ops.size with h|h<;>simp[h]
  refine⟨⟨dp,λj b8 _ hl=> ?_⟩,an,ae,λ_=>aw _,λb c _ _ _=> ?_,?_,λsl C n=> ?_,λc=> ?_,⟨Ext.refl _ _,rfl,rfl,rfl⟩⟩
  ·rw[F]at hl;simp at hl
  ·rw[F];simp
  ·refine s.congr (Ei _ _ _) λc l d=> ?_;have al:=s.ej d;have Z:c<(Hs ops.size).size:=bE al (mF D.mono (aw _) (au _));rw[D.wq (q:=λ_=>0) (aw _) Z];have:tM Hs c ops.size<=0:=(kC D.mono Z (aw _)).1 al;rw[show max 0 (tM Hs c ops.size)=0 by omega]
  ·have:rk ops (Array.replicate ops.size false) sl ops.size=0:=by
    rcases xV (ops:=ops) (listed:=Array.replicate ops.size false) (s:=sl) ops.size with h|⟨b,_,_,h,_⟩
    ·exact h
    ·rw[F]at h;simp at h
   rw[this]at n;exact r sl C n
  ·rw[F];simp
end
end
noncomputable section
section
variable {P:ai}{cx:Ctx}{cf:iG}{base mask m:Nat}{w0 w:World}{μ0 μ:Mu}{h0 h h':H}{e e':Env}{a:Act}
def yS{f:List T}{cs:af am}{g:af Obj}(b:fQ g μ f cs.toList):fa g μ (js f) (if h:cs.size=1 then cs[0]else .tuple cs):=by
 have d:∀(k:cs.size≠1),fa g μ (.tuple f) (if h:cs.size=1 then cs[0]else .tuple cs):=by
  intro k;rw[dif_neg k];exact .tuple f cs (by simpa using b.1.symm) λn i l=>by simpa[aV,List.getD]using b.2 n i l
 have c:=b.1
 match f,b,c,d with
 | [],b,c,d=>exact d (by simp at c;omega)
 | [i],b,c,d=>
  have j:cs.size=1:=by simpa using c.symm
  rw[dif_pos j];have:=b.2 0 i dp;simpa[js,List.getD,j]using this
 |o::p::f,b,c,d=>exact d (by simp at c;omega)
def mZ(c:af am):ResultVar->Sem am
 | .tmp b=>pure (c.getD b Go.undef)
 | .cell d b=>do loadVar b (<-asAddr (c.getD d Go.undef))
def Be(c:Func)(d:af am):results c d=(do let b<-c.results.mapM (mZ d);pure (if h:b.size=1 then b[0]else .tuple b)):=by
 unfold results;congr 1
def Ep(iH:iM P cx)(E:St cx base w.heap μ h)(r:j1 w.heap μ mask e a.tmps):∀(g:List ResultVar) (k:List T),mw cx mask e h g=some k->
 ∃d:List am,fQ w.heap μ k d/\(g.mapM (mZ a.tmps)).run P w= .ok d w:=by
 intro g;induction g with
 |nil=>
  intro k b;have b:some []=some k:=b;simp only[ar]at b;subst b;exact⟨[],fQ.nil,dp⟩
 |cons n g D=>
  intro k b;unfold mw at b;rw[jn]at b;replace b:=dA.1 b;obtain⟨j,c,b⟩:=b;replace b:=dA.1 b;obtain⟨s,C,b⟩:=b;simp only[ar]at b;subst b;obtain⟨d,x,A⟩:=D s C;have q:∀f,(mZ a.tmps n).run P w= .ok f w->fa w.heap μ j f->∃d:List am,fQ w.heap μ (j::s) d/\((n::g).mapM (mZ a.tmps)).run P w= .ok d w:=by
   intro f y hr;refine⟨f::d,fQ.cons hr x,?_⟩;rw[List.mapM_cons,Sem.run_bind,y,Result.andThen_ok,Sem.run_bind,A,Result.andThen_ok,Sem.run_pure]
  cases n with
  |tmp i=>
   have c:e.get mask i=some j:=c;exact q _ (by simp only[mZ,Sem.run_pure]) (r i j c)
  |cell p i=>
   have c:(dJ (e.get mask p) λl=>dJ (cx.ty i) λo=>h.load o l)=some j:=c;replace c:=dA.1 c;obtain⟨l,z,c⟩:=c;replace c:=dA.1 c;obtain⟨o,B,c⟩:=c;obtain⟨F,f,t,u,v⟩:=BI (iH.ty i o B) E (r p l z) c;exact q f (by simp only[mZ,t,asAddr,Sem.run_bind,Sem.run_pure,Result.andThen_ok,u]) v
def CI(iH:iM P cx)(k:St cx base w.heap μ h)(j:j1 w.heap μ mask e a.tmps){b:Func}{d:List T}(g:mw cx mask e h b.results.toList=some d):
 ∃c,(results b a.tmps).run P w= .ok c w/\fa w.heap μ (js d) c:=by
 obtain⟨cs,f,i⟩:=Ep (P:=P) iH k j _ _ g;refine⟨_,?_,yS (cs:=cs.toArray) (by simpa using f)⟩;rw[Be];have:b.results.mapM (mZ a.tmps)=List.toArray<$>b.results.toList.mapM (mZ a.tmps):=by
  rw[<-List.mapM_toArray]
 rw[this,Sem.run_bind,Sem.run_map,i];rfl
def CR:∀(i g:Nat) (n:List T) (q:fJ),lM mask i g n=some q->∀o k,dF q o=some k->(∃d,o=g+d/\d<i/\(n[d]? =some k\/(n.length<=d/\k= .undef))):=by
 intro i;induction i with
 |zero=>
  intro g n q b o k f;have b:some fJ.nil=some q:=b;simp only[ar]at b;subst b;simp[dF]at f
 |succ i v=>
  intro g n q b o k f;have b:(dJ (f6 (Nat.succ g)) λs=> @List.rec T (λ_=>aa fJ)
   (@Bool.rec (λ_=>aa fJ) (lM mask i s []) (dJ (lM mask i s []) λj=>some (.cons g .undef j)) (jS mask g))
   (λa l _=>dJ (lM mask i s l) λj=>some (.cons g a j)) n)=some q:=b
  simp only[iq,dO]at b;have t:∀{l:List T} {j:fJ},lM mask i (g+1) l=some j->dF j o=some k->∃d,o=g+(d+1)/\d<i/\(l[d]? =some k\/(l.length<=d/\k= .undef)):=by
   intro l j ht hl;obtain⟨d,p,r,c⟩:=v (g+1) l j ht o k hl;exact⟨d,dj,r,c⟩
  cases n with
  |nil=>
   simp only at b;cases hl:jS mask g with
   |false=>
    rw[hl]at b;obtain⟨d,p,r,c⟩:=t b f;refine⟨d+1,p,dj,.inr ?_⟩;rcases c with c|c
    ·simp at c
    ·exact⟨dp,c.2⟩
   |true=>
    rw[hl]at b;replace b:=dA.1 b;obtain⟨j,ht,b⟩:=b;simp only[ar]at b;subst b;rw[mI]at f;split at f
    ·rename_i u;simp only[ar]at f;exact⟨0,dj,dj,.inr ⟨dp,f.symm⟩⟩
    ·obtain⟨d,p,r,c⟩:=t ht f;refine⟨d+1,p,dj,.inr ?_⟩;rcases c with c|c
     ·simp at c
     ·exact⟨dp,c.2⟩
  |cons x l=>
   simp only at b;replace b:=dA.1 b;obtain⟨j,ht,b⟩:=b;simp only[ar]at b;subst b;rw[mI]at f;split at f
   ·rename_i u;simp only[ar]at f;subst f;exact⟨0,dj,dj,.inl dp⟩
   ·obtain⟨d,p,r,c⟩:=t ht f;refine⟨d+1,p,dj,?_⟩;rcases c with c|c
    ·exact .inl (by simpa using c)
    ·exact .inr ⟨dq,c.2⟩
def II{n:Nat}{d:List T}{i:fJ}{l:af Obj}{c:af am}(k:fQ l μ d c.toList)(o:lM mask n 0 d=some i):
 j1 l μ mask ⟨i,.nil⟩ (c++Array.replicate (n-c.size) Go.undef):=by
 intro b j g;have g: @Bool.rec (λ_=>aa T) (dF .nil b) (dF i b) (jS mask b)=some j:=g;cases hl:jS mask b with
 |false=>rw[hl]at g;simp[dF]at g
 |true=>
  rw[hl]at g;obtain⟨q,r,s,f⟩:=CR n 0 d i o b j g;have p:b=q:=dj;subst p;have t:d.length=c.size:=by simpa using k.1
  rcases f with f|⟨f,rfl⟩
  ·have u:b<d.length:=by
    rcases aD b d.length with h|h
    ·exact h
    ·rw[aK h]at f;simp at f
   have hr:=k.2 b j f;have:(c++Array.replicate (n-c.size) Go.undef).getD b Go.undef=c.toList.getD b Go.undef:=by
    rw[aV,Array.getElem?_append_left dj];simp[List.getD]
   rw[this];exact hr
  ·have:(c++Array.replicate (n-c.size) Go.undef).getD b Go.undef=Go.undef:=by
    rw[aV,Array.getElem?_append_right dj];rcases aD (b-c.size) (n-c.size)with h|h
    ·simp[h]
    ·rw[cO (by simpa using h)];rfl
   rw[this];exact .undef
def Gv{m l:Nat}{k:af Oper->Bool}(q:m<=l):∀(b:Code),lY m k b=true->lY l k b=true:=by
 intro b;induction b with
 |region id r p=>
  intro h;simp only[lY,aB]at h|-;refine⟨?_,h.2⟩;have d:=h.1;unfold Ra at d|-;rw[cD]at d|-;intro j o;have:=d j o;cases n:j.dst with
  |none=>rfl
  |some s=>
   rw[n]at this;simp only[aG]at this|-;omega
 |seq a c g i=>intro h;simp only[lY,aB]at h|-;exact⟨g h.1,i h.2⟩
 |cond j a c g i=>intro h;simp only[lY,aB]at h|-;exact⟨g h.1,i h.2⟩
 |block id c f=>intro h;simp only[lY]at h|-;exact f h
 |loop c f=>intro h;simp only[lY]at h|-;exact f h
 |_=>intro _;rfl
def CA(P:ai)(cx:Ctx)(f:aj)(g:Prim):Prop:=
 ∀b h d h',Bn g b h=some (d,h')->∀base w μ (c:af am),St cx base w.heap μ h->fQ w.heap μ b c.toList->yv P (pQ cx base w μ h d h') ((callFunc f c).run P w)
def ww(b:Fun):Bool:= !(b.fn.name== "runtime.NumGoroutine")&&match b.fn.body with
 |none=>false
 |some c=>lY b.fn.ntmps oe c
def ni{c:aj}{b:Func}{f:Code}(i:P.funcs[c]? =some b)(k:(b.name== "runtime.NumGoroutine")=false)(g:b.body=some f)(d:af am)(w:World):
 (callFunc c d).run P w= .ok (.enter c d) w:=by
 have j:¬b.name= "runtime.NumGoroutine" :=by simpa using k
 simp[callFunc,i,j,g]
def Je(U:P.follows .mixedOrders=true)(iH:iM P cx)(z:mR P cx cf){r:aj}{b:Fun}(C:P.funcs[r]? =some b.fn)(g:ww b=true){B:Nat}{x:List T}{o:T}
 (c:rU cx cf B b.fn b.mask b.ky x h=some (o,h')) (F:St cx base w.heap μ h) {f:af am} (R:fQ w.heap μ x f.toList):
 yv P (pQ cx base w μ h o h') ((callFunc r f).run P w):=by
 unfold ww at g;simp only[aB,bL]at g;obtain⟨V,g⟩:=g;unfold rU at c;cases l:b.fn.body with
 |none=>rw[l]at g;simp at g
 |some y=>
  rw[l]at g c;simp only at g;obtain⟨d,t,k⟩:=h;simp only at c;replace c:=dA.1 c;obtain⟨aN,Z,c⟩:=c;replace c:=dA.1 c;obtain⟨⟨q,A,s⟩,S,c⟩:=c;simp only[ks]at c;have j:(q= .normal\/q= .ret)/\(dJ (mw cx b.mask A s b.fn.results.toList) λI=>BJ b.ky d t (js I) s)=some (o,h'):=by
   cases q with
   |normal=>exact⟨.inl rfl,c⟩
   |exit i=>simp at c
   |ret=>exact⟨.inr rfl,c⟩
  obtain⟨al,j⟩:=j;replace j:=dA.1 j;obtain⟨I,ae,j⟩:=j;rw[ni C V l];show Calls P r f w _;refine calls_of_wp C l ?_;have G:St cx base w.heap μ ⟨d,d,k⟩:=F.JB d;have W:=II (mask:=b.mask) (n:=b.fn.ntmps) R Z;have J:sj cx base b.mask (f.size+(b.fn.ntmps-f.size)) w μ ⟨d,d,k⟩ ⟨aN,.nil⟩ ⟨d,d,k⟩ {tmps:=f++Array.replicate (b.fn.ntmps-f.size) Go.undef,defers:=[]} w:=
   ⟨μ,G,W,oP.refl _ _,xu.refl _ _,kE.refl G.wf,dp,rfl⟩
  refine I5 (m:=f.size+(b.fn.ntmps-f.size)) (w0:=w) (μ0:=μ) (h0:=⟨d,d,k⟩) (base:=base) (mask:=b.mask) iH z (IZ U iH z) B y (Gv dj y g) _ _ q A s S _ _ _ J λv u K=> ?_;have E:v.defers=[]/\∃p,(results b.fn v.tmps).run P u= .ok p u/\pQ cx base w μ ⟨d,t,k⟩ o h' p u:=by
   obtain⟨a7,D,an,ap,av,aA,a6,aE⟩:=K;obtain⟨p,X,Y⟩:=CI (P:=P) iH D an ae;obtain⟨⟨aX,L,M,N,O⟩,Q⟩:=GG (low0:=t) F D aA ap av Y j;exact⟨aE,p,X,⟨aX,L,M,N,O⟩,Q⟩
  rcases al with rfl|rfl
  ·exact E
  ·exact E
end
end
end Go.TI
