/- Texts TiDraw3 to TiCall. -/
import Derived.Test.YtmaeadedikngoaaGreatDoorA5
set_option linter.all false
namespace Go.TI
noncomputable section
structure Dr(P:ai)(cx:Ctx)(cf:iL)(base mask m:Nat)(ops:af Oper)(E:Nat->Env)(Hs:Nat->H)(ws:World)(nj:Mu):Prop where
 iG:iP P cx
 ck:mX P cx cf
 dst:D5 m ops
 tr:Trace cx cf mask ops E Hs
 pM:St cx base ws.heap nj (Hs 0)
 Dl:∀i j oi oj,ops[i]? =some oi->ops[j]? =some oj->i<j->(oi.apart ops oj=true/\(ik oi.op=true->ik oj.op=true->oe oi.op=true/\oe oj.op=true))\/jx ops i j=true
 back:∀j o,ops[j]? =some o->∀e∈o.after,Region.binds .any e=true->e.on<j
 acB:∀k,k<=ops.size->∀s v,(E k).get mask s=some v->o8 (Hs k).size v
 Zi:∀k,k<=ops.size->∀b x,(nj b≠none\/(Hs 0).size<=b)->(Hs k).get b=some x->∀v∈fa x.em,o8 (Hs k).size v
 grow:∀k,k<ops.size->kJ (Hs k) (Hs (k+1))
 wf:∀k,k<=ops.size->(Hs k).fc.length=(Hs k).size
structure Inv(cx:Ctx)(base mask m:Nat)(ops:af Oper)(E:Nat->Env)(Hs:Nat->H)(ws:World)(nj:Mu)(listed:af Bool)(a:Act)(w:World)(μ:Mu)(q:Nat->Nat):Prop where
 cl:Cl ops listed
 size:a.tmps.size=m
 LW:a.defers=[]
 HP:∀b,q b<=ops.size
 kF:∀k b,ox mask ops E k->b<(Hs k).size->eJ (Hs k) (Hs (k+1)) b=false->(listed.getD k false=true↔k<q b)
 st:St cx base w.heap μ (PH Hs ops.size q)
 MK:∀s v,(E (ry ops listed s ops.size)).get mask s=some v->fg w.heap μ v (a.tmps.getD s Go.undef)
 Rn:∀b,μ b≠none↔(nj b≠none\/((Hs 0).size<=b/\b<(Hs ops.size).size/\listed.getD (tT Hs b ops.size-1) false=true))
 ext:oU ws nj w μ
section
variable {P:ai}{cx:Ctx}{cf:iL}{base mask m:Nat}{ops:af Oper}{E:Nat->Env}{Hs:Nat->H}{ws w:World}{nj μ:Mu}{listed:af Bool}{a:Act}{q:Nat->Nat}
def Dr.mono(c:Dr P cx cf base mask m ops E Hs ws nj):∀b,b<ops.size->(Hs b).size<=(Hs (b+1)).size:=λb d=>(c.grow b d).size
def Dr.lt0(c:Dr P cx cf base mask m ops E Hs ws nj){b:Nat}(e:nj b≠none):b<(Hs 0).size:=by
 obtain⟨f,d⟩:=Option.ne_none_iff_exists'.1 e;exact c.pM.ez d
def Dr.still(g:Dr P cx cf base mask m ops E Hs ws nj){b d:Nat}(i:b<ops.size)(h:d<(Hs b).size)(k:¬ox mask ops E b):(Hs (b+1)).get d=(Hs b).get d:=by
 have f:ops[b]? =some ops[b]:=by simp[i]
 rcases my (g.tr.step b _ f)with⟨_,_,c⟩|⟨l,s,n,_⟩
 ·rw[c]
 ·have e:ik ops[b].op=false:=by
   cases c:ik ops[b].op with
   |false=>rfl
   |true=>exact absurd ⟨_,f,c,l⟩ k
  rcases F8 (h2:=Hs b) e (λ_ _ _=>rfl) (Hj e n)with⟨c,_⟩|⟨r,p,_,_,_,c,_⟩
  ·rw[c]
  ·rw[c];exact H.mH h p
def Dr.ver(f:Dr P cx cf base mask m ops E Hs ws nj){b c:Nat}(k:b<ops.size)(i:c<(Hs b).size)(d:eJ (Hs b) (Hs (b+1)) c=true):(Hs (b+1)).get c=(Hs b).get c:=by
 obtain⟨h,e⟩:=H.get_some (f.wf b dq) i;obtain⟨n,g,l⟩:=(f.grow b k).ver c h e;rcases l with rfl|p
 ·rw[e,g]
 ·unfold eJ at d;rw[e,g]at d;have d:Nat.beq h.ver n.ver=true:=d;have:=aC d;omega
def Dr.same(d:Dr P cx cf base mask m ops E Hs ws nj){b c:Nat}(g:b<ops.size)(e:c<(Hs b).size)(i:ox mask ops E b->eJ (Hs b) (Hs (b+1)) c=false->False):(Hs (b+1)).get c=(Hs b).get c:=by
 by_cases f:ox mask ops E b
 ·cases h:eJ (Hs b) (Hs (b+1)) c with
  |true=>exact d.ver g e h
  |false=>exact(i f h).elim
 ·exact d.still g e f
def Dr.wA(c:Dr P cx cf base mask m ops E Hs ws nj){b:Nat}(e:q b<=ops.size)(d:b<(Hs ops.size).size):(PH Hs ops.size q).get b=(Hs (max (q b) (tT Hs b ops.size))).get b:=
 VQ c.mono c.wf e d
def Inv.lt(f:Dr P cx cf base mask m ops E Hs ws nj)(c:Inv cx base mask m ops E Hs ws nj listed a w μ q){b:Nat}{d:Loc}(e:μ b=some d):b<(Hs ops.size).size:=c.st.ez e
variable {j:Nat}{o:Oper}
structure KH(ops:af Oper)(listed:af Bool)(j:Nat)(o:Oper):Prop where
 op:ops[j]? =some o
 lt:j<ops.size
 not:listed.getD j false=false
 before:∀i,jx ops i j=true->listed.getD i false=true
 behind:∀k,jx ops j k=true->listed.getD k false=false
 Z1:∀e∈o.after,Region.binds .any e=true->listed.getD e.on false=true
def Hf{listed:af Bool}{c:Nat}(b:listed.getD c true=false):listed.getD c false=false:=by
 rcases aD c listed.size with h'|h'
 ·simp[h']at b|-;exact b
 ·simp[cQ h']at b
def rdy(c:Cl ops listed)(n:j∈Region.ready .any ops listed):∃o,KH ops listed j o:=by
 obtain⟨e,o,d,f⟩:=mem_ready.1 n;have r:j<ops.size:=(Array.getElem?_eq_some_iff.1 d).1;refine⟨o,d,r,Hf e,λs l=>BA c l d f,λb p=> ?_,f⟩;cases g:listed.getD b false with
 |false=>rfl
 |true=>
  have k:b<listed.size:=by
   rcases aD b listed.size with h|h
   ·exact h
   ·simp[cQ h]at g
  have i:ops[b]? =some (ops[b]'(by rw[<-c.size];exact k)):=by
   have:b<ops.size:=by rw[<-c.size];exact k
   simp[this]
  have:=BA c p i (c.closed b _ i g);rw[Hf e]at this;simp at this
def Cl.set(b:Cl ops listed)(k:KH ops listed j o):Cl ops (listed.setIfInBounds j true):=by
 refine⟨by simp[b.size],λh i g hl c e d=> ?_⟩;by_cases f:j=h
 ·subst f;have:i=o:=Option.some.inj (g.symm.trans k.op);subst this;exact getD_set_true (k.Z1 c e d)
 ·rw[getD_set_ne false f]at hl;exact getD_set_true (b.closed h i g hl c e d)
def uQ(b:Cl ops listed)(c:KH ops listed j o):(listed.setIfInBounds j true).getD j false=true:=by
 have:j<listed.size:=by rw[b.size];exact c.lt
 simp[this]
def Inv.dH(r:Dr P cx cf base mask m ops E Hs ws nj)(O:Inv cx base mask m ops E Hs ws nj listed a w μ q)(f:KH ops listed j o){s:Nat}(D:s∈o.looksAt ops):
 (E (ry ops listed s ops.size)).get mask s=(E j).get mask s:=by
 have I:∀b k,ops[b]? =some k->k.dst=some s->(b<j->listed.getD b false=true)/\(j<b->listed.getD b false=false):=by
  intro b k i u;refine⟨λv=> ?_,λv=> ?_⟩
  ·rcases r.Dl b j k o i f.op v with⟨t,_⟩|x
   ·exact absurd D ((Oper.apart_spec t).1 s u)
   ·exact f.before b x
  ·rcases r.Dl j b o k f.op i v with⟨t,_⟩|x
   ·exact absurd D ((Oper.apart_spec t).2.2 s u)
   ·exact f.behind b x
 have S:ry ops listed s ops.size<=j:=by
  rcases yc (ops:=ops) (listed:=listed) (s:=s) ops.size with h|⟨b,R,K,l,z⟩
  ·omega
  ·have e:ops[b]? =some ops[b]:=by simp[K]
   rw[e]at z;have y:=I b _ e z;rcases cR b j with h|h|h
   ·omega
   ·subst h;rw[f.not]at l;simp at l
   ·rw[y.2 h]at l;simp at l
 have N:∀c,ry ops listed s ops.size+c<=j->(E (ry ops listed s ops.size+c)).get mask s=(E (ry ops listed s ops.size)).get mask s:=by
  intro c;induction c with
  |zero=>intro _;rfl
  |succ c M=>
   intro u;have i:ry ops listed s ops.size+c<ops.size:=by have:=f.lt;omega
   have e:ops[ry ops listed s ops.size+c]? =some ops[ry ops listed s ops.size+c]:=by simp[i]
   rw[<-M dq];have C:ops[ry ops listed s ops.size+c].dst≠some s:=by
    intro A;have y:=(I _ _ e A).1 dq;have:=IF (n:=ops.size) i y (by rw[e];exact A);omega
   have F:∀p g,(E (ry ops listed s ops.size+c)).dst mask ops[ry ops listed s ops.size+c].dst p=some g->g.get mask s=(E (ry ops listed s ops.size+c)).get mask s:=by
    intro p g d;cases B:ops[ry ops listed s ops.size+c].dst with
    |none=>rw[B]at d;have d:some _=some g:=d;simp only[ar]at d;rw[d]
    |some G=>
     rw[B]at d C;have L:s≠G:=λJ=>C (by rw[J]);rw[Env.AU (show Env.set mask _ G p=some g from d) s,ao L]
   rcases my (r.tr.step _ _ e)with⟨_,d,_⟩|⟨_,p,_,d⟩
   ·exact F _ _ d
   ·exact F _ _ d
 have:=N (j-ry ops listed s ops.size) dq;rw[show ry ops listed s ops.size+(j-ry ops listed s ops.size)=j by omega]at this;exact this.symm
def Inv.MV(d:Dr P cx cf base mask m ops E Hs ws nj)(c:Inv cx base mask m ops E Hs ws nj listed a w μ q)(f:KH ops listed j o):j7 w.heap μ mask (Br mask (E j) (o.looksAt ops)) a.tmps:=by
 intro g h b;rw[xP]at b;split at b
 ·rename_i e;exact c.MK g h (by rw[c.dH d f e];exact b)
 ·simp at b
def Inv.Bf(r:Dr P cx cf base mask m ops E Hs ws nj)(g:Inv cx base mask m ops E Hs ws nj listed a w μ q)(c:KH ops listed j o){l:af Obj}{p:Mu}(K:Ext w.heap μ l p){n:T}{t:am}
 (I:fg l p n t) (z:(E j).dst mask o.dst n=some (E (j+1))):∀s f,(E (ry ops (listed.setIfInBounds j true) s ops.size)).get mask s=some f->fg l p f ((a.put o.dst t).tmps.getD s Go.undef):=by
 intro s f e;by_cases d:o.dst=some s
 ·have k:ry ops (listed.setIfInBounds j true) s ops.size=j+1:=by
   have M:=IF (ops:=ops) (s:=s) c.lt (uQ g.cl c) (by rw[c.op];exact d);rcases yc (ops:=ops) (listed:=listed.setIfInBounds j true) (s:=s) ops.size with h|⟨b,L,A,i,u⟩
   ·omega
   ·rcases cR b j with h|h|h
    ·omega
    ·omega
    ·have x:ops[b]? =some ops[b]:=by simp[A]
     rw[x]at u;rw[getD_set_ne false dq]at i;rcases r.Dl j b o _ c.op x h with⟨B,_⟩|G
     ·exact absurd u ((Oper.apart_spec B).2.1 s d)
     ·rw[c.behind b G]at i;simp at i
  rw[k]at e;rw[d]at z|-;rw[Env.AU (show Env.set mask _ s n=some _ from z) s]at e;simp only[bo,ar]at e;subst e;have D:s<a.tmps.size:=by rw[g.size];exact r.dst j o s c.op d
  simpa[Act.put,aV,D]using I
 ·have k:ry ops (listed.setIfInBounds j true) s ops.size=ry ops listed s ops.size:=by
   refine LC λb N v=> ?_;have:j≠b:=by rintro rfl;rw[c.op]at v;exact d v
   exact getD_set_ne false this
  rw[k]at e;have y:=(g.MK s f e).ext K;cases C:o.dst with
  |none=>exact y
  |some J=>
   have F:J≠s:=by rintro rfl;exact d C
   simpa[Act.put,aV,Array.getElem?_setIfInBounds_ne F]using y
def Inv.looked(d:Dr P cx cf base mask m ops E Hs ws nj)(k:Inv cx base mask m ops E Hs ws nj listed a w μ q)(n:KH ops listed j o)(y:ik o.op=false)(J:j9 ops mask (E j) o.guard=some true)
 {c:Nat} (B:fU cx mask (E j) (Hs j) o.op=some c) {f:Nat} (L:j<=f) (A:f<=ops.size) (x:c<(Hs f).size) (M:f=j\/f=j+1):
 (PH Hs ops.size q).get c=(Hs f).get c:=by
 have l:c<(Hs ops.size).size:=bE x (mK d.mono A (au _));rw[d.wA (k.HP _) l];have K:tT Hs c ops.size<=f:=(kI d.mono l A).1 x;have v:wS cx mask ops E Hs j c:=⟨o,n.op,y,J,B⟩;have z:¬ox mask ops E j:=by
  rintro⟨N,r,t,_⟩;rw[n.op]at r;simp only[ar]at r;subst r;rw[y]at t;simp at t
 rcases Nat.le_total (max (q c) (tT Hs c ops.size)) f with G|C
 ·refine(lI d.mono G λb D F=> ?_).symm;have g:c<(Hs b).size:=(kI d.mono l dq).2 dq;by_cases e:ox mask ops E b
  ·have p:b<j:=by
    rcases cR b j with h|h|h
    ·exact h
    ·subst h;exact absurd e z
    ·omega
   cases i:eJ (Hs b) (Hs (b+1)) c with
   |true=>exact d.ver dq g i
   |false=>
    rcases d.tr.behind j b c v e p with h|h
    ·rw[i]at h;simp at h
    ·have:=(k.kF b c e g i).1 (n.before b h);omega
  ·exact d.still dq g e
 ·refine lI d.mono C λb D F=> ?_;have I:b<q c:=dq;have u:b<ops.size:=by have:=k.HP c;omega
  have g:c<(Hs b).size:=(kI d.mono l dq).2 dq;by_cases e:ox mask ops E b
  ·have p:j<b:=by
    rcases cR b j with h|h|h
    ·omega
    ·subst h;exact absurd e z
    ·exact h
   cases i:eJ (Hs b) (Hs (b+1)) c with
   |true=>exact d.ver u g i
   |false=>
    rcases d.tr.ahead j b c v e p with h|h
    ·rw[i]at h;simp at h
    ·have s:=(k.kF b c e g i).2 I;rw[n.behind b h]at s;simp at s
  ·exact d.still u g e
def Inv.want(b:Dr P cx cf base mask m ops E Hs ws nj)(c:Inv cx base mask m ops E Hs ws nj listed a w μ q)(k:KH ops listed j o){d:Bool}(g:j9 ops mask (E j) o.guard=some d):
 Region.wanted o (yielded ops a.tmps)=d:=
 A7 (c.MV b k) (λh i l e f=>by rw[c.size];exact b.dst h i l e f) (by rw[HS];exact g)
def Dr.made(c:Dr P cx cf base mask m ops E Hs ws nj)(i:j<ops.size){b:Nat}(f:b<(Hs ops.size).size):tT Hs b ops.size=j+1↔((Hs j).size<=b/\b<(Hs (j+1)).size):=by
 have d:=kI c.mono f (show j<=ops.size by omega);have e:=kI c.mono f (show j+1<=ops.size by omega);constructor
 ·intro h;refine⟨?_,e.2 dq⟩;rcases aD b (Hs j).size with k|k
  ·have:=d.1 k;omega
  ·exact k
 ·rintro⟨l,g⟩;have:=e.1 g;have:¬tT Hs b ops.size<=j:=λk=>by have:=d.2 k;omega
  omega
def Dr.cr0(c:Dr P cx cf base mask m ops E Hs ws nj){b:Nat}(d:b<(Hs ops.size).size)(e:(Hs 0).size<=b):0<tT Hs b ops.size:=by
 rcases Nat.eq_zero_or_pos (tT Hs b ops.size)with h|h
 ·have:=(kI c.mono d (aw _)).2 dq;omega
 ·exact h
def Dr.Ak(c:Dr P cx cf base mask m ops E Hs ws nj)(f:j<ops.size){b:Nat}(d:b<(Hs ops.size).size)(e:(Hs 0).size<=b)(g:¬((Hs j).size<=b/\b<(Hs (j+1)).size)):
 (listed.setIfInBounds j true).getD (tT Hs b ops.size-1) false=listed.getD (tT Hs b ops.size-1) false:=by
 refine getD_set_ne false λh=>g ?_;have:=c.cr0 d e;exact(c.made f d).1 dq 
def Inv.Fb(f:Dr P cx cf base mask m ops E Hs ws nj)(k:Inv cx base mask m ops E Hs ws nj listed a w μ q)(h:KH ops listed j o)(g:(Hs (j+1)).size=(Hs j).size){i:Mu}(l:∀b,i b≠none↔μ b≠none):
 ∀b,i b≠none↔(nj b≠none\/((Hs 0).size<=b/\b<(Hs ops.size).size/\(listed.setIfInBounds j true).getD (tT Hs b ops.size-1) false=true)):=by
 intro b;rw[l,k.Rn];refine or_congr Iff.rfl ⟨λ⟨c,d,e⟩=>⟨c,d,?_⟩,λ⟨c,d,e⟩=>⟨c,d,?_⟩⟩
 ·rw[f.Ak h.lt d c (by rw[g];omega)];exact e
 ·rw[f.Ak h.lt d c (by rw[g];omega)]at e;exact e
def BJ(e:KH ops listed j o)(h:ik o.op=false\/j9 ops mask (E j) o.guard=some false):¬ox mask ops E j:=by
 rintro⟨f,b,c,d⟩;rw[e.op]at b;simp only[ar]at b;subst b;rcases h with h|h
 ·rw[h]at c;simp at c
 ·rw[h]at d;simp at d
def Inv.Ck(e:Inv cx base mask m ops E Hs ws nj listed a w μ q)(g:¬ox mask ops E j):
 ∀b c,ox mask ops E b->c<(Hs b).size->eJ (Hs b) (Hs (b+1)) c=false->((listed.setIfInBounds j true).getD b false=true↔b<q c):=by
 intro b c d f h;have:j≠b:=by rintro rfl;exact g d
 rw[getD_set_ne false this];exact e.kF b c d f h
variable {Q:Exit->Act->World->Prop}
def Inv.skip(d:Dr P cx cf base mask m ops E Hs ws nj)(b:Inv cx base mask m ops E Hs ws nj listed a w μ q)(c:KH ops listed j o)(g:j9 ops mask (E j) o.guard=some false)
 (f:(E j).dst mask o.dst .undef=some (E (j+1))) (e:Hs (j+1)=Hs j):Inv cx base mask m ops E Hs ws nj (listed.setIfInBounds j true) (a.put o.dst Go.undef) w μ q:=
 ⟨b.cl.set c,by rw[Act.pj];exact b.size,by rw[Act.pk];exact b.LW,b.HP,b.Ck (BJ c (.inr g)),b.st,
   b.Bf d c (Ext.refl _ _) .undef f,b.Fb d c (by rw[e]) λ_=>Iff.rfl,b.ext⟩
def Inv.quiet(r:Dr P cx cf base mask m ops E Hs ws nj)(e:Inv cx base mask m ops E Hs ws nj listed a w μ q)(p:KH ops listed j o)(ca:j9 ops mask (E j) o.guard=some true)(V:ik o.op=false){v:T}
 (bn:Dc cx cf mask (E j) (Hs j) o.op v (Hs (j+1))) (b8:(E j).dst mask o.dst v=some (E (j+1))):
 yE P (λY R=>∃s,Inv cx base mask m ops E Hs ws nj (listed.setIfInBounds j true) (a.put o.dst Y) R s q) ((execOp a.eval o).run P w):=by
 have b6:=BJ (mask:=mask) (E:=E) p (.inl V);have b7:=Hj V bn;have ap:∀C∈o.op.operands,fG cx mask (E j) C=fG cx mask (Br mask (E j) (o.looksAt ops)) C:=λC bn=>y8 bn;rw[y9 ap]at b7;have dd:∀b,fU cx mask (Br mask (E j) (o.looksAt ops)) (Hs j) o.op=some b->b<(Hs j).size->(PH Hs ops.size q).get b=(Hs j).get b:=by
  intro b c aX;rw[<-u0 ap]at c;exact e.looked r p V ca c (au _) (bp p.lt) aX (.inl rfl)
 rcases F8 V dd b7 with⟨Z,bk⟩|⟨f,C,F,c,ds,Z,bk⟩
 ·
  refine((xV r.iG e.st (e.MV r p) bk).Yv).mono λY R an=> ?_;obtain⟨s,A,t,x,O⟩:=an;refine⟨s,e.cl.set p,by rw[Act.pj];exact e.size,by rw[Act.pk];exact e.LW,e.HP,e.Ck b6,t,e.Bf r p x.ext A b8,?_,e.ext.trans x⟩;refine e.Fb r p (by rw[Z]) λb=>⟨λc=> ?_,λc=> ?_⟩
  ·rcases O.2.1 b c with h|h
   ·exact h
   ·omega
  ·obtain⟨d,L⟩:=Option.ne_none_iff_exists'.1 c;obtain⟨M,U,_⟩:=x.ext.mu b d L;rw[U];simp
 ·
  subst ds;have al:(PH Hs ops.size q).size=(Hs ops.size).size:=rfl;have b9:(Hs (j+1)).size=(Hs j).size+1:=by rw[Z];rfl
  have bN:(Hs j).size<(Hs ops.size).size:=by
   have:=mK r.mono (show j+1<=ops.size from p.lt) (au _);omega
  have bC:(Hs 0).size<=(Hs j).size:=mK r.mono (aw _) (bp p.lt);have bS:tT Hs (Hs j).size ops.size=j+1:=(r.made p.lt bN).2 ⟨au _,dq⟩;have ec:μ (Hs j).size=none:=by
   cases a7:μ (Hs j).size with
   |none=>rfl
   |some d=>
    exfalso;rcases(e.Rn (Hs j).size).1 (by rw[a7];simp)with h|⟨_,_,h⟩
    ·have:=r.lt0 h;omega
    ·rw[bS]at h;simp only[Nat.add_sub_cancel]at h;rw[p.not]at h;simp at h
  have bT:(Hs (j+1)).get (Hs j).size=some C:=by rw[Z];exact H.sq (r.wf j (bp p.lt)) C
  have dk:(PH Hs ops.size q).get (Hs j).size=some C:=by
   rw[<-u0 ap]at c;rw[e.looked r p V ca c (show j<=j+1 by omega) p.lt dq (.inr rfl)];exact bT
  refine((xV r.iG e.st (e.MV r p) bk).Yv).mono λY R an=> ?_;obtain⟨s,A,t,x,O⟩:=an;rw[al]at A O;have c6:((PH Hs ops.size q).cons C).size=(Hs ops.size).size+1:=rfl;rw[c6]at O;have cb:s (Hs ops.size).size≠none:=O.2.2 _ (au _) dq;have a6:∀b d,μ b=some d->b<(Hs ops.size).size:=λb d c=>e.st.ez c;have av:∀b,b≠(Hs ops.size).size->(s b≠none↔μ b≠none):=by
   intro b et;constructor
   ·intro c;rcases O.2.1 b c with h|h
    ·exact h
    ·omega
   ·intro c;obtain⟨d,L⟩:=Option.ne_none_iff_exists'.1 c;obtain⟨M,U,_⟩:=x.ext.mu b d L;rw[U];simp
  have eb:s (Hs j).size=none:=by
   cases a7:s (Hs j).size with
   |none=>rfl
   |some d=>exact absurd ec ((av _ dq).1 (by rw[a7];simp))
  obtain⟨eo,er⟩:=Option.ne_none_iff_exists'.1 cb
  let y:Mu:=⟨λb=>if b=(Hs j).size then s (Hs ops.size).size else if b=(Hs ops.size).size then none else s b,s.oH⟩
  have B:y (Hs j).size=s (Hs ops.size).size:=by simp[y]
  have N:y (Hs ops.size).size=none:=by
   have:(Hs ops.size).size≠(Hs j).size:=dq;simp[y,this]
  have I:∀b,b≠(Hs j).size->b≠(Hs ops.size).size->y b=s b:=λb i k=>by simp[y,i,k]
  have aN:∀G,mR y G->mR s G:=by
   rintro G (⟨b,d,c,hl⟩|hr)
   ·by_cases i:b=(Hs j).size
    ·subst i;rw[B]at c;exact .inl ⟨_,d,c,hl⟩
    ·by_cases k:b=(Hs ops.size).size
     ·subst k;rw[N]at c;simp at c
     ·rw[I b i k]at c;exact .inl ⟨b,d,c,hl⟩
   ·exact .inr hr
  have a8:∀b d,b<(Hs ops.size).size->s b=some d->y b=some d:=by
   intro b d c L;have i:b≠(Hs j).size:=by rintro rfl;rw[eb]at L;simp at L
   rw[I b i dq];exact L
  have aE:Ext w.heap μ R.heap y:=by
   refine⟨x.ext.size,λG c9 de=> ?_,λb d c=> ?_,x.ext.oH,x.ext.kept⟩
   ·obtain⟨ef,eh⟩:=x.ext.mZ G c9 de;exact⟨ef,λh=>eh (aN G h)⟩
   ·obtain⟨M,U,di⟩:=x.ext.mu b d c;exact⟨M,a8 b M (a6 b d c) U,di⟩
  have dm:fg R.heap y (f (Hs j).size) Y:=by
   rcases F with F|⟨l,F⟩|F|F
   ·rw[F]at A|-;cases A with|ptr _ _ _ _ d S c aA cL=>exact .ptr _ _ _ _ d S (by rw[B];exact c) aA cL
   ·rw[F]at A|-;cases A with|arr _ _ _ _ _ d S cp c aA hl h=>exact .arr _ _ _ _ _ d S cp (by rw[B];exact c) aA hl h
   ·rw[F]at A|-;cases A with|iter _ d S c h=>exact .iter _ d S (by rw[B];exact c) h
   ·rw[F]at A|-;cases A with|map _ d G c h=>exact .map _ d G (by rw[B];exact c) h
  have dn:St cx base R.heap y (PH Hs ops.size q):=by
   refine⟨D4 _ _ _,t.fit,λb d c=> ?_,λb ce d M c c1 hl=> ?_,λb d c=> ?_,λb d c=> ?_,t.pW,λg cv c7=> ?_⟩
   ·by_cases i:b=(Hs j).size
    ·subst i;rw[B]at c;obtain⟨X,W,bi⟩:=t.box _ d c;have dv:X=C:=by
      have:=H.sq (D4 Hs ops.size q) C;rw[al,W]at this;simpa using this
     subst dv;refine⟨X,dk,bi.conv (n:=(Hs ops.size).size) (λu bl=> ?_) a8 aN⟩;exact(r.Zi (j+1) p.lt _ X (.inr bC) bT u bl).mono dq
    ·by_cases k:b=(Hs ops.size).size
     ·subst k;rw[N]at c;simp at c
     ·rw[I b i k]at c;obtain⟨X,W,bi⟩:=t.box b d c;have c4:μ b≠none:=(av b k).1 (by rw[c];simp);obtain⟨bu,bH⟩:=Option.ne_none_iff_exists'.1 c4;have aX:=a6 b bu bH;rw[H.mH (by rw[al];exact aX)]at W;refine⟨X,W,bi.conv (n:=(Hs ops.size).size) (λu bl=> ?_) a8 aN⟩;obtain⟨z,bs,ea⟩:=e.st.box b bu bH;rw[W]at bs;simp only[ar]at bs;subst bs;exact ea.low a6 u bl
   ·have bz:∀b d,y b=some d->(b=(Hs j).size/\s (Hs ops.size).size=some d)\/(b≠(Hs j).size/\b≠(Hs ops.size).size/\s b=some d):=by
     intro b d c;by_cases i:b=(Hs j).size
     ·subst i;rw[B]at c;exact .inl ⟨rfl,c⟩
     ·by_cases k:b=(Hs ops.size).size
      ·subst k;rw[N]at c;simp at c
      ·rw[I b i k]at c;exact .inr ⟨i,k,c⟩
    rcases bz b d c with⟨J,D⟩|⟨J,D,K⟩<;>rcases bz ce M c1 with⟨cy,ae⟩|⟨cy,ae,bB⟩
    ·omega
    ·exact absurd (t.inj _ _ _ _ D bB hl).symm ae
    ·exact absurd (t.inj _ _ _ _ K ae hl) D
    ·exact t.inj _ _ _ _ K bB hl
   ·by_cases i:b=(Hs j).size
    ·subst i;rw[B]at c;exact t.low _ _ c
    ·by_cases k:b=(Hs ops.size).size
     ·subst k;rw[N]at c;simp at c
     ·rw[I b i k]at c;exact t.low _ _ c
   ·by_cases i:b=(Hs j).size
    ·subst i;rw[B]at c;exact t.apart _ _ c
    ·by_cases k:b=(Hs ops.size).size
     ·subst k;rw[N]at c;simp at c
     ·rw[I b i k]at c;exact t.apart _ _ c
   ·exact(e.st.yh g cv c7).ext aE
  refine⟨y,e.cl.set p,by rw[Act.pj];exact e.size,by rw[Act.pk];exact e.LW,e.HP,e.Ck b6,dn,e.Bf r p aE dm b8,λb=> ?_,
   e.ext.trans ⟨aE,x.os,x.tape,x.output⟩⟩
  by_cases i:b=(Hs j).size
  ·subst i;refine⟨λ_=> .inr ⟨bC,bN,?_⟩,λ_=>by rw[B];exact cb⟩;rw[bS];exact uQ e.cl p
  ·by_cases k:b=(Hs ops.size).size
   ·subst k;refine⟨λh=>absurd N h,λh=> ?_⟩;rcases h with h|⟨_,h,_⟩
    ·have:=r.lt0 h;omega
    ·omega
   ·rw[I b i k,av b k,e.Rn];refine or_congr Iff.rfl ⟨λ⟨J,D,K⟩=>⟨J,D,?_⟩,λ⟨J,D,K⟩=>⟨J,D,?_⟩⟩
    ·rw[r.Ak p.lt D J (by rw[b9];omega)];exact K
    ·rw[r.Ak p.lt D J (by rw[b9];omega)]at K;exact K
def Inv.acC(k:Dr P cx cf base mask m ops E Hs ws nj)(f:Inv cx base mask m ops E Hs ws nj listed a w μ q)(G:KH ops listed j o)(di:j9 ops mask (E j) o.guard=some true)(cp:ik o.op=true)
 (b7:∀i W,ops[i]? =some W->ik W.op=true->(i<j->jx ops i j=true)/\(j<i->jx ops j i=true)) {v:T}
 (C:Dc cx cf mask (E j) (Hs j) o.op v (Hs (j+1))) (c7:(E j).dst mask o.dst v=some (E (j+1))):
 yE P (λc al=>∃I,Inv cx base mask m ops E Hs ws nj (listed.setIfInBounds j true) (a.put o.dst c) al I (λ_=>j+1)) ((execOp a.eval o).run P w):=by
 have ea:ox mask ops E j:=⟨o,G.op,cp,di⟩;have bH:∀i,ox mask ops E i->i<j->listed.getD i false=true:=by
  rintro i ⟨W,L,B,_⟩ bz;exact G.before i ((b7 i W L B).1 bz)
 have bi:∀i,ox mask ops E i->j<i->listed.getD i false=false:=by
  rintro i ⟨W,L,B,_⟩ bz;exact G.behind i ((b7 i W L B).2 bz)
 have r:=G.lt;have eb:(Hs j).size<=(Hs (j+1)).size:=k.mono j r;have ec:(Hs (j+1)).size<=(Hs ops.size).size:=mK k.mono (show j+1<=ops.size from r) (au _);have ds:(Hs 0).size<=(Hs j).size:=mK k.mono (aw _) (bp r);have cb:∀b,b<(Hs j).size->(PH Hs ops.size q).get b=(Hs j).get b:=by
  intro b e;have t:b<(Hs ops.size).size:=dq;rw[k.wA (f.HP _) t];have bN:tT Hs b ops.size<=j:=(kI k.mono t (bp r)).1 e;rcases Nat.le_total (max (q b) (tT Hs b ops.size)) j with cL|cy
  ·refine(lI k.mono cL λi bn bs=> ?_).symm;have R:b<(Hs i).size:=(kI k.mono t dq).2 dq;refine k.same dq R λB Z=> ?_;have:=(f.kF i b B R Z).1 (bH i B bs);omega
  ·refine lI k.mono cy λi bn bs=> ?_;have c6:=f.HP b;have R:b<(Hs i).size:=(kI k.mono t dq).2 dq;refine k.same dq R λB Z=> ?_;have hl:=(f.kF i b B R Z).2 dq;rcases Nat.eq_or_lt_of_le bn with h|h
   ·subst h;rw[G.not]at hl;simp at hl
   ·rw[bi i B h]at hl;simp at hl
 have cv:∀b d,μ b=some d->b<(Hs j).size\/(Hs (j+1)).size<=b:=by
  intro b d e;rcases aD b (Hs j).size with h|h
  ·exact .inl h
  ·right;rcases aD b (Hs (j+1)).size with l|l
   ·exfalso;have t:b<(Hs ops.size).size:=dq;rcases(f.Rn b).1 (by rw[e];simp)with g|⟨_,_,g⟩
    ·have:=k.lt0 g;omega
    ·rw[(k.made r t).2 ⟨h,l⟩]at g;simp only[Nat.add_sub_cancel]at g;rw[G.not]at g;simp at g
   ·exact l
 have ce:∀b,μ b≠none->nj b≠none\/(Hs 0).size<=b:=λb e=>by
  rcases(f.Rn b).1 e with g|⟨g,_⟩
  ·exact .inl g
  ·exact .inr g
 let N:Mu:=⟨λb=>if b<(Hs j).size then μ b else none,λp=>μ.oH p\/∃b d,(Hs j).size<=b/\μ b=some d/\d.iI=p⟩
 have aX:∀b,b<(Hs j).size->N b=μ b:=λb e=>by simp[N,e]
 have O:∀b d,N b=some d->b<(Hs j).size/\μ b=some d:=by
  intro b d e;by_cases h:b<(Hs j).size
  ·rw[aX b h]at e;exact⟨h,e⟩
  ·simp[N,h]at e
 have an:∀p,mR N p->mR μ p:=by
  rintro p (⟨b,d,e,hl⟩|hr|⟨b,d,e,D,hl⟩)
  ·exact .inl ⟨b,d,(O b d e).2,hl⟩
  ·exact .inr hr
  ·exact .inl ⟨b,d,D,hl⟩
 have ap:∀b d,b<(Hs j).size->μ b=some d->N b=some d:=λb d e D=>by rw[aX b e];exact D
 have dn:St cx base w.heap N (Hs j):=by
  refine⟨k.wf j (bp r),f.st.fit,λb d e=> ?_,λb K d y e aE hl=> ?_,λb d e=> ?_,λb d e=> ?_,λp hr=> ?_,λg a6 bk=> ?_⟩
  ·obtain⟨x,l⟩:=O b d e;obtain⟨V,C,L⟩:=f.st.box b d l;rw[cb b x]at C;exact⟨V,C,L.conv (k.Zi j (bp r) b V (ce b (by rw[l];simp)) C) ap an⟩
  ·exact f.st.inj b K d y (O b d e).2 (O K y aE).2 hl
  ·exact f.st.low b d (O b d e).2
  ·rintro(hr|⟨K,y,aE,Y,hl⟩)
   ·exact f.st.apart b d (O b d e).2 hr
   ·have:=f.st.inj K b y d Y (O b d e).2 hl;have:=(O b d e).1;omega
  ·rcases hr with hr|⟨b,d,_,D,hl⟩
   ·exact f.st.pW p hr
   ·rw[<-hl];exact f.st.lt D
  ·have bS:=f.st.yh g a6 bk;refine bS.conv (n:=0) ?_ (λb d e=>by omega) an;obtain⟨_,_,_,_,_,_,_,_,_,c9,_⟩:=bS.ly;exact .ji _ λu U=>(c9 u U).2.low 0
 have dm:j7 w.heap N mask (Br mask (E j) (o.looksAt ops)) a.tmps:=by
  intro s u U;refine(f.MV k G s u U).conv (n:=(Hs j).size) ?_ ap an
  rw[xP]at U;split at U
  ·exact k.acB j (bp r) s u U
  ·simp at U
 have dk:=C.congr (e':=Br mask (E j) (o.looksAt ops)) λV C=>y8 C;refine(Ch k.iG k.ck dn dm dk).mono λc al ca=> ?_;obtain⟨⟨I,b8,S,F,b9⟩,_⟩:=ca
 let J:Mu:=⟨λb=>if b<(Hs (j+1)).size then I b else μ b,μ.oH⟩
 have av:∀b,b<(Hs (j+1)).size->J b=I b:=λb e=>by simp[J,e]
 have aA:∀b,(Hs (j+1)).size<=b->J b=μ b:=λb e=>by
  have:¬b<(Hs (j+1)).size:=dq;simp[J,this]
 have bB:I.oH=N.oH:=F.ext.oH;have bu:∀b d,(Hs (j+1)).size<=b->μ b=some d->I.oH d.iI:=by
  intro b d e D;rw[bB];exact .inr ⟨b,d,dq,D,rfl⟩
 have a7:∀p,mR J p->mR I p:=by
  rintro p (⟨b,d,e,hl⟩|hr)
  ·by_cases h:b<(Hs (j+1)).size
   ·rw[av b h]at e;exact .inl ⟨b,d,e,hl⟩
   ·rw[aA b dq]at e;right;rw[<-hl];exact bu b d dq e
  ·right;rw[bB];exact .inl hr
 have b6:∀b d,I b=some d->b<(Hs (j+1)).size:=λb d e=>S.ez e;have a8:∀b d,b<(Hs (j+1)).size->I b=some d->J b=some d:=λb d e D=>by rw[av b e];exact D
 have aN:Ext w.heap μ al.heap J:=by
  refine⟨F.ext.size,λp bl c1=> ?_,λb d e=> ?_,rfl,λp bl hr=>F.ext.kept p bl (.inl hr)⟩
  ·obtain⟨z,A⟩:=F.ext.mZ p bl λh=>c1 (an p h);exact⟨z,λh=>A (a7 p h)⟩
  ·rcases cv b d e with h|h
   ·obtain⟨y,Y,c4⟩:=F.ext.mu b d (ap b d h e);exact⟨y,a8 b y dq Y,c4⟩
   ·exact⟨d,by rw[aA b h];exact e,.inl rfl⟩
 have dd:St cx base al.heap J (PH Hs ops.size (λ_=>j+1)):=by
  have ae:∀b d,J b=some d->(b<(Hs (j+1)).size/\I b=some d)\/((Hs (j+1)).size<=b/\μ b=some d):=by
   intro b d e;by_cases h:b<(Hs (j+1)).size
   ·rw[av b h]at e;exact .inl ⟨h,e⟩
   ·rw[aA b dq]at e;exact .inr ⟨dq,e⟩
  refine⟨D4 _ _ _,S.fit,λb d e=> ?_,λb K d y e aE hl=> ?_,λb d e=> ?_,λb d e hr=> ?_,λp hr=> ?_,λg a6 bk=>(f.st.yh g a6 bk).ext aN⟩
  ·rcases ae b d e with⟨x,l⟩|⟨x,l⟩
   ·obtain⟨V,C,L⟩:=S.box b d l;have t:b<(Hs ops.size).size:=dq;have bN:tT Hs b ops.size<=j+1:=(kI k.mono t (show j+1<=ops.size from r)).1 x;refine⟨V,?_,L.conv (L.low b6) a8 a7⟩;rw[k.wA (q:=λ_=>j+1) (show j+1<=ops.size from r) t,show max (j+1) (tT Hs b ops.size)=j+1 by omega];exact C
   ·obtain⟨V,C,L⟩:=f.st.box b d l;have t:b<(Hs ops.size).size:=f.st.ez l;have bN:¬tT Hs b ops.size<=j+1:=λh=>by
     have:=(kI k.mono t (show j+1<=ops.size from r)).2 h;omega
    refine⟨V,?_,L.ext aN ?_⟩
    ·rw[k.wA (f.HP _) t]at C;rw[k.wA (q:=λ_=>j+1) (show j+1<=ops.size from r) t,show max (j+1) (tT Hs b ops.size)=tT Hs b ops.size by omega];rw[<-C];refine(lI k.mono dq λi bn bs=> ?_).symm;have c6:=f.HP b;have dv:=Ff Hs b ops.size;have R:b<(Hs i).size:=(kI k.mono t dq).2 dq;refine k.same dq R λB Z=> ?_;have hl:=(f.kF i b B R Z).2 dq;rw[bi i B dq]at hl;simp at hl
    ·exact F.ext.kept d.iI (f.st.lt l) (.inr ⟨b,d,dq,l,rfl⟩)
  ·rcases ae b d e with⟨x,l⟩|⟨x,l⟩<;>rcases ae K y aE with⟨bC,X⟩|⟨bC,X⟩
   ·exact S.inj b K d y l X hl
   ·exact absurd (by rw[hl];exact bu K y bC X) (S.apart b d l)
   ·exact absurd (by rw[<-hl];exact bu b d x l) (S.apart K y X)
   ·exact f.st.inj b K d y l X hl
  ·rcases ae b d e with⟨x,l⟩|⟨x,l⟩
   ·exact S.low b d l
   ·exact f.st.low b d l
  ·rcases ae b d e with⟨x,l⟩|⟨x,l⟩
   ·exact S.apart b d l (by rw[bB];exact .inl hr)
   ·exact f.st.apart b d l hr
  ·exact bE (f.st.pW p hr) F.ext.size
 have de:fg al.heap J v c:=b8.conv (b8.low b6) a8 a7;refine⟨J,f.cl.set G,by rw[Act.pj];exact f.size,by rw[Act.pk];exact f.LW,λ_=>r,λi b bT _ _=> ?_,dd,f.Bf k G aN de c7,λb=> ?_,
  f.ext.trans ⟨aN,F.os,F.tape,F.output⟩⟩
 ·rcases cR i j with h|h|h
  ·rw[getD_set_ne false dq,bH i bT h];simp;omega
  ·subst h;rw[uQ f.cl G];simp
  ·rw[getD_set_ne false dq,bi i bT h];simp;omega
 ·by_cases x:b<(Hs (j+1)).size
  ·rw[av b x];have t:b<(Hs ops.size).size:=dq;by_cases l:b<(Hs j).size
   ·have:I b≠none↔μ b≠none:=by
     constructor
     ·intro e;rcases b9.2.1 b e with g|g
      ·rwa[aX b l]at g
      ·omega
     ·intro e;obtain⟨d,D⟩:=Option.ne_none_iff_exists'.1 e;obtain⟨y,Y,_⟩:=F.ext.mu b d (ap b d l D);rw[Y];simp
    rw[this,f.Rn];refine or_congr Iff.rfl ⟨λ⟨z,A,M⟩=>⟨z,A,?_⟩,λ⟨z,A,M⟩=>⟨z,A,?_⟩⟩
    ·rw[k.Ak r A z dq];exact M
    ·rw[k.Ak r A z dq]at M;exact M
   ·refine⟨λ_=> .inr ⟨dq,t,?_⟩,λ_=>b9.2.2 b dq x⟩;rw[(k.made r t).2 ⟨dq,x⟩];exact uQ f.cl G
  ·rw[aA b dq,f.Rn];refine or_congr Iff.rfl ⟨λ⟨z,A,M⟩=>⟨z,A,?_⟩,λ⟨z,A,M⟩=>⟨z,A,?_⟩⟩
   ·rw[k.Ak r A z dq];exact M
   ·rw[k.Ak r A z dq]at M;exact M
def MD{e n f:H}{C:Ty}{c z p B:Nat}{r:T}(b:e.store C (.ptr c z p B) r=some n)(Y:e.fc.length=e.size)(Z:f.fc.length=f.size)(G:f.get c=e.get c):
 n.size=e.size/\(∀h,h≠c->n.get h=e.get h)/\eJ e n c=false/\c<e.size/\∃d,f.store C (.ptr c z p B) r=some d/\d.size=f.size/\d.fc.length=d.size/\d.get c=n.get c/\∀h,h≠c->d.get h=f.get h:=by
 have b:fT (Nat.beq (kC r.cells) C.size) (dM (e.get c) λF=> @iN.rec (λ_=>aa H) (λu i g exact t l=>
  fT (Nat.beq i z) (@Bool.rec (λ_=>aa H) (dM (lM l p) λx=>dM (mz x B r.cells) λy=>dM (kr l p y) λs=>
   dM (gh (Nat.succ g)) λk=>e.put c ⟨u,i,k,exact,false,s⟩) none t)) F)=some n:=b
 obtain⟨I,b⟩:=dL.1 b;replace b:=dD.1 b;obtain⟨⟨u,i,g,N,t,l⟩,v,b⟩:=b;obtain⟨J,b⟩:=dL.1 b;cases t with
 |true=>simp at b
 |false=>
  replace b:=dD.1 b;obtain⟨x,K,b⟩:=b;replace b:=dD.1 b;obtain⟨y,L,b⟩:=b;replace b:=dD.1 b;obtain⟨s,M,b⟩:=b;replace b:=dD.1 b;obtain⟨k,D,b⟩:=b;have X:k=g+1:=by rw[iw]at D;simpa using D.symm
  obtain⟨p1,p2,p3,p4⟩:=AP b Y;have V:c<f.size:=H.ez (G.trans v);have A:∃d,f.put c ⟨u,i,k,N,false,s⟩=some d:=⟨_,H.uU.2 ⟨V,dq,rfl⟩⟩;obtain⟨d,A⟩:=A;obtain⟨O,R,S,U⟩:=AP A Z;refine⟨p1,p4,?_,H.ez v,d,?_,O,R,by rw[S,p3],U⟩
  ·unfold eJ;rw[v,p3];show Nat.beq g k=false;rw[X];cases W:Nat.beq g (g+1)with
   |false=>rfl
   |true=>have:=aC W;omega
  ·show fT (Nat.beq (kC r.cells) C.size) (dM (f.get c) λF=> @iN.rec (λ_=>aa H) (λu i g exact t l=>
    fT (Nat.beq i z) (@Bool.rec (λ_=>aa H) (dM (lM l p) λx=>dM (mz x B r.cells) λy=>dM (kr l p y) λs=>
     dM (gh (Nat.succ g)) λk=>f.put c ⟨u,i,k,exact,false,s⟩) none t)) F)=some d
   rw[G,v];simp only[I,J,K,L,M,D,ij,dR,A]
def Dr.MF(p:Dr P cx cf base mask m ops E Hs ws nj){c:Nat}{i:Oper}(l:ops[c]? =some i)(D:oe i.op=true)(R:ox mask ops E c):
 ∃e,TK cx mask ops E c e/\e<(Hs c).size/\(Hs (c+1)).size=(Hs c).size/\(∀f,f≠e->(Hs (c+1)).get f=(Hs c).get f)/\eJ (Hs c) (Hs (c+1)) e=false/\
  ∀d:H,d.fc.length=d.size->d.get e=(Hs c).get e->∃g,ja i.op cx mask (E c) d=some (.val .undef g)/\g.size=d.size/\g.fc.length=g.size/\g.get e=(Hs (c+1)).get e/\∀f,f≠e->g.get f=d.get f:=by
 obtain⟨al,s,_,F⟩:=R;rw[l]at s;simp only[ar]at s;subst s;have C:c<ops.size:=(Array.getElem?_eq_some_iff.1 l).1;rcases my (p.tr.step c _ l)with⟨G,_⟩|⟨_,h,b,_⟩
 ·rw[F]at G;simp at G
 ·cases t:i.op with
  |store v x y=>
   rw[t]at b;rcases b with b|⟨M,I,b,_⟩
   ·have b:(dM (cx.ty v) λn=>dM (fG cx mask (E c) x) λa=>dM (fG cx mask (E c) y) λh=>fT h.gJ (dM ((Hs c).store n a h) λk=>some (lh.val .undef k)))=some (.val h (Hs (c+1))):=b;replace b:=dD.1 b;obtain⟨n,J,b⟩:=b;replace b:=dD.1 b;obtain⟨T,z,b⟩:=b;replace b:=dD.1 b;obtain⟨an,K,b⟩:=b;obtain⟨L,b⟩:=dL.1 b;replace b:=dD.1 b;obtain⟨k,A,b⟩:=b;simp only[ar,lh.val.injEq]at b;obtain⟨rfl,rfl⟩:=b;cases T with
    |ptr e Y Z ae=>
     have B:∀d:H,d.fc.length=d.size->d.get e=(Hs c).get e->_:=λd u r=>MD A (p.wf c (bp C)) u r;obtain⟨U,V,W,X,_⟩:=B (Hs c) (p.wf c (bp C)) rfl;refine⟨e,⟨i,v,x,y,l,t,F,by rw[z];rfl⟩,X,U,V,W,λd u r=> ?_⟩;obtain⟨_,_,_,_,g,N,O⟩:=B d u r;refine⟨g,?_,O⟩;show(dM (cx.ty v) λn=>dM (fG cx mask (E c) x) λa=>dM (fG cx mask (E c) y) λh=>fT h.gJ (dM (d.store n a h) λk=>some (lh.val .undef k)))=_;rw[J,z,K];simp only[dR,L,ij,N]
    |_=>simp[H.store]at A
   ·exact absurd b (BL (λf S=>by simp at S) M I)
  |_=>rw[t]at D;simp[oe]at D
def Inv.Zj(g:Dr P cx cf base mask m ops E Hs ws nj)(i:Inv cx base mask m ops E Hs ws nj listed a w μ q)(k:KH ops listed j o)(bT:j9 ops mask (E j) o.guard=some true)(C:oe o.op=true)
 {F:T} (n:Dc cx cf mask (E j) (Hs j) o.op F (Hs (j+1))) (bC:(E j).dst mask o.dst F=some (E (j+1))):
 yE P (λL al=>∃G b9,Inv cx base mask m ops E Hs ws nj (listed.setIfInBounds j true) (a.put o.dst L) al G b9) ((execOp a.eval o).run P w):=by
 have R:ik o.op=true:=by cases bn:o.op<;>rw[bn]at C<;>simp[oe]at C<;>rfl
 have S:ox mask ops E j:=⟨o,k.op,R,bT⟩;have A:=k.lt;obtain⟨e,aE,N,bH,bs,bS,Z⟩:=g.MF k.op C S;have v:e<(Hs ops.size).size:=bE N (mK g.mono (bp A) (au _));have K:∀b,ox mask ops E b->b<j->eJ (Hs b) (Hs (b+1)) e=false->listed.getD b false=true:=by
  intro b l x c;rcases g.tr.both j b e aE l x with h|h
  ·rw[c]at h;simp at h
  ·exact k.before b h
 have J:∀b,ox mask ops E b->j<b->eJ (Hs b) (Hs (b+1)) e=false->listed.getD b false=false:=by
  intro b l x c;have a6:=l;obtain⟨b8,W,a8,_⟩:=a6;rcases g.Dl j b o b8 k.op W x with⟨_,h⟩|h
  ·obtain⟨y,aN,_,_,bu,_⟩:=g.MF W (h R a8).2 l;have:y=e:=by
    rcases Nat.decEq y e with bl|rfl
    ·exfalso;have z:=bu e (bg bl);unfold eJ at c;rw[z]at c;cases t:(Hs b).get e with
     |none=>rw[t]at c;simp at c
     |some p=>
      rw[t]at c;have c:Nat.beq p.ver p.ver=false:=c;simp at c
    ·rfl
   subst this;rcases g.tr.both b j y aN S x with h|h
   ·rw[bS]at h;simp at h
   ·exact k.behind b h
  ·exact k.behind b h
 have cv:tT Hs e ops.size<=j:=(kI g.mono v (bp A)).1 N;have bz:(PH Hs ops.size q).get e=(Hs j).get e:=by
  rw[g.wA (i.HP _) v];have cL:=i.HP e;rcases Nat.le_total (max (q e) (tT Hs e ops.size)) j with bk|a7
  ·refine(lI g.mono bk λb U V=> ?_).symm;have s:e<(Hs b).size:=(kI g.mono v dq).2 dq;refine g.same dq s λl c=> ?_;have:=(i.kF b e l s c).1 (K b l V c);omega
  ·refine lI g.mono a7 λb U V=> ?_;have s:e<(Hs b).size:=(kI g.mono v dq).2 dq;refine g.same dq s λl c=> ?_;have hl:=(i.kF b e l s c).2 dq;rcases Nat.eq_or_lt_of_le U with h|h
   ·subst h;rw[k.not]at hl;simp at hl
   ·rw[J b l h c]at hl;simp at hl
 obtain⟨cp,Y,M,ce,an,ap⟩:=Z (PH Hs ops.size q) (D4 _ _ _) bz;have bN:F= .undef:=by
  obtain⟨cy,X,_⟩:=Z (Hs j) (g.wf j (bp A)) rfl;rcases n with n|⟨f,cb,n,_⟩
  ·rw[X]at n;simp only[ar,lh.val.injEq]at n;exact n.1.symm
  ·rw[X]at n;simp at n
 subst bN;have aX:∀p∈o.op.operands,fG cx mask (E j) p=fG cx mask (Br mask (E j) (o.looksAt ops)) p:=λp n=>y8 n;rw[y9 aX]at Y;refine((xV g.iG i.st (i.MV g k) Y).Yv).mono λL al t=> ?_;obtain⟨G,b6,ae,D,b7⟩:=t;refine⟨G,λd=>if d=e then j+1 else q d,i.cl.set k,by rw[Act.pj];exact i.size,by rw[Act.pk];exact i.LW,λd=> ?_,λb d B s c=> ?_,
  ae.congr (D4 _ _ _) λd I u=> ?_,i.Bf g k D.ext b6 bC,i.Fb g k bH λd=>⟨λu=> ?_,λu=> ?_⟩,i.ext.trans D⟩
 ·show(if d=e then j+1 else q d)<=ops.size;have:=i.HP d;split<;>omega
 ·show _↔b<(if d=e then j+1 else q d);by_cases r:d=e
  ·subst r;rw[aq rfl];rcases cR b j with h|h|h
   ·rw[getD_set_ne false dq,K b B h c];simp;omega
   ·subst h;rw[uQ i.cl k];simp
   ·rw[getD_set_ne false dq,J b B h c];simp;omega
  ·rw[ao r];have bi:j≠b:=by
    rintro rfl;have z:=bs d r;unfold eJ at c;rw[z]at c;cases t:(Hs j).get d with
    |none=>rw[t]at c;simp at c
    |some p=>
     rw[t]at c;have c:Nat.beq p.ver p.ver=false:=c;simp at c
   rw[getD_set_ne false bi];exact i.kF b d B s c
 ·have O:d<(Hs ops.size).size:=by
   have:=ae.ez u;rw[M]at this;exact this
  have bB:(if d=e then j+1 else q d)<=ops.size:=by have:=i.HP d;split<;>omega
  rw[g.wA (q:=λd=>if d=e then j+1 else q d) bB O];by_cases r:d=e
  ·subst r;rw[aq rfl,an,show max (j+1) (tT Hs d ops.size)=j+1 by omega]
  ·rw[ao r,ap d r,g.wA (i.HP _) O]
 ·rcases b7.2.1 d u with h|h
  ·exact h
  ·rw[M]at h;omega
 ·obtain⟨I,av⟩:=Option.ne_none_iff_exists'.1 u;obtain⟨ca,aA,_⟩:=D.ext.mu d I av;rw[aA];simp
def Inv.step(c:Dr P cx cf base mask m ops E Hs ws nj)(d:Inv cx base mask m ops E Hs ws nj listed a w μ q)(A:j∈Region.ready .any ops listed):
 wpOp P ops Q j (λy l=>∃i B,Inv cx base mask m ops E Hs ws nj (listed.setIfInBounds j true) y l i B) a w:=by
 obtain⟨o,b⟩:=rdy d.cl A;unfold wpOp;simp only[b.op];rcases my (c.tr.step j o b.op)with⟨e,g,z⟩|⟨e,C,r,g⟩
 ·simp only[d.want c b e,cd,br];exact⟨μ,q,d.skip c b e g z⟩
 ·simp only[d.want c b e,bo];left;cases k:ik o.op with
  |false=>exact yE.wp (d.quiet c b e k r g) λs l f=>by obtain⟨i,h⟩:=f;exact⟨i,q,h⟩
  |true=>
   cases p:oe o.op with
   |true=>exact yE.wp (d.Zj c b e p r g) λs l f=>f
   |false=>
    refine yE.wp (d.acC c b e k (λv x u t=>⟨λn=> ?_,λn=> ?_⟩) r g) λs l f=>by obtain⟨i,h⟩:=f;exact⟨i,_,h⟩
    ·rcases c.Dl v j x o u b.op n with⟨_,h⟩|h
     ·have:=(h t k).2;rw[p]at this;simp at this
     ·exact h
    ·rcases c.Dl j v o x b.op u n with⟨_,h⟩|h
     ·have:=(h k t).1;rw[p]at this;simp at this
     ·exact h
def Xg(listed:af Bool):Nat:=(listed.toList.filter λb=> !b).length
def IY:∀(c:List Bool) (j:Nat),c[j]? =some false->((c.set j true).filter λd=> !d).length+1=(c.filter λd=> !d).length:=by
 intro c;induction c with
 |nil=>intro j b;simp at b
 |cons f c e=>
  intro j b;cases j with
  |zero=>simp at b;subst b;simp
  |succ j=>
   simp at b;have:=e j b;cases f<;>simp[cX]<;>omega
def JB(b:listed.getD j true=false):Xg (listed.setIfInBounds j true)+1=Xg listed:=by
 have c:j<listed.size:=by
  rcases aD j listed.size with h'|h'
  ·exact h'
  ·simp[cQ h']at b
 unfold Xg;rw[Array.toList_setIfInBounds];refine IY _ _ ?_;simp[c]at b;simp[c,b]
def Jq(g:Dr P cx cf base mask m ops E Hs ws nj)(h:Cl ops listed)(hr:Region.ready .any ops listed=[]):∀b,b<ops.size->listed.getD b false=true:=by
 intro b;induction b using Nat.strongRecOn with
 |_ b n=>
  intro e;cases d:listed.getD b false with
  |true=>rfl
  |false=>
   have f:ops[b]? =some ops[b]:=by simp[e]
   have:b∈Region.ready .any ops listed:=by
    refine mem_ready.2 ⟨?_,ops[b],f,λc k i=> ?_⟩
    ·have:b<listed.size:=by rw[h.size];exact e
     simp[this]at d|-;exact d
    ·have l:=g.back b _ f c k i;exact n c.on l dq
   rw[hr]at this;simp at this
def Inv.ZU(d:Dr P cx cf base mask m ops E Hs ws nj)(f:Inv cx base mask m ops E Hs ws nj listed a w μ q)(p:∀g,g<ops.size->listed.getD g false=true):
 St cx base w.heap μ (Hs ops.size)/\j7 w.heap μ mask (E ops.size) a.tmps/\xE nj μ (Hs 0).size (Hs ops.size).size:=by
 refine⟨f.st.congr (d.wf _ (au _)) λe O r=> ?_,λs h L=>f.MK s h ?_,?_⟩
 ·have v:=f.lt d r;rw[d.wA (f.HP _) v];have R:=Ff Hs e ops.size;have:=f.HP e;refine lI d.mono dq λg T y=> ?_;have u:e<(Hs g).size:=(kI d.mono v dq).2 dq;refine d.same y u λI K=> ?_;have:=(f.kF g e I u K).1 (p g y);omega
 ·
  have N:∀b,ry ops listed s ops.size+b<=ops.size->(E (ry ops listed s ops.size+b)).get mask s=(E (ry ops listed s ops.size)).get mask s:=by
   intro b;induction b with
   |zero=>intro _;rfl
   |succ b M=>
    intro S;have t:ry ops listed s ops.size+b<ops.size:=dq;have z:ops[ry ops listed s ops.size+b]? =some ops[ry ops listed s ops.size+b]:=by simp[t]
    rw[<-M dq];have A:ops[ry ops listed s ops.size+b].dst≠some s:=by
     intro G;have:=IF (n:=ops.size) t (p _ t) (by rw[z];exact G);omega
    have B:∀h i,(E (ry ops listed s ops.size+b)).dst mask ops[ry ops listed s ops.size+b].dst h=some i->i.get mask s=(E (ry ops listed s ops.size+b)).get mask s:=by
     intro h i c;cases x:ops[ry ops listed s ops.size+b].dst with
     |none=>rw[x]at c;have c:some _=some i:=c;simp only[ar]at c;rw[c]
     |some C=>
      rw[x]at c A;have J:s≠C:=λD=>A (by rw[D]);rw[Env.AU (show Env.set mask _ C h=some i from c) s,ao J]
    rcases my (d.tr.step _ _ z)with⟨_,c,_⟩|⟨_,h,_,c⟩
    ·exact B _ _ c
    ·exact B _ _ c
  have U:=UK (ops:=ops) (listed:=listed) (s:=s) ops.size;have:=N (ops.size-ry ops listed s ops.size) dq;rw[show ry ops listed s ops.size+(ops.size-ry ops listed s ops.size)=ops.size by omega]at this;rw[<-this];exact L
 ·refine⟨mK d.mono (aw _) (au _),λe r=> ?_,λe k l=> ?_⟩
  ·rcases(f.Rn e).1 r with F|⟨k,l,_⟩
   ·exact .inl F
   ·exact .inr ⟨k,l⟩
  ·refine(f.Rn e).2 (.inr ⟨k,l,p _ ?_⟩);have:=d.cr0 l k;have:=Ff Hs e ops.size;omega
def Mc(f:Dr P cx cf base mask m ops E Hs ws nj)
 (p:∀a w μ,St cx base w.heap μ (Hs ops.size)->j7 w.heap μ mask (E ops.size) a.tmps->xE nj μ (Hs 0).size (Hs ops.size).size->oU ws nj w μ->a.tmps.size=m->a.defers=[]->Q .normal a w):
 ∀(c:Nat) (listed:af Bool) (a:Act) (w:World),Xg listed<=c->(∃μ q,Inv cx base mask m ops E Hs ws nj listed a w μ q)->wpAny P .any ops Q c listed a w:=by
 have fin:∀(listed:af Bool) (a:Act) (w:World),(∃μ q,Inv cx base mask m ops E Hs ws nj listed a w μ q)->Region.ready .any ops listed=[]->Q .normal a w:=by
  rintro listed a w ⟨μ,q,b⟩ hr;obtain⟨k,l,n⟩:=b.ZU f (Jq f b.cl hr);exact p a w μ k l n b.ext b.size b.LW
 intro c;induction c with
 |zero=>
  intro listed a w r d;have hr:Region.ready .any ops listed=[]:=by
   cases hr:Region.ready .any ops listed with
   |nil=>rfl
   |cons g u=>
    have e:g∈Region.ready .any ops listed:=by rw[hr];simp
    have:=JB (mem_ready.1 e).1;omega
  exact⟨hr,fin listed a w d hr⟩
 |succ c s=>
  intro listed a w r d;refine⟨λhr=>fin listed a w d hr,λg e=> ?_⟩;obtain⟨μ,q,b⟩:=d;have:=JB (mem_ready.1 e).1;exact wpOp_mono (λh t i=>s _ h t dq i) (b.step f e)
def chain{n:World}{p:Mu}{h:H}{u:Env}{g c:H}{f:Env}(iG:iP P cx)(t:mX P cx cf)(v:D5 m ops){l:Nat}(y:ops[l]? =some o)(K:kV cx cf mask ops u g o=some (f,c))
 (r:sH cx base mask m n p h u g a w):(∃B e,sH cx base mask m n p h f c B e)/\kJ g c:=by
 have A:=r;obtain⟨μ,b,d,M,C,D,x,J⟩:=A;rcases my K with⟨L,k,rfl⟩|⟨L,O,z,k⟩
 ·exact⟨⟨_,w,μ,b,j7.put d .undef (λb i=>by rw[x];exact v l o b y i) k,M,C,D,by rw[Act.pj];exact x,by rw[Act.pk];exact J⟩,kJ.refl b.wf⟩
 ·have hr:=Ch (P:=P) iG t b d z;obtain⟨s,e,G⟩:=hr.some;have F:yE P (λs e=>sH cx base mask m n p h f c (a.put o.dst s) e) ((execOp a.eval o).run P w):=
   r.after (λb i=>v l o b y i) k λbase μ b d=>Ch iG t b d z
  obtain⟨N,R,I⟩:=F.some;exact⟨⟨_,_,I⟩,G.2⟩
def I8(bN:P.follows .mixedOrders=true)(iG:iP P cx)(N:mX P cx cf):P5 P cx cf om:=by
 intro base mask m c6 c7 c1 ops e bk h bn a w Q id Y R bT a7 bu;obtain⟨E,Hs,b9,cb,aX,U,ce,_,_,cp,cv,_,ca⟩:=CQ ops.toList 0 ⟨[],[]⟩ e bk h bn (λt=>by simp) bT;simp only[Nat.zero_add,bZ]at aX U;have V:Trace cx cf mask ops E Hs:=⟨λb o k=>ce b o (aw _) k,λb B c u v A=>cp b B c (aw _) u v A,λb B c u v A=>cv b B c (aw _) u v A,λb B c u v A=>ca b B c (aw _) u v A⟩;obtain⟨nj,s,r,x,bi,g,an,ae⟩:=a7;subst b9 cb;have K:∀b,b<=ops.size->∃M I,sH cx base mask m w nj (Hs 0) (E b) (Hs b) M I:=by
  intro b;induction b with
  |zero=>intro _;exact⟨a,w,nj,s,r,oU.refl _ _,xE.refl _ _,kJ.refl s.wf,an,ae⟩
  |succ b T=>
   intro f;obtain⟨a1,J,L⟩:=T dq;have k:ops[b]? =some ops[b]:=by simp[show b<ops.size by omega]
   exact(chain iG N R k (V.step b _ k) L).1
 have X:∀b,b<ops.size->kJ (Hs b) (Hs (b+1)):=by
  intro b f;obtain⟨a1,J,L⟩:=K b dq;have k:ops[b]? =some ops[b]:=by simp[f]
  exact(chain iG N R k (V.step b _ k) L).2
 have D:Dr P cx cf base mask m ops E Hs {w with drawn:=w.drawn+1} nj:=by
  refine⟨iG,N,R,V,s,λi j c4 b8 bz bH bB=>Hm Y bz bH bB,λj o k=>I9 Y k,λb f sl C n=> ?_,λb f c y d ap C n=> ?_,X,λb f=> ?_⟩
  ·obtain⟨a1,J,W,p,r1,_⟩:=K b f;exact(r1 sl C n).low λc l d=>p.ez d
  ·obtain⟨a1,J,W,p,r1,cy,a8,_⟩:=K b f;have bC:W c≠none:=by
    rcases d with d|d
    ·obtain⟨l,O⟩:=Option.ne_none_iff_exists'.1 d;obtain⟨cL,bs,_⟩:=cy.ext.mu c l O;rw[bs];simp
    ·exact a8.2.2 c d (H.ez ap)
   obtain⟨l,O⟩:=Option.ne_none_iff_exists'.1 bC;obtain⟨z,S,bS⟩:=p.box c l O;rw[ap]at S;simp only[ar]at S;subst S;exact bS.low (λc l d=>p.ez d) C n
  ·obtain⟨a1,J,W,p,_⟩:=K b f;exact p.wf
 have bl:∀b,b<=ops.size->kJ (Hs 0) (Hs b):=by
  intro b;induction b with
  |zero=>intro _;exact kJ.refl s.wf
  |succ b T=>intro f;exact(T dq).trans (X b dq)
 refine wp_region_any bN (Mc D (λM I a6 av aA aE G b6 b7=> ?_) ops.size _ a _ (by simp[Xg]) ⟨nj,λ_=>0,?_⟩)
 ·rw[aX]at aA;rw[U]at av aE;have aN:oU w nj I a6:=⟨G.ext,G.os,G.tape,G.output⟩;exact bu M I ⟨a6,av,aA,x.trans aN,bi.trans (hp:=w.heap) aE aN.ext,by have:=bl ops.size (au _);rw[U]at this;exact g.trans this,b6,b7⟩
 ·have F:∀b,(Array.replicate ops.size false).getD b false=false:=by
   intro b;rcases aD b ops.size with h|h<;>simp[h]
  refine⟨⟨dt,λj b8 _ hl=> ?_⟩,an,ae,λ_=>aw _,λb c _ _ _=> ?_,?_,λsl C n=> ?_,λc=> ?_,⟨Ext.refl _ _,rfl,rfl,rfl⟩⟩
  ·rw[F]at hl;simp at hl
  ·rw[F];simp
  ·refine s.congr (D4 _ _ _) λc l d=> ?_;have al:=s.ez d;have Z:c<(Hs ops.size).size:=bE al (mK D.mono (aw _) (au _));rw[D.wA (q:=λ_=>0) (aw _) Z];have:tT Hs c ops.size<=0:=(kI D.mono Z (aw _)).1 al;rw[show max 0 (tT Hs c ops.size)=0 by omega]
  ·have:ry ops (Array.replicate ops.size false) sl ops.size=0:=by
    rcases yc (ops:=ops) (listed:=Array.replicate ops.size false) (s:=sl) ops.size with h|⟨b,_,_,h,_⟩
    ·exact h
    ·rw[F]at h;simp at h
   rw[this]at n;exact r sl C n
  ·rw[F];simp
end
end
noncomputable section
section
variable {P:ai}{cx:Ctx}{cf:iL}{base mask m:Nat}{w0 w:World}{μ0 μ:Mu}{h0 h h':H}{e e':Env}{a:Act}
def za{f:List T}{cs:af am}{g:af Obj}(b:fV g μ f cs.toList):fg g μ (jv f) (if h:cs.size=1 then cs[0]else .tuple cs):=by
 have d:∀(k:cs.size≠1),fg g μ (.tuple f) (if h:cs.size=1 then cs[0]else .tuple cs):=by
  intro k;rw[dif_neg k];exact .tuple f cs (by simpa using b.1.symm) λn i l=>by simpa[aV,List.getD]using b.2 n i l
 have c:=b.1
 match f,b,c,d with
 | [],b,c,d=>exact d (by simp at c;omega)
 | [i],b,c,d=>
  have j:cs.size=1:=by simpa using c.symm
  rw[dif_pos j];have:=b.2 0 i dt;simpa[jv,List.getD,j]using this
 |o::p::f,b,c,d=>exact d (by simp at c;omega)
def nd(c:af am):ResultVar->Sem am
 | .tmp b=>pure (c.getD b Go.undef)
 | .cell d b=>do loadVar b (<-asAddr (c.getD d Go.undef))
def Bm(c:Func)(d:af am):results c d=(do let b<-c.results.mapM (nd d);pure (if h:b.size=1 then b[0]else .tuple b)):=by
 unfold results;congr 1
def Eb(iG:iP P cx)(E:St cx base w.heap μ h)(r:j7 w.heap μ mask e a.tmps):∀(g:List ResultVar) (k:List T),mD cx mask e h g=some k->
 ∃d:List am,fV w.heap μ k d/\(g.mapM (nd a.tmps)).run P w= .ok d w:=by
 intro g;induction g with
 |nil=>
  intro k b;have b:some []=some k:=b;simp only[ar]at b;subst b;exact⟨[],fV.nil,dt⟩
 |cons n g D=>
  intro k b;unfold mD at b;rw[jr]at b;replace b:=dD.1 b;obtain⟨j,c,b⟩:=b;replace b:=dD.1 b;obtain⟨s,C,b⟩:=b;simp only[ar]at b;subst b;obtain⟨d,x,A⟩:=D s C;have q:∀f,(nd a.tmps n).run P w= .ok f w->fg w.heap μ j f->∃d:List am,fV w.heap μ (j::s) d/\((n::g).mapM (nd a.tmps)).run P w= .ok d w:=by
   intro f y hr;refine⟨f::d,fV.cons hr x,?_⟩;rw[List.mapM_cons,Sem.run_bind,y,Result.andThen_ok,Sem.run_bind,A,Result.andThen_ok,Sem.run_pure]
  cases n with
  |tmp i=>
   have c:e.get mask i=some j:=c;exact q _ (by simp only[nd,Sem.run_pure]) (r i j c)
  |cell p i=>
   have c:(dM (e.get mask p) λl=>dM (cx.ty i) λo=>h.load o l)=some j:=c;replace c:=dD.1 c;obtain⟨l,z,c⟩:=c;replace c:=dD.1 c;obtain⟨o,B,c⟩:=c;obtain⟨F,f,t,u,v⟩:=BQ (iG.ty i o B) E (r p l z) c;exact q f (by simp only[nd,t,asAddr,Sem.run_bind,Sem.run_pure,Result.andThen_ok,u]) v
def CR(iG:iP P cx)(k:St cx base w.heap μ h)(j:j7 w.heap μ mask e a.tmps){b:Func}{d:List T}(g:mD cx mask e h b.results.toList=some d):
 ∃c,(results b a.tmps).run P w= .ok c w/\fg w.heap μ (jv d) c:=by
 obtain⟨cs,f,i⟩:=Eb (P:=P) iG k j _ _ g;refine⟨_,?_,za (cs:=cs.toArray) (by simpa using f)⟩;rw[Bm];have:b.results.mapM (nd a.tmps)=List.toArray<$>b.results.toList.mapM (nd a.tmps):=by
  rw[<-List.mapM_toArray]
 rw[this,Sem.run_bind,Sem.run_map,i];rfl
def CY:∀(i g:Nat) (n:List T) (q:fN),lV mask i g n=some q->∀o k,dH q o=some k->(∃d,o=g+d/\d<i/\(n[d]? =some k\/(n.length<=d/\k= .undef))):=by
 intro i;induction i with
 |zero=>
  intro g n q b o k f;have b:some fN.nil=some q:=b;simp only[ar]at b;subst b;simp[dH]at f
 |succ i v=>
  intro g n q b o k f;have b:(dM (gh (Nat.succ g)) λs=> @List.rec T (λ_=>aa fN)
   (@Bool.rec (λ_=>aa fN) (lV mask i s []) (dM (lV mask i s []) λj=>some (.cons g .undef j)) (jW mask g))
   (λa l _=>dM (lV mask i s l) λj=>some (.cons g a j)) n)=some q:=b
  simp only[iw,dR]at b;have t:∀{l:List T} {j:fN},lV mask i (g+1) l=some j->dH j o=some k->∃d,o=g+(d+1)/\d<i/\(l[d]? =some k\/(l.length<=d/\k= .undef)):=by
   intro l j ht hl;obtain⟨d,p,r,c⟩:=v (g+1) l j ht o k hl;exact⟨d,dq,r,c⟩
  cases n with
  |nil=>
   simp only at b;cases hl:jW mask g with
   |false=>
    rw[hl]at b;obtain⟨d,p,r,c⟩:=t b f;refine⟨d+1,p,dq,.inr ?_⟩;rcases c with c|c
    ·simp at c
    ·exact⟨dt,c.2⟩
   |true=>
    rw[hl]at b;replace b:=dD.1 b;obtain⟨j,ht,b⟩:=b;simp only[ar]at b;subst b;rw[mN]at f;split at f
    ·rename_i u;simp only[ar]at f;exact⟨0,dq,dq,.inr ⟨dt,f.symm⟩⟩
    ·obtain⟨d,p,r,c⟩:=t ht f;refine⟨d+1,p,dq,.inr ?_⟩;rcases c with c|c
     ·simp at c
     ·exact⟨dt,c.2⟩
  |cons x l=>
   simp only at b;replace b:=dD.1 b;obtain⟨j,ht,b⟩:=b;simp only[ar]at b;subst b;rw[mN]at f;split at f
   ·rename_i u;simp only[ar]at f;subst f;exact⟨0,dq,dq,.inl dt⟩
   ·obtain⟨d,p,r,c⟩:=t ht f;refine⟨d+1,p,dq,?_⟩;rcases c with c|c
    ·exact .inl (by simpa using c)
    ·exact .inr ⟨du,c.2⟩
def IQ{n:Nat}{d:List T}{i:fN}{l:af Obj}{c:af am}(k:fV l μ d c.toList)(o:lV mask n 0 d=some i):
 j7 l μ mask ⟨i,.nil⟩ (c++Array.replicate (n-c.size) Go.undef):=by
 intro b j g;have g: @Bool.rec (λ_=>aa T) (dH .nil b) (dH i b) (jW mask b)=some j:=g;cases hl:jW mask b with
 |false=>rw[hl]at g;simp[dH]at g
 |true=>
  rw[hl]at g;obtain⟨q,r,s,f⟩:=CY n 0 d i o b j g;have p:b=q:=dq;subst p;have t:d.length=c.size:=by simpa using k.1
  rcases f with f|⟨f,rfl⟩
  ·have u:b<d.length:=by
    rcases aD b d.length with h|h
    ·exact h
    ·rw[aK h]at f;simp at f
   have hr:=k.2 b j f;have:(c++Array.replicate (n-c.size) Go.undef).getD b Go.undef=c.toList.getD b Go.undef:=by
    rw[aV,Array.getElem?_append_left dq];simp[List.getD]
   rw[this];exact hr
  ·have:(c++Array.replicate (n-c.size) Go.undef).getD b Go.undef=Go.undef:=by
    rw[aV,Array.getElem?_append_right dq];rcases aD (b-c.size) (n-c.size)with h|h
    ·simp[h]
    ·rw[cQ (by simpa using h)];rfl
   rw[this];exact .undef
def Gs{m l:Nat}{k:af Oper->Bool}(q:m<=l):∀(b:Code),mg m k b=true->mg l k b=true:=by
 intro b;induction b with
 |region id r p=>
  intro h;simp only[mg,aB]at h|-;refine⟨?_,h.2⟩;have d:=h.1;unfold Rm at d|-;rw[cF]at d|-;intro j o;have:=d j o;cases n:j.dst with
  |none=>rfl
  |some s=>
   rw[n]at this;simp only[aG]at this|-;omega
 |seq a c g i=>intro h;simp only[mg,aB]at h|-;exact⟨g h.1,i h.2⟩
 |cond j a c g i=>intro h;simp only[mg,aB]at h|-;exact⟨g h.1,i h.2⟩
 |block id c f=>intro h;simp only[mg]at h|-;exact f h
 |loop c f=>intro h;simp only[mg]at h|-;exact f h
 |_=>intro _;rfl
def CI(P:ai)(cx:Ctx)(f:aj)(g:Prim):Prop:=
 ∀b h d h',Bw g b h=some (d,h')->∀base w μ (c:af am),St cx base w.heap μ h->fV w.heap μ b c.toList->yE P (pU cx base w μ h d h') ((callFunc f c).run P w)
def wE(b:Fun):Bool:= !(b.fn.name== "runtime.NumGoroutine")&&match b.fn.body with
 |none=>false
 |some c=>mg b.fn.ntmps om c
def nz{c:aj}{b:Func}{f:Code}(i:P.funcs[c]? =some b)(k:(b.name== "runtime.NumGoroutine")=false)(g:b.body=some f)(d:af am)(w:World):
 (callFunc c d).run P w= .ok (.enter c d) w:=by
 have j:¬b.name= "runtime.NumGoroutine" :=by simpa using k
 simp[callFunc,i,j,g]
def Jl(U:P.follows .mixedOrders=true)(iG:iP P cx)(z:mX P cx cf){r:aj}{b:Fun}(C:P.funcs[r]? =some b.fn)(g:wE b=true){B:Nat}{x:List T}{o:T}
 (c:rZ cx cf B b.fn b.mask b.kE x h=some (o,h')) (F:St cx base w.heap μ h) {f:af am} (R:fV w.heap μ x f.toList):
 yE P (pU cx base w μ h o h') ((callFunc r f).run P w):=by
 unfold wE at g;simp only[aB,bL]at g;obtain⟨V,g⟩:=g;unfold rZ at c;cases l:b.fn.body with
 |none=>rw[l]at g;simp at g
 |some y=>
  rw[l]at g c;simp only at g;obtain⟨d,t,k⟩:=h;simp only at c;replace c:=dD.1 c;obtain⟨aN,Z,c⟩:=c;replace c:=dD.1 c;obtain⟨⟨q,A,s⟩,S,c⟩:=c;simp only[kw]at c;have j:(q= .normal\/q= .ret)/\(dM (mD cx b.mask A s b.fn.results.toList) λI=>BR b.kE d t (jv I) s)=some (o,h'):=by
   cases q with
   |normal=>exact⟨.inl rfl,c⟩
   |exit i=>simp at c
   |ret=>exact⟨.inr rfl,c⟩
  obtain⟨al,j⟩:=j;replace j:=dD.1 j;obtain⟨I,ae,j⟩:=j;rw[nz C V l];show Calls P r f w _;refine calls_of_wp C l ?_;have G:St cx base w.heap μ ⟨d,d,k⟩:=F.JL d;have W:=IQ (mask:=b.mask) (n:=b.fn.ntmps) R Z;have J:sH cx base b.mask (f.size+(b.fn.ntmps-f.size)) w μ ⟨d,d,k⟩ ⟨aN,.nil⟩ ⟨d,d,k⟩ {tmps:=f++Array.replicate (b.fn.ntmps-f.size) Go.undef,defers:=[]} w:=
   ⟨μ,G,W,oU.refl _ _,xE.refl _ _,kJ.refl G.wf,dt,rfl⟩
  refine Jc (m:=f.size+(b.fn.ntmps-f.size)) (w0:=w) (μ0:=μ) (h0:=⟨d,d,k⟩) (base:=base) (mask:=b.mask) iG z (I8 U iG z) B y (Gs dq y g) _ _ q A s S _ _ _ J λv u K=> ?_;have E:v.defers=[]/\∃p,(results b.fn v.tmps).run P u= .ok p u/\pU cx base w μ ⟨d,t,k⟩ o h' p u:=by
   obtain⟨a7,D,an,ap,av,aA,a6,aE⟩:=K;obtain⟨p,X,Y⟩:=CR (P:=P) iG D an ae;obtain⟨⟨aX,L,M,N,O⟩,Q⟩:=GC (low0:=t) F D aA ap av Y j;exact⟨aE,p,X,⟨aX,L,M,N,O⟩,Q⟩
  rcases al with rfl|rfl
  ·exact E
  ·exact E
end
end
end Go.TI
