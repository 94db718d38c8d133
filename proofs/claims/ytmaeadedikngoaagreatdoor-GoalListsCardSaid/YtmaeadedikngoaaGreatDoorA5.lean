/- Texts TiDraw3 to TiCall. -/
import Derived.Test.YtmaeadedikngoaaGreatDoorA4
set_option linter.all false
namespace Go.TI
noncomputable section
structure Dr(P:ai)(cx:Ctx)(cf:iX)(base mask m:Nat)(ops:af Oper)(E:Nat->Env)(Hs:Nat->H)(ws:World)(nT:Mu):Prop where
 iZ:jd P cx
 ck:nH P cx cf
 dst:E2 m ops
 tr:Trace cx cf mask ops E Hs
 qq:St cx base ws.heap nT (Hs 0)
 Em:∀i j oi oj,ops[i]? =some oi->ops[j]? =some oj->i<j->(oi.apart ops oj=true/\(iB oi.op=true->iB oj.op=true->oM oi.op=true/\oM oj.op=true))\/jN ops i j=true
 back:∀j o,ops[j]? =some o->∀e∈o.after,Region.binds .any e=true->e.on<j
 ad9:∀k,k<=ops.size->∀s v,(E k).get mask s=some v->pP (Hs k).size v
 aaF:∀k,k<=ops.size->∀b x,(nT b≠none\/(Hs 0).size<=b)->(Hs k).get b=some x->∀v∈fx x.eZ,pP (Hs k).size v
 grow:∀k,k<ops.size->kW (Hs k) (Hs (k+1))
 wf:∀k,k<=ops.size->(Hs k).fy.length=(Hs k).size
structure Inv(cx:Ctx)(base mask m:Nat)(ops:af Oper)(E:Nat->Env)(Hs:Nat->H)(ws:World)(nT:Mu)(listed:af Bool)(a:Act)(w:World)(μ:Mu)(q:Nat->Nat):Prop where
 cl:Cl ops listed
 size:a.tmps.size=m
 MX:a.defers=[]
 IF:∀b,q b<=ops.size
 kT:∀k b,oY mask ops E k->b<(Hs k).size->ff (Hs k) (Hs (k+1)) b=false->(listed.getD k false=true↔k<q b)
 st:St cx base w.heap μ (PH Hs ops.size q)
 NM:∀s v,(E (sh ops listed s ops.size)).get mask s=some v->fD w.heap μ v (a.tmps.getD s Go.undef)
 SC:∀b,μ b≠none↔(nT b≠none\/((Hs 0).size<=b/\b<(Hs ops.size).size/\listed.getD (uu Hs b ops.size-1) false=true))
 ext:pI ws nT w μ
section
variable {P:ai}{cx:Ctx}{cf:iX}{base mask m:Nat}{ops:af Oper}{E:Nat->Env}{Hs:Nat->H}{ws w:World}{nT μ:Mu}{listed:af Bool}{a:Act}{q:Nat->Nat}
def Dr.mono(c:Dr P cx cf base mask m ops E Hs ws nT):∀b,b<ops.size->(Hs b).size<=(Hs (b+1)).size:=λb d=>(c.grow b d).size
def Dr.lt0(c:Dr P cx cf base mask m ops E Hs ws nT){b:Nat}(e:nT b≠none):b<(Hs 0).size:=by
 obtain⟨f,d⟩:=Option.ne_none_iff_exists'.1 e;exact c.qq.eJ d
def Dr.still(g:Dr P cx cf base mask m ops E Hs ws nT){b d:Nat}(i:b<ops.size)(h:d<(Hs b).size)(k:¬oY mask ops E b):(Hs (b+1)).get d=(Hs b).get d:=by
 have f:ops[b]? =some ops[b]:=by simp[i]
 rcases mQ (g.tr.step b _ f)with⟨_,_,c⟩|⟨l,s,n,_⟩
 ·rw[c]
 ·have e:iB ops[b].op=false:=by
   cases c:iB ops[b].op with
   |false=>rfl
   |true=>exact absurd ⟨_,f,c,l⟩ k
  rcases He (h2:=Hs b) e (λ_ _ _=>rfl) (H9 e n)with⟨c,_⟩|⟨r,p,_,_,_,c,_⟩
  ·rw[c]
  ·rw[c];exact H.mZ h p
def Dr.ver(f:Dr P cx cf base mask m ops E Hs ws nT){b c:Nat}(k:b<ops.size)(i:c<(Hs b).size)(d:ff (Hs b) (Hs (b+1)) c=true):(Hs (b+1)).get c=(Hs b).get c:=by
 obtain⟨h,e⟩:=H.get_some (f.wf b dB) i;obtain⟨n,g,l⟩:=(f.grow b k).ver c h e;rcases l with rfl|p
 ·rw[e,g]
 ·unfold ff at d;rw[e,g]at d;have d:Nat.beq h.ver n.ver=true:=d;have:=aD d;omega
def Dr.same(d:Dr P cx cf base mask m ops E Hs ws nT){b c:Nat}(g:b<ops.size)(e:c<(Hs b).size)(i:oY mask ops E b->ff (Hs b) (Hs (b+1)) c=false->False):(Hs (b+1)).get c=(Hs b).get c:=by
 by_cases f:oY mask ops E b
 ·cases h:ff (Hs b) (Hs (b+1)) c with
  |true=>exact d.ver g e h
  |false=>exact(i f h).elim
 ·exact d.still g e f
def Dr.xa(c:Dr P cx cf base mask m ops E Hs ws nT){b:Nat}(e:q b<=ops.size)(d:b<(Hs ops.size).size):(PH Hs ops.size q).get b=(Hs (max (q b) (uu Hs b ops.size))).get b:=
 Xn c.mono c.wf e d
def Inv.lt(f:Dr P cx cf base mask m ops E Hs ws nT)(c:Inv cx base mask m ops E Hs ws nT listed a w μ q){b:Nat}{d:Loc}(e:μ b=some d):b<(Hs ops.size).size:=c.st.eJ e
variable {j:Nat}{o:Oper}
structure LF(ops:af Oper)(listed:af Bool)(j:Nat)(o:Oper):Prop where
 op:ops[j]? =some o
 lt:j<ops.size
 not:listed.getD j false=false
 before:∀i,jN ops i j=true->listed.getD i false=true
 behind:∀k,jN ops j k=true->listed.getD k false=false
 abm:∀e∈o.after,Region.binds .any e=true->listed.getD e.on false=true
def H4{listed:af Bool}{c:Nat}(b:listed.getD c true=false):listed.getD c false=false:=by
 rcases aF c listed.size with h'|h'
 ·simp[h']at b|-;exact b
 ·simp[cV h']at b
def rdy(c:Cl ops listed)(n:j∈Region.ready .any ops listed):∃o,LF ops listed j o:=by
 obtain⟨e,o,d,f⟩:=mem_ready.1 n;have r:j<ops.size:=(Array.getElem?_eq_some_iff.1 d).1;refine⟨o,d,r,H4 e,λs l=>B6 c l d f,λb p=> ?_,f⟩;cases g:listed.getD b false with
 |false=>rfl
 |true=>
  have k:b<listed.size:=by
   rcases aF b listed.size with h|h
   ·exact h
   ·simp[cV h]at g
  have i:ops[b]? =some (ops[b]'(by rw[<-c.size];exact k)):=by
   have:b<ops.size:=by rw[<-c.size];exact k
   simp[this]
  have:=B6 c p i (c.closed b _ i g);rw[H4 e]at this;simp at this
def Cl.set(b:Cl ops listed)(k:LF ops listed j o):Cl ops (listed.setIfInBounds j true):=by
 refine⟨by simp[b.size],λh i g hl c e d=> ?_⟩;by_cases f:j=h
 ·subst f;have:i=o:=Option.some.inj (g.symm.trans k.op);subst this;exact getD_set_true (k.abm c e d)
 ·rw[getD_set_ne false f]at hl;exact getD_set_true (b.closed h i g hl c e d)
def vD(b:Cl ops listed)(c:LF ops listed j o):(listed.setIfInBounds j true).getD j false=true:=by
 have:j<listed.size:=by rw[b.size];exact c.lt
 simp[this]
def Inv.dO(r:Dr P cx cf base mask m ops E Hs ws nT)(O:Inv cx base mask m ops E Hs ws nT listed a w μ q)(f:LF ops listed j o){s:Nat}(D:s∈o.looksAt ops):
 (E (sh ops listed s ops.size)).get mask s=(E j).get mask s:=by
 have I:∀b k,ops[b]? =some k->k.dst=some s->(b<j->listed.getD b false=true)/\(j<b->listed.getD b false=false):=by
  intro b k i u;refine⟨λv=> ?_,λv=> ?_⟩
  ·rcases r.Em b j k o i f.op v with⟨t,_⟩|x
   ·exact absurd D ((Oper.apart_spec t).1 s u)
   ·exact f.before b x
  ·rcases r.Em j b o k f.op i v with⟨t,_⟩|x
   ·exact absurd D ((Oper.apart_spec t).2.2 s u)
   ·exact f.behind b x
 have S:sh ops listed s ops.size<=j:=by
  rcases yF (ops:=ops) (listed:=listed) (s:=s) ops.size with h|⟨b,R,K,l,z⟩
  ·omega
  ·have e:ops[b]? =some ops[b]:=by simp[K]
   rw[e]at z;have y:=I b _ e z;rcases cW b j with h|h|h
   ·omega
   ·subst h;rw[f.not]at l;simp at l
   ·rw[y.2 h]at l;simp at l
 have N:∀c,sh ops listed s ops.size+c<=j->(E (sh ops listed s ops.size+c)).get mask s=(E (sh ops listed s ops.size)).get mask s:=by
  intro c;induction c with
  |zero=>intro _;rfl
  |succ c M=>
   intro u;have i:sh ops listed s ops.size+c<ops.size:=by have:=f.lt;omega
   have e:ops[sh ops listed s ops.size+c]? =some ops[sh ops listed s ops.size+c]:=by simp[i]
   rw[<-M dB];have C:ops[sh ops listed s ops.size+c].dst≠some s:=by
    intro A;have y:=(I _ _ e A).1 dB;have:=Jz (n:=ops.size) i y (by rw[e];exact A);omega
   have F:∀p g,(E (sh ops listed s ops.size+c)).dst mask ops[sh ops listed s ops.size+c].dst p=some g->g.get mask s=(E (sh ops listed s ops.size+c)).get mask s:=by
    intro p g d;cases B:ops[sh ops listed s ops.size+c].dst with
    |none=>rw[B]at d;have d:some _=some g:=d;simp only[ar]at d;rw[d]
    |some G=>
     rw[B]at d C;have L:s≠G:=λJ=>C (by rw[J]);rw[Env.Bm (show Env.set mask _ G p=some g from d) s,ao L]
   rcases mQ (r.tr.step _ _ e)with⟨_,d,_⟩|⟨_,p,_,d⟩
   ·exact F _ _ d
   ·exact F _ _ d
 have:=N (j-sh ops listed s ops.size) dB;rw[show sh ops listed s ops.size+(j-sh ops listed s ops.size)=j by omega]at this;exact this.symm
def Inv.NW(d:Dr P cx cf base mask m ops E Hs ws nT)(c:Inv cx base mask m ops E Hs ws nT listed a w μ q)(f:LF ops listed j o):kt w.heap μ mask (BX mask (E j) (o.looksAt ops)) a.tmps:=by
 intro g h b;rw[yq]at b;split at b
 ·rename_i e;exact c.NM g h (by rw[c.dO d f e];exact b)
 ·simp at b
def Inv.BM(r:Dr P cx cf base mask m ops E Hs ws nT)(g:Inv cx base mask m ops E Hs ws nT listed a w μ q)(c:LF ops listed j o){l:af Obj}{p:Mu}(K:Ext w.heap μ l p){n:T}{t:am}
 (I:fD l p n t) (z:(E j).dst mask o.dst n=some (E (j+1))):∀s f,(E (sh ops (listed.setIfInBounds j true) s ops.size)).get mask s=some f->fD l p f ((a.put o.dst t).tmps.getD s Go.undef):=by
 intro s f e;by_cases d:o.dst=some s
 ·have k:sh ops (listed.setIfInBounds j true) s ops.size=j+1:=by
   have M:=Jz (ops:=ops) (s:=s) c.lt (vD g.cl c) (by rw[c.op];exact d);rcases yF (ops:=ops) (listed:=listed.setIfInBounds j true) (s:=s) ops.size with h|⟨b,L,A,i,u⟩
   ·omega
   ·rcases cW b j with h|h|h
    ·omega
    ·omega
    ·have x:ops[b]? =some ops[b]:=by simp[A]
     rw[x]at u;rw[getD_set_ne false dB]at i;rcases r.Em j b o _ c.op x h with⟨B,_⟩|G
     ·exact absurd u ((Oper.apart_spec B).2.1 s d)
     ·rw[c.behind b G]at i;simp at i
  rw[k]at e;rw[d]at z|-;rw[Env.Bm (show Env.set mask _ s n=some _ from z) s]at e;simp only[bg,ar]at e;subst e;have D:s<a.tmps.size:=by rw[g.size];exact r.dst j o s c.op d
  simpa[Act.put,aZ,D]using I
 ·have k:sh ops (listed.setIfInBounds j true) s ops.size=sh ops listed s ops.size:=by
   refine MB λb N v=> ?_;have:j≠b:=by rintro rfl;rw[c.op]at v;exact d v
   exact getD_set_ne false this
  rw[k]at e;have y:=(g.NM s f e).ext K;cases C:o.dst with
  |none=>exact y
  |some J=>
   have F:J≠s:=by rintro rfl;exact d C
   simpa[Act.put,aZ,Array.getElem?_setIfInBounds_ne F]using y
def Inv.looked(d:Dr P cx cf base mask m ops E Hs ws nT)(k:Inv cx base mask m ops E Hs ws nT listed a w μ q)(n:LF ops listed j o)(y:iB o.op=false)(J:kv ops mask (E j) o.guard=some true)
 {c:Nat} (B:gG cx mask (E j) (Hs j) o.op=some c) {f:Nat} (L:j<=f) (A:f<=ops.size) (x:c<(Hs f).size) (M:f=j\/f=j+1):
 (PH Hs ops.size q).get c=(Hs f).get c:=by
 have l:c<(Hs ops.size).size:=bG x (nc d.mono A (au _));rw[d.xa (k.IF _) l];have K:uu Hs c ops.size<=f:=(kV d.mono l A).1 x;have v:xv cx mask ops E Hs j c:=⟨o,n.op,y,J,B⟩;have z:¬oY mask ops E j:=by
  rintro⟨N,r,t,_⟩;rw[n.op]at r;simp only[ar]at r;subst r;rw[y]at t;simp at t
 rcases Nat.le_total (max (q c) (uu Hs c ops.size)) f with G|C
 ·refine(lZ d.mono G λb D F=> ?_).symm;have g:c<(Hs b).size:=(kV d.mono l dB).2 dB;by_cases e:oY mask ops E b
  ·have p:b<j:=by
    rcases cW b j with h|h|h
    ·exact h
    ·subst h;exact absurd e z
    ·omega
   cases i:ff (Hs b) (Hs (b+1)) c with
   |true=>exact d.ver dB g i
   |false=>
    rcases d.tr.behind j b c v e p with h|h
    ·rw[i]at h;simp at h
    ·have:=(k.kT b c e g i).1 (n.before b h);omega
  ·exact d.still dB g e
 ·refine lZ d.mono C λb D F=> ?_;have I:b<q c:=dB;have u:b<ops.size:=by have:=k.IF c;omega
  have g:c<(Hs b).size:=(kV d.mono l dB).2 dB;by_cases e:oY mask ops E b
  ·have p:j<b:=by
    rcases cW b j with h|h|h
    ·omega
    ·subst h;exact absurd e z
    ·exact h
   cases i:ff (Hs b) (Hs (b+1)) c with
   |true=>exact d.ver u g i
   |false=>
    rcases d.tr.ahead j b c v e p with h|h
    ·rw[i]at h;simp at h
    ·have s:=(k.kT b c e g i).2 I;rw[n.behind b h]at s;simp at s
  ·exact d.still u g e
def Inv.want(b:Dr P cx cf base mask m ops E Hs ws nT)(c:Inv cx base mask m ops E Hs ws nT listed a w μ q)(k:LF ops listed j o){d:Bool}(g:kv ops mask (E j) o.guard=some d):
 Region.wanted o (yielded ops a.tmps)=d:=
 BB (c.NW b k) (λh i l e f=>by rw[c.size];exact b.dst h i l e f) (by rw[IJ];exact g)
def Dr.made(c:Dr P cx cf base mask m ops E Hs ws nT)(i:j<ops.size){b:Nat}(f:b<(Hs ops.size).size):uu Hs b ops.size=j+1↔((Hs j).size<=b/\b<(Hs (j+1)).size):=by
 have d:=kV c.mono f (show j<=ops.size by omega);have e:=kV c.mono f (show j+1<=ops.size by omega);constructor
 ·intro h;refine⟨?_,e.2 dB⟩;rcases aF b (Hs j).size with k|k
  ·have:=d.1 k;omega
  ·exact k
 ·rintro⟨l,g⟩;have:=e.1 g;have:¬uu Hs b ops.size<=j:=λk=>by have:=d.2 k;omega
  omega
def Dr.cr0(c:Dr P cx cf base mask m ops E Hs ws nT){b:Nat}(d:b<(Hs ops.size).size)(e:(Hs 0).size<=b):0<uu Hs b ops.size:=by
 rcases Nat.eq_zero_or_pos (uu Hs b ops.size)with h|h
 ·have:=(kV c.mono d (aw _)).2 dB;omega
 ·exact h
def Dr.AL(c:Dr P cx cf base mask m ops E Hs ws nT)(f:j<ops.size){b:Nat}(d:b<(Hs ops.size).size)(e:(Hs 0).size<=b)(g:¬((Hs j).size<=b/\b<(Hs (j+1)).size)):
 (listed.setIfInBounds j true).getD (uu Hs b ops.size-1) false=listed.getD (uu Hs b ops.size-1) false:=by
 refine getD_set_ne false λh=>g ?_;have:=c.cr0 d e;exact(c.made f d).1 dB 
def Inv.F8(f:Dr P cx cf base mask m ops E Hs ws nT)(k:Inv cx base mask m ops E Hs ws nT listed a w μ q)(h:LF ops listed j o)(g:(Hs (j+1)).size=(Hs j).size){i:Mu}(l:∀b,i b≠none↔μ b≠none):
 ∀b,i b≠none↔(nT b≠none\/((Hs 0).size<=b/\b<(Hs ops.size).size/\(listed.setIfInBounds j true).getD (uu Hs b ops.size-1) false=true)):=by
 intro b;rw[l,k.SC];refine or_congr Iff.rfl ⟨λ⟨c,d,e⟩=>⟨c,d,?_⟩,λ⟨c,d,e⟩=>⟨c,d,?_⟩⟩
 ·rw[f.AL h.lt d c (by rw[g];omega)];exact e
 ·rw[f.AL h.lt d c (by rw[g];omega)]at e;exact e
def Cf(e:LF ops listed j o)(h:iB o.op=false\/kv ops mask (E j) o.guard=some false):¬oY mask ops E j:=by
 rintro⟨f,b,c,d⟩;rw[e.op]at b;simp only[ar]at b;subst b;rcases h with h|h
 ·rw[h]at c;simp at c
 ·rw[h]at d;simp at d
def Inv.CT(e:Inv cx base mask m ops E Hs ws nT listed a w μ q)(g:¬oY mask ops E j):
 ∀b c,oY mask ops E b->c<(Hs b).size->ff (Hs b) (Hs (b+1)) c=false->((listed.setIfInBounds j true).getD b false=true↔b<q c):=by
 intro b c d f h;have:j≠b:=by rintro rfl;exact g d
 rw[getD_set_ne false this];exact e.kT b c d f h
variable {Q:Exit->Act->World->Prop}
def Inv.skip(d:Dr P cx cf base mask m ops E Hs ws nT)(b:Inv cx base mask m ops E Hs ws nT listed a w μ q)(c:LF ops listed j o)(g:kv ops mask (E j) o.guard=some false)
 (f:(E j).dst mask o.dst .undef=some (E (j+1))) (e:Hs (j+1)=Hs j):Inv cx base mask m ops E Hs ws nT (listed.setIfInBounds j true) (a.put o.dst Go.undef) w μ q:=
 ⟨b.cl.set c,by rw[Act.pW];exact b.size,by rw[Act.pX];exact b.MX,b.IF,b.CT (Cf c (.inr g)),b.st,
   b.BM d c (Ext.refl _ _) .undef f,b.F8 d c (by rw[e]) λ_=>Iff.rfl,b.ext⟩
def Inv.quiet(r:Dr P cx cf base mask m ops E Hs ws nT)(e:Inv cx base mask m ops E Hs ws nT listed a w μ q)(p:LF ops listed j o)(ca:kv ops mask (E j) o.guard=some true)(V:iB o.op=false){v:T}
 (bp:Ec cx cf mask (E j) (Hs j) o.op v (Hs (j+1))) (b8:(E j).dst mask o.dst v=some (E (j+1))):
 ze P (λY R=>∃s,Inv cx base mask m ops E Hs ws nT (listed.setIfInBounds j true) (a.put o.dst Y) R s q) ((execOp a.eval o).run P w):=by
 have b6:=Cf (mask:=mask) (E:=E) p (.inl V);have b7:=H9 V bp;have ap:∀C∈o.op.operands,fR cx mask (E j) C=fR cx mask (BX mask (E j) (o.looksAt ops)) C:=λC bp=>zJ bp;rw[zK ap]at b7;have dd:∀b,gG cx mask (BX mask (E j) (o.looksAt ops)) (Hs j) o.op=some b->b<(Hs j).size->(PH Hs ops.size q).get b=(Hs j).get b:=by
  intro b c aX;rw[<-vQ ap]at c;exact e.looked r p V ca c (au _) (bD p.lt) aX (.inl rfl)
 rcases He V dd b7 with⟨Z,bk⟩|⟨f,C,F,c,ds,Z,bk⟩
 ·
  refine((yx r.iZ e.st (e.NW r p) bk).ZT).mono λY R an=> ?_;obtain⟨s,A,t,x,O⟩:=an;refine⟨s,e.cl.set p,by rw[Act.pW];exact e.size,by rw[Act.pX];exact e.MX,e.IF,e.CT b6,t,e.BM r p x.ext A b8,?_,e.ext.trans x⟩;refine e.F8 r p (by rw[Z]) λb=>⟨λc=> ?_,λc=> ?_⟩
  ·rcases O.2.1 b c with h|h
   ·exact h
   ·omega
  ·obtain⟨d,L⟩:=Option.ne_none_iff_exists'.1 c;obtain⟨M,U,_⟩:=x.ext.mu b d L;rw[U];simp
 ·
  subst ds;have al:(PH Hs ops.size q).size=(Hs ops.size).size:=rfl;have b9:(Hs (j+1)).size=(Hs j).size+1:=by rw[Z];rfl
  have bN:(Hs j).size<(Hs ops.size).size:=by
   have:=nc r.mono (show j+1<=ops.size from p.lt) (au _);omega
  have bC:(Hs 0).size<=(Hs j).size:=nc r.mono (aw _) (bD p.lt);have bS:uu Hs (Hs j).size ops.size=j+1:=(r.made p.lt bN).2 ⟨au _,dB⟩;have ec:μ (Hs j).size=none:=by
   cases a7:μ (Hs j).size with
   |none=>rfl
   |some d=>
    exfalso;rcases(e.SC (Hs j).size).1 (by rw[a7];simp)with h|⟨_,_,h⟩
    ·have:=r.lt0 h;omega
    ·rw[bS]at h;simp only[Nat.add_sub_cancel]at h;rw[p.not]at h;simp at h
  have bT:(Hs (j+1)).get (Hs j).size=some C:=by rw[Z];exact H.tq (r.wf j (bD p.lt)) C
  have dk:(PH Hs ops.size q).get (Hs j).size=some C:=by
   rw[<-vQ ap]at c;rw[e.looked r p V ca c (show j<=j+1 by omega) p.lt dB (.inr rfl)];exact bT
  refine((yx r.iZ e.st (e.NW r p) bk).ZT).mono λY R an=> ?_;obtain⟨s,A,t,x,O⟩:=an;rw[al]at A O;have c6:((PH Hs ops.size q).cons C).size=(Hs ops.size).size+1:=rfl;rw[c6]at O;have cb:s (Hs ops.size).size≠none:=O.2.2 _ (au _) dB;have a6:∀b d,μ b=some d->b<(Hs ops.size).size:=λb d c=>e.st.eJ c;have av:∀b,b≠(Hs ops.size).size->(s b≠none↔μ b≠none):=by
   intro b et;constructor
   ·intro c;rcases O.2.1 b c with h|h
    ·exact h
    ·omega
   ·intro c;obtain⟨d,L⟩:=Option.ne_none_iff_exists'.1 c;obtain⟨M,U,_⟩:=x.ext.mu b d L;rw[U];simp
  have eb:s (Hs j).size=none:=by
   cases a7:s (Hs j).size with
   |none=>rfl
   |some d=>exact absurd ec ((av _ dB).1 (by rw[a7];simp))
  obtain⟨eo,er⟩:=Option.ne_none_iff_exists'.1 cb
  let y:Mu:=⟨λb=>if b=(Hs j).size then s (Hs ops.size).size else if b=(Hs ops.size).size then none else s b,s.pi⟩
  have B:y (Hs j).size=s (Hs ops.size).size:=by simp[y]
  have N:y (Hs ops.size).size=none:=by
   have:(Hs ops.size).size≠(Hs j).size:=dB;simp[y,this]
  have I:∀b,b≠(Hs j).size->b≠(Hs ops.size).size->y b=s b:=λb i k=>by simp[y,i,k]
  have aN:∀G,nz y G->nz s G:=by
   rintro G (⟨b,d,c,hl⟩|hr)
   ·by_cases i:b=(Hs j).size
    ·subst i;rw[B]at c;exact .inl ⟨_,d,c,hl⟩
    ·by_cases k:b=(Hs ops.size).size
     ·subst k;rw[N]at c;simp at c
     ·rw[I b i k]at c;exact .inl ⟨b,d,c,hl⟩
   ·exact .inr hr
  have a8:∀b d,b<(Hs ops.size).size->s b=some d->y b=some d:=by
   intro b d c L;have i:b≠(Hs j).size:=by rintro rfl;rw[eb]at L;simp at L
   rw[I b i dB];exact L
  have aE:Ext w.heap μ R.heap y:=by
   refine⟨x.ext.size,λG c9 de=> ?_,λb d c=> ?_,x.ext.pi,x.ext.kept⟩
   ·obtain⟨ef,eh⟩:=x.ext.nJ G c9 de;exact⟨ef,λh=>eh (aN G h)⟩
   ·obtain⟨M,U,di⟩:=x.ext.mu b d c;exact⟨M,a8 b M (a6 b d c) U,di⟩
  have dm:fD R.heap y (f (Hs j).size) Y:=by
   rcases F with F|⟨l,F⟩|F|F
   ·rw[F]at A|-;cases A with|ptr _ _ _ _ d S c aA cX=>exact .ptr _ _ _ _ d S (by rw[B];exact c) aA cX
   ·rw[F]at A|-;cases A with|arr _ _ _ _ _ d S cp c aA hl h=>exact .arr _ _ _ _ _ d S cp (by rw[B];exact c) aA hl h
   ·rw[F]at A|-;cases A with|iter _ d S c h=>exact .iter _ d S (by rw[B];exact c) h
   ·rw[F]at A|-;cases A with|map _ d G c h=>exact .map _ d G (by rw[B];exact c) h
  have dn:St cx base R.heap y (PH Hs ops.size q):=by
   refine⟨E1 _ _ _,t.fit,λb d c=> ?_,λb ce d M c c1 hl=> ?_,λb d c=> ?_,λb d c=> ?_,t.qF,λg cy c7=> ?_⟩
   ·by_cases i:b=(Hs j).size
    ·subst i;rw[B]at c;obtain⟨X,W,bi⟩:=t.box _ d c;have dv:X=C:=by
      have:=H.tq (E1 Hs ops.size q) C;rw[al,W]at this;simpa using this
     subst dv;refine⟨X,dk,bi.conv (n:=(Hs ops.size).size) (λu bn=> ?_) a8 aN⟩;exact(r.aaF (j+1) p.lt _ X (.inr bC) bT u bn).mono dB
    ·by_cases k:b=(Hs ops.size).size
     ·subst k;rw[N]at c;simp at c
     ·rw[I b i k]at c;obtain⟨X,W,bi⟩:=t.box b d c;have c4:μ b≠none:=(av b k).1 (by rw[c];simp);obtain⟨bu,bH⟩:=Option.ne_none_iff_exists'.1 c4;have aX:=a6 b bu bH;rw[H.mZ (by rw[al];exact aX)]at W;refine⟨X,W,bi.conv (n:=(Hs ops.size).size) (λu bn=> ?_) a8 aN⟩;obtain⟨z,bs,ea⟩:=e.st.box b bu bH;rw[W]at bs;simp only[ar]at bs;subst bs;exact ea.low a6 u bn
   ·have bz:∀b d,y b=some d->(b=(Hs j).size/\s (Hs ops.size).size=some d)\/(b≠(Hs j).size/\b≠(Hs ops.size).size/\s b=some d):=by
     intro b d c;by_cases i:b=(Hs j).size
     ·subst i;rw[B]at c;exact .inl ⟨rfl,c⟩
     ·by_cases k:b=(Hs ops.size).size
      ·subst k;rw[N]at c;simp at c
      ·rw[I b i k]at c;exact .inr ⟨i,k,c⟩
    rcases bz b d c with⟨J,D⟩|⟨J,D,K⟩<;>rcases bz ce M c1 with⟨cL,ae⟩|⟨cL,ae,bB⟩
    ·omega
    ·exact absurd (t.inj _ _ _ _ D bB hl).symm ae
    ·exact absurd (t.inj _ _ _ _ K ae hl) D
    ·exact t.inj _ _ _ _ K bB hl
   ·by_cases i:b=(Hs j).size
    ·subst i;rw[B]at c;exact t.low _ _ c
    ·by_cases k:b=(Hs ops.size).size
     ·subst k;rw[N]at c;simp at c
     ·rw[I b i k]at c;exact t.low _ _ c
   ·by_cases i:b=(Hs j).size
    ·subst i;rw[B]at c;exact t.apart _ _ c
    ·by_cases k:b=(Hs ops.size).size
     ·subst k;rw[N]at c;simp at c
     ·rw[I b i k]at c;exact t.apart _ _ c
   ·exact(e.st.yM g cy c7).ext aE
  refine⟨y,e.cl.set p,by rw[Act.pW];exact e.size,by rw[Act.pX];exact e.MX,e.IF,e.CT b6,dn,e.BM r p aE dm b8,λb=> ?_,
   e.ext.trans ⟨aE,x.os,x.tape,x.output⟩⟩
  by_cases i:b=(Hs j).size
  ·subst i;refine⟨λ_=> .inr ⟨bC,bN,?_⟩,λ_=>by rw[B];exact cb⟩;rw[bS];exact vD e.cl p
  ·by_cases k:b=(Hs ops.size).size
   ·subst k;refine⟨λh=>absurd N h,λh=> ?_⟩;rcases h with h|⟨_,h,_⟩
    ·have:=r.lt0 h;omega
    ·omega
   ·rw[I b i k,av b k,e.SC];refine or_congr Iff.rfl ⟨λ⟨J,D,K⟩=>⟨J,D,?_⟩,λ⟨J,D,K⟩=>⟨J,D,?_⟩⟩
    ·rw[r.AL p.lt D J (by rw[b9];omega)];exact K
    ·rw[r.AL p.lt D J (by rw[b9];omega)]at K;exact K
def Inv.aea(k:Dr P cx cf base mask m ops E Hs ws nT)(f:Inv cx base mask m ops E Hs ws nT listed a w μ q)(G:LF ops listed j o)(di:kv ops mask (E j) o.guard=some true)(cp:iB o.op=true)
 (b7:∀i W,ops[i]? =some W->iB W.op=true->(i<j->jN ops i j=true)/\(j<i->jN ops j i=true)) {v:T}
 (C:Ec cx cf mask (E j) (Hs j) o.op v (Hs (j+1))) (c7:(E j).dst mask o.dst v=some (E (j+1))):
 ze P (λc al=>∃I,Inv cx base mask m ops E Hs ws nT (listed.setIfInBounds j true) (a.put o.dst c) al I (λ_=>j+1)) ((execOp a.eval o).run P w):=by
 have ea:oY mask ops E j:=⟨o,G.op,cp,di⟩;have bH:∀i,oY mask ops E i->i<j->listed.getD i false=true:=by
  rintro i ⟨W,L,B,_⟩ bz;exact G.before i ((b7 i W L B).1 bz)
 have bi:∀i,oY mask ops E i->j<i->listed.getD i false=false:=by
  rintro i ⟨W,L,B,_⟩ bz;exact G.behind i ((b7 i W L B).2 bz)
 have r:=G.lt;have eb:(Hs j).size<=(Hs (j+1)).size:=k.mono j r;have ec:(Hs (j+1)).size<=(Hs ops.size).size:=nc k.mono (show j+1<=ops.size from r) (au _);have ds:(Hs 0).size<=(Hs j).size:=nc k.mono (aw _) (bD r);have cb:∀b,b<(Hs j).size->(PH Hs ops.size q).get b=(Hs j).get b:=by
  intro b e;have t:b<(Hs ops.size).size:=dB;rw[k.xa (f.IF _) t];have bN:uu Hs b ops.size<=j:=(kV k.mono t (bD r)).1 e;rcases Nat.le_total (max (q b) (uu Hs b ops.size)) j with cX|cL
  ·refine(lZ k.mono cX λi bp bs=> ?_).symm;have R:b<(Hs i).size:=(kV k.mono t dB).2 dB;refine k.same dB R λB Z=> ?_;have:=(f.kT i b B R Z).1 (bH i B bs);omega
  ·refine lZ k.mono cL λi bp bs=> ?_;have c6:=f.IF b;have R:b<(Hs i).size:=(kV k.mono t dB).2 dB;refine k.same dB R λB Z=> ?_;have hl:=(f.kT i b B R Z).2 dB;rcases Nat.eq_or_lt_of_le bp with h|h
   ·subst h;rw[G.not]at hl;simp at hl
   ·rw[bi i B h]at hl;simp at hl
 have cy:∀b d,μ b=some d->b<(Hs j).size\/(Hs (j+1)).size<=b:=by
  intro b d e;rcases aF b (Hs j).size with h|h
  ·exact .inl h
  ·right;rcases aF b (Hs (j+1)).size with l|l
   ·exfalso;have t:b<(Hs ops.size).size:=dB;rcases(f.SC b).1 (by rw[e];simp)with g|⟨_,_,g⟩
    ·have:=k.lt0 g;omega
    ·rw[(k.made r t).2 ⟨h,l⟩]at g;simp only[Nat.add_sub_cancel]at g;rw[G.not]at g;simp at g
   ·exact l
 have ce:∀b,μ b≠none->nT b≠none\/(Hs 0).size<=b:=λb e=>by
  rcases(f.SC b).1 e with g|⟨g,_⟩
  ·exact .inl g
  ·exact .inr g
 let N:Mu:=⟨λb=>if b<(Hs j).size then μ b else none,λp=>μ.pi p\/∃b d,(Hs j).size<=b/\μ b=some d/\d.iR=p⟩
 have aX:∀b,b<(Hs j).size->N b=μ b:=λb e=>by simp[N,e]
 have O:∀b d,N b=some d->b<(Hs j).size/\μ b=some d:=by
  intro b d e;by_cases h:b<(Hs j).size
  ·rw[aX b h]at e;exact⟨h,e⟩
  ·simp[N,h]at e
 have an:∀p,nz N p->nz μ p:=by
  rintro p (⟨b,d,e,hl⟩|hr|⟨b,d,e,D,hl⟩)
  ·exact .inl ⟨b,d,(O b d e).2,hl⟩
  ·exact .inr hr
  ·exact .inl ⟨b,d,D,hl⟩
 have ap:∀b d,b<(Hs j).size->μ b=some d->N b=some d:=λb d e D=>by rw[aX b e];exact D
 have dn:St cx base w.heap N (Hs j):=by
  refine⟨k.wf j (bD r),f.st.fit,λb d e=> ?_,λb K d y e aE hl=> ?_,λb d e=> ?_,λb d e=> ?_,λp hr=> ?_,λg a6 bk=> ?_⟩
  ·obtain⟨x,l⟩:=O b d e;obtain⟨V,C,L⟩:=f.st.box b d l;rw[cb b x]at C;exact⟨V,C,L.conv (k.aaF j (bD r) b V (ce b (by rw[l];simp)) C) ap an⟩
  ·exact f.st.inj b K d y (O b d e).2 (O K y aE).2 hl
  ·exact f.st.low b d (O b d e).2
  ·rintro(hr|⟨K,y,aE,Y,hl⟩)
   ·exact f.st.apart b d (O b d e).2 hr
   ·have:=f.st.inj K b y d Y (O b d e).2 hl;have:=(O b d e).1;omega
  ·rcases hr with hr|⟨b,d,_,D,hl⟩
   ·exact f.st.qF p hr
   ·rw[<-hl];exact f.st.lt D
  ·have bS:=f.st.yM g a6 bk;refine bS.conv (n:=0) ?_ (λb d e=>by omega) an;obtain⟨_,_,_,_,_,_,_,_,_,c9,_⟩:=bS.lO;exact .jB _ λu U=>(c9 u U).2.low 0
 have dm:kt w.heap N mask (BX mask (E j) (o.looksAt ops)) a.tmps:=by
  intro s u U;refine(f.NW k G s u U).conv (n:=(Hs j).size) ?_ ap an
  rw[yq]at U;split at U
  ·exact k.ad9 j (bD r) s u U
  ·simp at U
 have dk:=C.congr (e':=BX mask (E j) (o.looksAt ops)) λV C=>zJ C;refine(CQ k.iZ k.ck dn dm dk).mono λc al ca=> ?_;obtain⟨⟨I,b8,S,F,b9⟩,_⟩:=ca
 let J:Mu:=⟨λb=>if b<(Hs (j+1)).size then I b else μ b,μ.pi⟩
 have av:∀b,b<(Hs (j+1)).size->J b=I b:=λb e=>by simp[J,e]
 have aA:∀b,(Hs (j+1)).size<=b->J b=μ b:=λb e=>by
  have:¬b<(Hs (j+1)).size:=dB;simp[J,this]
 have bB:I.pi=N.pi:=F.ext.pi;have bu:∀b d,(Hs (j+1)).size<=b->μ b=some d->I.pi d.iR:=by
  intro b d e D;rw[bB];exact .inr ⟨b,d,dB,D,rfl⟩
 have a7:∀p,nz J p->nz I p:=by
  rintro p (⟨b,d,e,hl⟩|hr)
  ·by_cases h:b<(Hs (j+1)).size
   ·rw[av b h]at e;exact .inl ⟨b,d,e,hl⟩
   ·rw[aA b dB]at e;right;rw[<-hl];exact bu b d dB e
  ·right;rw[bB];exact .inl hr
 have b6:∀b d,I b=some d->b<(Hs (j+1)).size:=λb d e=>S.eJ e;have a8:∀b d,b<(Hs (j+1)).size->I b=some d->J b=some d:=λb d e D=>by rw[av b e];exact D
 have aN:Ext w.heap μ al.heap J:=by
  refine⟨F.ext.size,λp bn c1=> ?_,λb d e=> ?_,rfl,λp bn hr=>F.ext.kept p bn (.inl hr)⟩
  ·obtain⟨z,A⟩:=F.ext.nJ p bn λh=>c1 (an p h);exact⟨z,λh=>A (a7 p h)⟩
  ·rcases cy b d e with h|h
   ·obtain⟨y,Y,c4⟩:=F.ext.mu b d (ap b d h e);exact⟨y,a8 b y dB Y,c4⟩
   ·exact⟨d,by rw[aA b h];exact e,.inl rfl⟩
 have dd:St cx base al.heap J (PH Hs ops.size (λ_=>j+1)):=by
  have ae:∀b d,J b=some d->(b<(Hs (j+1)).size/\I b=some d)\/((Hs (j+1)).size<=b/\μ b=some d):=by
   intro b d e;by_cases h:b<(Hs (j+1)).size
   ·rw[av b h]at e;exact .inl ⟨h,e⟩
   ·rw[aA b dB]at e;exact .inr ⟨dB,e⟩
  refine⟨E1 _ _ _,S.fit,λb d e=> ?_,λb K d y e aE hl=> ?_,λb d e=> ?_,λb d e hr=> ?_,λp hr=> ?_,λg a6 bk=>(f.st.yM g a6 bk).ext aN⟩
  ·rcases ae b d e with⟨x,l⟩|⟨x,l⟩
   ·obtain⟨V,C,L⟩:=S.box b d l;have t:b<(Hs ops.size).size:=dB;have bN:uu Hs b ops.size<=j+1:=(kV k.mono t (show j+1<=ops.size from r)).1 x;refine⟨V,?_,L.conv (L.low b6) a8 a7⟩;rw[k.xa (q:=λ_=>j+1) (show j+1<=ops.size from r) t,show max (j+1) (uu Hs b ops.size)=j+1 by omega];exact C
   ·obtain⟨V,C,L⟩:=f.st.box b d l;have t:b<(Hs ops.size).size:=f.st.eJ l;have bN:¬uu Hs b ops.size<=j+1:=λh=>by
     have:=(kV k.mono t (show j+1<=ops.size from r)).2 h;omega
    refine⟨V,?_,L.ext aN ?_⟩
    ·rw[k.xa (f.IF _) t]at C;rw[k.xa (q:=λ_=>j+1) (show j+1<=ops.size from r) t,show max (j+1) (uu Hs b ops.size)=uu Hs b ops.size by omega];rw[<-C];refine(lZ k.mono dB λi bp bs=> ?_).symm;have c6:=f.IF b;have dv:=Gg Hs b ops.size;have R:b<(Hs i).size:=(kV k.mono t dB).2 dB;refine k.same dB R λB Z=> ?_;have hl:=(f.kT i b B R Z).2 dB;rw[bi i B dB]at hl;simp at hl
    ·exact F.ext.kept d.iR (f.st.lt l) (.inr ⟨b,d,dB,l,rfl⟩)
  ·rcases ae b d e with⟨x,l⟩|⟨x,l⟩<;>rcases ae K y aE with⟨bC,X⟩|⟨bC,X⟩
   ·exact S.inj b K d y l X hl
   ·exact absurd (by rw[hl];exact bu K y bC X) (S.apart b d l)
   ·exact absurd (by rw[<-hl];exact bu b d x l) (S.apart K y X)
   ·exact f.st.inj b K d y l X hl
  ·rcases ae b d e with⟨x,l⟩|⟨x,l⟩
   ·exact S.low b d l
   ·exact f.st.low b d l
  ·rcases ae b d e with⟨x,l⟩|⟨x,l⟩
   ·exact S.apart b d l (by rw[bB];exact .inl hr)
   ·exact f.st.apart b d l hr
  ·exact bG (f.st.qF p hr) F.ext.size
 have de:fD al.heap J v c:=b8.conv (b8.low b6) a8 a7;refine⟨J,f.cl.set G,by rw[Act.pW];exact f.size,by rw[Act.pX];exact f.MX,λ_=>r,λi b bT _ _=> ?_,dd,f.BM k G aN de c7,λb=> ?_,
  f.ext.trans ⟨aN,F.os,F.tape,F.output⟩⟩
 ·rcases cW i j with h|h|h
  ·rw[getD_set_ne false dB,bH i bT h];simp;omega
  ·subst h;rw[vD f.cl G];simp
  ·rw[getD_set_ne false dB,bi i bT h];simp;omega
 ·by_cases x:b<(Hs (j+1)).size
  ·rw[av b x];have t:b<(Hs ops.size).size:=dB;by_cases l:b<(Hs j).size
   ·have:I b≠none↔μ b≠none:=by
     constructor
     ·intro e;rcases b9.2.1 b e with g|g
      ·rwa[aX b l]at g
      ·omega
     ·intro e;obtain⟨d,D⟩:=Option.ne_none_iff_exists'.1 e;obtain⟨y,Y,_⟩:=F.ext.mu b d (ap b d l D);rw[Y];simp
    rw[this,f.SC];refine or_congr Iff.rfl ⟨λ⟨z,A,M⟩=>⟨z,A,?_⟩,λ⟨z,A,M⟩=>⟨z,A,?_⟩⟩
    ·rw[k.AL r A z dB];exact M
    ·rw[k.AL r A z dB]at M;exact M
   ·refine⟨λ_=> .inr ⟨dB,t,?_⟩,λ_=>b9.2.2 b dB x⟩;rw[(k.made r t).2 ⟨dB,x⟩];exact vD f.cl G
  ·rw[aA b dB,f.SC];refine or_congr Iff.rfl ⟨λ⟨z,A,M⟩=>⟨z,A,?_⟩,λ⟨z,A,M⟩=>⟨z,A,?_⟩⟩
   ·rw[k.AL r A z dB];exact M
   ·rw[k.AL r A z dB]at M;exact M
def NG{e n f:H}{C:Ty}{c z p B:Nat}{r:T}(b:e.store C (.ptr c z p B) r=some n)(Y:e.fy.length=e.size)(Z:f.fy.length=f.size)(G:f.get c=e.get c):
 n.size=e.size/\(∀h,h≠c->n.get h=e.get h)/\ff e n c=false/\c<e.size/\∃d,f.store C (.ptr c z p B) r=some d/\d.size=f.size/\d.fy.length=d.size/\d.get c=n.get c/\∀h,h≠c->d.get h=f.get h:=by
 have b:gh (Nat.beq (kR r.cells) C.size) (dV (e.get c) λF=> @iY.rec (λ_=>aa H) (λu i g exact t l=>
  gh (Nat.beq i z) (@Bool.rec (λ_=>aa H) (dV (md l p) λx=>dV (ml x B r.cells) λy=>dV (kJ l p y) λs=>
   dV (hU (Nat.succ g)) λk=>e.put c ⟨u,i,k,exact,false,s⟩) none t)) F)=some n:=b
 obtain⟨I,b⟩:=dT.1 b;replace b:=dL.1 b;obtain⟨⟨u,i,g,N,t,l⟩,v,b⟩:=b;obtain⟨J,b⟩:=dT.1 b;cases t with
 |true=>simp at b
 |false=>
  replace b:=dL.1 b;obtain⟨x,K,b⟩:=b;replace b:=dL.1 b;obtain⟨y,L,b⟩:=b;replace b:=dL.1 b;obtain⟨s,M,b⟩:=b;replace b:=dL.1 b;obtain⟨k,D,b⟩:=b;have X:k=g+1:=by rw[iE]at D;simpa using D.symm
  obtain⟨p1,p2,p3,p4⟩:=Bg b Y;have V:c<f.size:=H.eJ (G.trans v);have A:∃d,f.put c ⟨u,i,k,N,false,s⟩=some d:=⟨_,H.vK.2 ⟨V,dB,rfl⟩⟩;obtain⟨d,A⟩:=A;obtain⟨O,R,S,U⟩:=Bg A Z;refine⟨p1,p4,?_,H.eJ v,d,?_,O,R,by rw[S,p3],U⟩
  ·unfold ff;rw[v,p3];show Nat.beq g k=false;rw[X];cases W:Nat.beq g (g+1)with
   |false=>rfl
   |true=>have:=aD W;omega
  ·show gh (Nat.beq (kR r.cells) C.size) (dV (f.get c) λF=> @iY.rec (λ_=>aa H) (λu i g exact t l=>
    gh (Nat.beq i z) (@Bool.rec (λ_=>aa H) (dV (md l p) λx=>dV (ml x B r.cells) λy=>dV (kJ l p y) λs=>
     dV (hU (Nat.succ g)) λk=>f.put c ⟨u,i,k,exact,false,s⟩) none t)) F)=some d
   rw[G,v];simp only[I,J,K,L,M,D,ir,dY,A]
def Dr.NH(p:Dr P cx cf base mask m ops E Hs ws nT){c:Nat}{i:Oper}(l:ops[c]? =some i)(D:oM i.op=true)(R:oY mask ops E c):
 ∃e,UR cx mask ops E c e/\e<(Hs c).size/\(Hs (c+1)).size=(Hs c).size/\(∀f,f≠e->(Hs (c+1)).get f=(Hs c).get f)/\ff (Hs c) (Hs (c+1)) e=false/\
  ∀d:H,d.fy.length=d.size->d.get e=(Hs c).get e->∃g,jn i.op cx mask (E c) d=some (.val .undef g)/\g.size=d.size/\g.fy.length=g.size/\g.get e=(Hs (c+1)).get e/\∀f,f≠e->g.get f=d.get f:=by
 obtain⟨al,s,_,F⟩:=R;rw[l]at s;simp only[ar]at s;subst s;have C:c<ops.size:=(Array.getElem?_eq_some_iff.1 l).1;rcases mQ (p.tr.step c _ l)with⟨G,_⟩|⟨_,h,b,_⟩
 ·rw[F]at G;simp at G
 ·cases t:i.op with
  |store v x y=>
   rw[t]at b;rcases b with b|⟨M,I,b,_⟩
   ·have b:(dV (cx.ty v) λn=>dV (fR cx mask (E c) x) λa=>dV (fR cx mask (E c) y) λh=>gh h.im (dV ((Hs c).store n a h) λk=>some (lH.val .undef k)))=some (.val h (Hs (c+1))):=b;replace b:=dL.1 b;obtain⟨n,J,b⟩:=b;replace b:=dL.1 b;obtain⟨T,z,b⟩:=b;replace b:=dL.1 b;obtain⟨an,K,b⟩:=b;obtain⟨L,b⟩:=dT.1 b;replace b:=dL.1 b;obtain⟨k,A,b⟩:=b;simp only[ar,lH.val.injEq]at b;obtain⟨rfl,rfl⟩:=b;cases T with
    |ptr e Y Z ae=>
     have B:∀d:H,d.fy.length=d.size->d.get e=(Hs c).get e->_:=λd u r=>NG A (p.wf c (bD C)) u r;obtain⟨U,V,W,X,_⟩:=B (Hs c) (p.wf c (bD C)) rfl;refine⟨e,⟨i,v,x,y,l,t,F,by rw[z];rfl⟩,X,U,V,W,λd u r=> ?_⟩;obtain⟨_,_,_,_,g,N,O⟩:=B d u r;refine⟨g,?_,O⟩;show(dV (cx.ty v) λn=>dV (fR cx mask (E c) x) λa=>dV (fR cx mask (E c) y) λh=>gh h.im (dV (d.store n a h) λk=>some (lH.val .undef k)))=_;rw[J,z,K];simp only[dY,L,ir,N]
    |_=>simp[H.store]at A
   ·exact absurd b (Ch (λf S=>by simp at S) M I)
  |_=>rw[t]at D;simp[oM]at D
def Inv.aaG(g:Dr P cx cf base mask m ops E Hs ws nT)(i:Inv cx base mask m ops E Hs ws nT listed a w μ q)(k:LF ops listed j o)(bT:kv ops mask (E j) o.guard=some true)(C:oM o.op=true)
 {F:T} (n:Ec cx cf mask (E j) (Hs j) o.op F (Hs (j+1))) (bC:(E j).dst mask o.dst F=some (E (j+1))):
 ze P (λL al=>∃G b9,Inv cx base mask m ops E Hs ws nT (listed.setIfInBounds j true) (a.put o.dst L) al G b9) ((execOp a.eval o).run P w):=by
 have R:iB o.op=true:=by cases bp:o.op<;>rw[bp]at C<;>simp[oM]at C<;>rfl
 have S:oY mask ops E j:=⟨o,k.op,R,bT⟩;have A:=k.lt;obtain⟨e,aE,N,bH,bs,bS,Z⟩:=g.NH k.op C S;have v:e<(Hs ops.size).size:=bG N (nc g.mono (bD A) (au _));have K:∀b,oY mask ops E b->b<j->ff (Hs b) (Hs (b+1)) e=false->listed.getD b false=true:=by
  intro b l x c;rcases g.tr.both j b e aE l x with h|h
  ·rw[c]at h;simp at h
  ·exact k.before b h
 have J:∀b,oY mask ops E b->j<b->ff (Hs b) (Hs (b+1)) e=false->listed.getD b false=false:=by
  intro b l x c;have a6:=l;obtain⟨b8,W,a8,_⟩:=a6;rcases g.Em j b o b8 k.op W x with⟨_,h⟩|h
  ·obtain⟨y,aN,_,_,bu,_⟩:=g.NH W (h R a8).2 l;have:y=e:=by
    rcases Nat.decEq y e with bn|rfl
    ·exfalso;have z:=bu e (bm bn);unfold ff at c;rw[z]at c;cases t:(Hs b).get e with
     |none=>rw[t]at c;simp at c
     |some p=>
      rw[t]at c;have c:Nat.beq p.ver p.ver=false:=c;simp at c
    ·rfl
   subst this;rcases g.tr.both b j y aN S x with h|h
   ·rw[bS]at h;simp at h
   ·exact k.behind b h
  ·exact k.behind b h
 have cy:uu Hs e ops.size<=j:=(kV g.mono v (bD A)).1 N;have bz:(PH Hs ops.size q).get e=(Hs j).get e:=by
  rw[g.xa (i.IF _) v];have cX:=i.IF e;rcases Nat.le_total (max (q e) (uu Hs e ops.size)) j with bk|a7
  ·refine(lZ g.mono bk λb U V=> ?_).symm;have s:e<(Hs b).size:=(kV g.mono v dB).2 dB;refine g.same dB s λl c=> ?_;have:=(i.kT b e l s c).1 (K b l V c);omega
  ·refine lZ g.mono a7 λb U V=> ?_;have s:e<(Hs b).size:=(kV g.mono v dB).2 dB;refine g.same dB s λl c=> ?_;have hl:=(i.kT b e l s c).2 dB;rcases Nat.eq_or_lt_of_le U with h|h
   ·subst h;rw[k.not]at hl;simp at hl
   ·rw[J b l h c]at hl;simp at hl
 obtain⟨cp,Y,M,ce,an,ap⟩:=Z (PH Hs ops.size q) (E1 _ _ _) bz;have bN:F= .undef:=by
  obtain⟨cL,X,_⟩:=Z (Hs j) (g.wf j (bD A)) rfl;rcases n with n|⟨f,cb,n,_⟩
  ·rw[X]at n;simp only[ar,lH.val.injEq]at n;exact n.1.symm
  ·rw[X]at n;simp at n
 subst bN;have aX:∀p∈o.op.operands,fR cx mask (E j) p=fR cx mask (BX mask (E j) (o.looksAt ops)) p:=λp n=>zJ n;rw[zK aX]at Y;refine((yx g.iZ i.st (i.NW g k) Y).ZT).mono λL al t=> ?_;obtain⟨G,b6,ae,D,b7⟩:=t;refine⟨G,λd=>if d=e then j+1 else q d,i.cl.set k,by rw[Act.pW];exact i.size,by rw[Act.pX];exact i.MX,λd=> ?_,λb d B s c=> ?_,
  ae.congr (E1 _ _ _) λd I u=> ?_,i.BM g k D.ext b6 bC,i.F8 g k bH λd=>⟨λu=> ?_,λu=> ?_⟩,i.ext.trans D⟩
 ·show(if d=e then j+1 else q d)<=ops.size;have:=i.IF d;split<;>omega
 ·show _↔b<(if d=e then j+1 else q d);by_cases r:d=e
  ·subst r;rw[aq rfl];rcases cW b j with h|h|h
   ·rw[getD_set_ne false dB,K b B h c];simp;omega
   ·subst h;rw[vD i.cl k];simp
   ·rw[getD_set_ne false dB,J b B h c];simp;omega
  ·rw[ao r];have bi:j≠b:=by
    rintro rfl;have z:=bs d r;unfold ff at c;rw[z]at c;cases t:(Hs j).get d with
    |none=>rw[t]at c;simp at c
    |some p=>
     rw[t]at c;have c:Nat.beq p.ver p.ver=false:=c;simp at c
   rw[getD_set_ne false bi];exact i.kT b d B s c
 ·have O:d<(Hs ops.size).size:=by
   have:=ae.eJ u;rw[M]at this;exact this
  have bB:(if d=e then j+1 else q d)<=ops.size:=by have:=i.IF d;split<;>omega
  rw[g.xa (q:=λd=>if d=e then j+1 else q d) bB O];by_cases r:d=e
  ·subst r;rw[aq rfl,an,show max (j+1) (uu Hs d ops.size)=j+1 by omega]
  ·rw[ao r,ap d r,g.xa (i.IF _) O]
 ·rcases b7.2.1 d u with h|h
  ·exact h
  ·rw[M]at h;omega
 ·obtain⟨I,av⟩:=Option.ne_none_iff_exists'.1 u;obtain⟨ca,aA,_⟩:=D.ext.mu d I av;rw[aA];simp
def Inv.step(c:Dr P cx cf base mask m ops E Hs ws nT)(d:Inv cx base mask m ops E Hs ws nT listed a w μ q)(A:j∈Region.ready .any ops listed):
 wpOp P ops Q j (λy l=>∃i B,Inv cx base mask m ops E Hs ws nT (listed.setIfInBounds j true) y l i B) a w:=by
 obtain⟨o,b⟩:=rdy d.cl A;unfold wpOp;simp only[b.op];rcases mQ (c.tr.step j o b.op)with⟨e,g,z⟩|⟨e,C,r,g⟩
 ·simp only[d.want c b e,cq,bo];exact⟨μ,q,d.skip c b e g z⟩
 ·simp only[d.want c b e,bg];left;cases k:iB o.op with
  |false=>exact ze.wp (d.quiet c b e k r g) λs l f=>by obtain⟨i,h⟩:=f;exact⟨i,q,h⟩
  |true=>
   cases p:oM o.op with
   |true=>exact ze.wp (d.aaG c b e p r g) λs l f=>f
   |false=>
    refine ze.wp (d.aea c b e k (λv x u t=>⟨λn=> ?_,λn=> ?_⟩) r g) λs l f=>by obtain⟨i,h⟩:=f;exact⟨i,_,h⟩
    ·rcases c.Em v j x o u b.op n with⟨_,h⟩|h
     ·have:=(h t k).2;rw[p]at this;simp at this
     ·exact h
    ·rcases c.Em j v o x b.op u n with⟨_,h⟩|h
     ·have:=(h k t).1;rw[p]at this;simp at this
     ·exact h
def YF(listed:af Bool):Nat:=(listed.toList.filter λb=> !b).length
def JR:∀(c:List Bool) (j:Nat),c[j]? =some false->((c.set j true).filter λd=> !d).length+1=(c.filter λd=> !d).length:=by
 intro c;induction c with
 |nil=>intro j b;simp at b
 |cons f c e=>
  intro j b;cases j with
  |zero=>simp at b;subst b;simp
  |succ j=>
   simp at b;have:=e j b;cases f<;>simp[df]<;>omega
def Kz(b:listed.getD j true=false):YF (listed.setIfInBounds j true)+1=YF listed:=by
 have c:j<listed.size:=by
  rcases aF j listed.size with h'|h'
  ·exact h'
  ·simp[cV h']at b
 unfold YF;rw[Array.toList_setIfInBounds];refine JR _ _ ?_;simp[c]at b;simp[c,b]
def Km(g:Dr P cx cf base mask m ops E Hs ws nT)(h:Cl ops listed)(hr:Region.ready .any ops listed=[]):∀b,b<ops.size->listed.getD b false=true:=by
 intro b;induction b using Nat.strongRecOn with
 |_ b n=>
  intro e;cases d:listed.getD b false with
  |true=>rfl
  |false=>
   have f:ops[b]? =some ops[b]:=by simp[e]
   have:b∈Region.ready .any ops listed:=by
    refine mem_ready.2 ⟨?_,ops[b],f,λc k i=> ?_⟩
    ·have:b<listed.size:=by rw[h.size];exact e
     simp[this]at d|-;exact d
    ·have l:=g.back b _ f c k i;exact n c.on l dB
   rw[hr]at this;simp at this
def Inv.abg(d:Dr P cx cf base mask m ops E Hs ws nT)(f:Inv cx base mask m ops E Hs ws nT listed a w μ q)(p:∀g,g<ops.size->listed.getD g false=true):
 St cx base w.heap μ (Hs ops.size)/\kt w.heap μ mask (E ops.size) a.tmps/\ye nT μ (Hs 0).size (Hs ops.size).size:=by
 refine⟨f.st.congr (d.wf _ (au _)) λe O r=> ?_,λs h L=>f.NM s h ?_,?_⟩
 ·have v:=f.lt d r;rw[d.xa (f.IF _) v];have R:=Gg Hs e ops.size;have:=f.IF e;refine lZ d.mono dB λg T y=> ?_;have u:e<(Hs g).size:=(kV d.mono v dB).2 dB;refine d.same y u λI K=> ?_;have:=(f.kT g e I u K).1 (p g y);omega
 ·
  have N:∀b,sh ops listed s ops.size+b<=ops.size->(E (sh ops listed s ops.size+b)).get mask s=(E (sh ops listed s ops.size)).get mask s:=by
   intro b;induction b with
   |zero=>intro _;rfl
   |succ b M=>
    intro S;have t:sh ops listed s ops.size+b<ops.size:=dB;have z:ops[sh ops listed s ops.size+b]? =some ops[sh ops listed s ops.size+b]:=by simp[t]
    rw[<-M dB];have A:ops[sh ops listed s ops.size+b].dst≠some s:=by
     intro G;have:=Jz (n:=ops.size) t (p _ t) (by rw[z];exact G);omega
    have B:∀h i,(E (sh ops listed s ops.size+b)).dst mask ops[sh ops listed s ops.size+b].dst h=some i->i.get mask s=(E (sh ops listed s ops.size+b)).get mask s:=by
     intro h i c;cases x:ops[sh ops listed s ops.size+b].dst with
     |none=>rw[x]at c;have c:some _=some i:=c;simp only[ar]at c;rw[c]
     |some C=>
      rw[x]at c A;have J:s≠C:=λD=>A (by rw[D]);rw[Env.Bm (show Env.set mask _ C h=some i from c) s,ao J]
    rcases mQ (d.tr.step _ _ z)with⟨_,c,_⟩|⟨_,h,_,c⟩
    ·exact B _ _ c
    ·exact B _ _ c
  have U:=VV (ops:=ops) (listed:=listed) (s:=s) ops.size;have:=N (ops.size-sh ops listed s ops.size) dB;rw[show sh ops listed s ops.size+(ops.size-sh ops listed s ops.size)=ops.size by omega]at this;rw[<-this];exact L
 ·refine⟨nc d.mono (aw _) (au _),λe r=> ?_,λe k l=> ?_⟩
  ·rcases(f.SC e).1 r with F|⟨k,l,_⟩
   ·exact .inl F
   ·exact .inr ⟨k,l⟩
  ·refine(f.SC e).2 (.inr ⟨k,l,p _ ?_⟩);have:=d.cr0 l k;have:=Gg Hs e ops.size;omega
def Nc(f:Dr P cx cf base mask m ops E Hs ws nT)
 (p:∀a w μ,St cx base w.heap μ (Hs ops.size)->kt w.heap μ mask (E ops.size) a.tmps->ye nT μ (Hs 0).size (Hs ops.size).size->pI ws nT w μ->a.tmps.size=m->a.defers=[]->Q .normal a w):
 ∀(c:Nat) (listed:af Bool) (a:Act) (w:World),YF listed<=c->(∃μ q,Inv cx base mask m ops E Hs ws nT listed a w μ q)->wpAny P .any ops Q c listed a w:=by
 have fin:∀(listed:af Bool) (a:Act) (w:World),(∃μ q,Inv cx base mask m ops E Hs ws nT listed a w μ q)->Region.ready .any ops listed=[]->Q .normal a w:=by
  rintro listed a w ⟨μ,q,b⟩ hr;obtain⟨k,l,n⟩:=b.abg f (Km f b.cl hr);exact p a w μ k l n b.ext b.size b.MX
 intro c;induction c with
 |zero=>
  intro listed a w r d;have hr:Region.ready .any ops listed=[]:=by
   cases hr:Region.ready .any ops listed with
   |nil=>rfl
   |cons g u=>
    have e:g∈Region.ready .any ops listed:=by rw[hr];simp
    have:=Kz (mem_ready.1 e).1;omega
  exact⟨hr,fin listed a w d hr⟩
 |succ c s=>
  intro listed a w r d;refine⟨λhr=>fin listed a w d hr,λg e=> ?_⟩;obtain⟨μ,q,b⟩:=d;have:=Kz (mem_ready.1 e).1;exact wpOp_mono (λh t i=>s _ h t dB i) (b.step f e)
def chain{n:World}{p:Mu}{h:H}{u:Env}{g c:H}{f:Env}(iZ:jd P cx)(t:nH P cx cf)(v:E2 m ops){l:Nat}(y:ops[l]? =some o)(K:ls cx cf mask ops u g o=some (f,c))
 (r:tF cx base mask m n p h u g a w):(∃B e,tF cx base mask m n p h f c B e)/\kW g c:=by
 have A:=r;obtain⟨μ,b,d,M,C,D,x,J⟩:=A;rcases mQ K with⟨L,k,rfl⟩|⟨L,O,z,k⟩
 ·exact⟨⟨_,w,μ,b,kt.put d .undef (λb i=>by rw[x];exact v l o b y i) k,M,C,D,by rw[Act.pW];exact x,by rw[Act.pX];exact J⟩,kW.refl b.wf⟩
 ·have hr:=CQ (P:=P) iZ t b d z;obtain⟨s,e,G⟩:=hr.some;have F:ze P (λs e=>tF cx base mask m n p h f c (a.put o.dst s) e) ((execOp a.eval o).run P w):=
   r.after (λb i=>v l o b y i) k λbase μ b d=>CQ iZ t b d z
  obtain⟨N,R,I⟩:=F.some;exact⟨⟨_,_,I⟩,G.2⟩
def JY(bN:P.follows .mixedOrders=true)(iZ:jd P cx)(N:nH P cx cf):Ra P cx cf oQ:=by
 intro base mask m c6 c7 c1 ops e bk h bp a w Q id Y R bT a7 bu;obtain⟨E,Hs,b9,cb,aX,U,ce,_,_,cp,cy,_,ca⟩:=Dp ops.toList 0 ⟨[],[]⟩ e bk h bp (λt=>by simp) bT;simp only[Nat.zero_add,cj]at aX U;have V:Trace cx cf mask ops E Hs:=⟨λb o k=>ce b o (aw _) k,λb B c u v A=>cp b B c (aw _) u v A,λb B c u v A=>cy b B c (aw _) u v A,λb B c u v A=>ca b B c (aw _) u v A⟩;obtain⟨nT,s,r,x,bi,g,an,ae⟩:=a7;subst b9 cb;have K:∀b,b<=ops.size->∃M I,tF cx base mask m w nT (Hs 0) (E b) (Hs b) M I:=by
  intro b;induction b with
  |zero=>intro _;exact⟨a,w,nT,s,r,pI.refl _ _,ye.refl _ _,kW.refl s.wf,an,ae⟩
  |succ b T=>
   intro f;obtain⟨a1,J,L⟩:=T dB;have k:ops[b]? =some ops[b]:=by simp[show b<ops.size by omega]
   exact(chain iZ N R k (V.step b _ k) L).1
 have X:∀b,b<ops.size->kW (Hs b) (Hs (b+1)):=by
  intro b f;obtain⟨a1,J,L⟩:=K b dB;have k:ops[b]? =some ops[b]:=by simp[f]
  exact(chain iZ N R k (V.step b _ k) L).2
 have D:Dr P cx cf base mask m ops E Hs {w with drawn:=w.drawn+1} nT:=by
  refine⟨iZ,N,R,V,s,λi j c4 b8 bz bH bB=>Ic Y bz bH bB,λj o k=>JZ Y k,λb f sl C n=> ?_,λb f c y d ap C n=> ?_,X,λb f=> ?_⟩
  ·obtain⟨a1,J,W,p,r1,_⟩:=K b f;exact(r1 sl C n).low λc l d=>p.eJ d
  ·obtain⟨a1,J,W,p,r1,cL,a8,_⟩:=K b f;have bC:W c≠none:=by
    rcases d with d|d
    ·obtain⟨l,O⟩:=Option.ne_none_iff_exists'.1 d;obtain⟨cX,bs,_⟩:=cL.ext.mu c l O;rw[bs];simp
    ·exact a8.2.2 c d (H.eJ ap)
   obtain⟨l,O⟩:=Option.ne_none_iff_exists'.1 bC;obtain⟨z,S,bS⟩:=p.box c l O;rw[ap]at S;simp only[ar]at S;subst S;exact bS.low (λc l d=>p.eJ d) C n
  ·obtain⟨a1,J,W,p,_⟩:=K b f;exact p.wf
 have bn:∀b,b<=ops.size->kW (Hs 0) (Hs b):=by
  intro b;induction b with
  |zero=>intro _;exact kW.refl s.wf
  |succ b T=>intro f;exact(T dB).trans (X b dB)
 refine wp_region_any bN (Nc D (λM I a6 av aA aE G b6 b7=> ?_) ops.size _ a _ (by simp[YF]) ⟨nT,λ_=>0,?_⟩)
 ·rw[aX]at aA;rw[U]at av aE;have aN:pI w nT I a6:=⟨G.ext,G.os,G.tape,G.output⟩;exact bu M I ⟨a6,av,aA,x.trans aN,bi.trans (hp:=w.heap) aE aN.ext,by have:=bn ops.size (au _);rw[U]at this;exact g.trans this,b6,b7⟩
 ·have F:∀b,(Array.replicate ops.size false).getD b false=false:=by
   intro b;rcases aF b ops.size with h|h<;>simp[h]
  refine⟨⟨dC,λj b8 _ hl=> ?_⟩,an,ae,λ_=>aw _,λb c _ _ _=> ?_,?_,λsl C n=> ?_,λc=> ?_,⟨Ext.refl _ _,rfl,rfl,rfl⟩⟩
  ·rw[F]at hl;simp at hl
  ·rw[F];simp
  ·refine s.congr (E1 _ _ _) λc l d=> ?_;have al:=s.eJ d;have Z:c<(Hs ops.size).size:=bG al (nc D.mono (aw _) (au _));rw[D.xa (q:=λ_=>0) (aw _) Z];have:uu Hs c ops.size<=0:=(kV D.mono Z (aw _)).1 al;rw[show max 0 (uu Hs c ops.size)=0 by omega]
  ·have:sh ops (Array.replicate ops.size false) sl ops.size=0:=by
    rcases yF (ops:=ops) (listed:=Array.replicate ops.size false) (s:=sl) ops.size with h|⟨b,_,_,h,_⟩
    ·exact h
    ·rw[F]at h;simp at h
   rw[this]at n;exact r sl C n
  ·rw[F];simp
end
end
noncomputable section
section
variable {P:ai}{cx:Ctx}{cf:iX}{base mask m:Nat}{w0 w:World}{μ0 μ:Mu}{h0 h h':H}{e e':Env}{a:Act}
def zL{f:List T}{cs:af am}{g:af Obj}(b:gJ g μ f cs.toList):fD g μ (jM f) (if h:cs.size=1 then cs[0]else .tuple cs):=by
 have d:∀(k:cs.size≠1),fD g μ (.tuple f) (if h:cs.size=1 then cs[0]else .tuple cs):=by
  intro k;rw[dif_neg k];exact .tuple f cs (by simpa using b.1.symm) λn i l=>by simpa[aZ,List.getD]using b.2 n i l
 have c:=b.1
 match f,b,c,d with
 | [],b,c,d=>exact d (by simp at c;omega)
 | [i],b,c,d=>
  have j:cs.size=1:=by simpa using c.symm
  rw[dif_pos j];have:=b.2 0 i dC;simpa[jM,List.getD,j]using this
 |o::p::f,b,c,d=>exact d (by simp at c;omega)
def nP(c:af am):ResultVar->Sem am
 | .tmp b=>pure (c.getD b Go.undef)
 | .cell d b=>do loadVar b (<-asAddr (c.getD d Go.undef))
def BU(c:Func)(d:af am):results c d=(do let b<-c.results.mapM (nP d);pure (if h:b.size=1 then b[0]else .tuple b)):=by
 unfold results;congr 1
def E8(iZ:jd P cx)(E:St cx base w.heap μ h)(r:kt w.heap μ mask e a.tmps):∀(g:List ResultVar) (k:List T),mS cx mask e h g=some k->
 ∃d:List am,gJ w.heap μ k d/\(g.mapM (nP a.tmps)).run P w= .ok d w:=by
 intro g;induction g with
 |nil=>
  intro k b;have b:some []=some k:=b;simp only[ar]at b;subst b;exact⟨[],gJ.nil,dC⟩
 |cons n g D=>
  intro k b;unfold mS at b;rw[jK]at b;replace b:=dL.1 b;obtain⟨j,c,b⟩:=b;replace b:=dL.1 b;obtain⟨s,C,b⟩:=b;simp only[ar]at b;subst b;obtain⟨d,x,A⟩:=D s C;have q:∀f,(nP a.tmps n).run P w= .ok f w->fD w.heap μ j f->∃d:List am,gJ w.heap μ (j::s) d/\((n::g).mapM (nP a.tmps)).run P w= .ok d w:=by
   intro f y hr;refine⟨f::d,gJ.cons hr x,?_⟩;rw[List.mapM_cons,Sem.run_bind,y,Result.andThen_ok,Sem.run_bind,A,Result.andThen_ok,Sem.run_pure]
  cases n with
  |tmp i=>
   have c:e.get mask i=some j:=c;exact q _ (by simp only[nP,Sem.run_pure]) (r i j c)
  |cell p i=>
   have c:(dV (e.get mask p) λl=>dV (cx.ty i) λo=>h.load o l)=some j:=c;replace c:=dL.1 c;obtain⟨l,z,c⟩:=c;replace c:=dL.1 c;obtain⟨o,B,c⟩:=c;obtain⟨F,f,t,u,v⟩:=Cn (iZ.ty i o B) E (r p l z) c;exact q f (by simp only[nP,t,asAddr,Sem.run_bind,Sem.run_pure,Result.andThen_ok,u]) v
def Dq(iZ:jd P cx)(k:St cx base w.heap μ h)(j:kt w.heap μ mask e a.tmps){b:Func}{d:List T}(g:mS cx mask e h b.results.toList=some d):
 ∃c,(results b a.tmps).run P w= .ok c w/\fD w.heap μ (jM d) c:=by
 obtain⟨cs,f,i⟩:=E8 (P:=P) iZ k j _ _ g;refine⟨_,?_,zL (cs:=cs.toArray) (by simpa using f)⟩;rw[BU];have:b.results.mapM (nP a.tmps)=List.toArray<$>b.results.toList.mapM (nP a.tmps):=by
  rw[<-List.mapM_toArray]
 rw[this,Sem.run_bind,Sem.run_map,i];rfl
def DB:∀(i g:Nat) (n:List T) (q:fX),mo mask i g n=some q->∀o k,dO q o=some k->(∃d,o=g+d/\d<i/\(n[d]? =some k\/(n.length<=d/\k= .undef))):=by
 intro i;induction i with
 |zero=>
  intro g n q b o k f;have b:some fX.nil=some q:=b;simp only[ar]at b;subst b;simp[dO]at f
 |succ i v=>
  intro g n q b o k f;have b:(dV (hU (Nat.succ g)) λs=> @List.rec T (λ_=>aa fX)
   (@Bool.rec (λ_=>aa fX) (mo mask i s []) (dV (mo mask i s []) λj=>some (.cons g .undef j)) (km mask g))
   (λa l _=>dV (mo mask i s l) λj=>some (.cons g a j)) n)=some q:=b
  simp only[iE,dY]at b;have t:∀{l:List T} {j:fX},mo mask i (g+1) l=some j->dO j o=some k->∃d,o=g+(d+1)/\d<i/\(l[d]? =some k\/(l.length<=d/\k= .undef)):=by
   intro l j ht hl;obtain⟨d,p,r,c⟩:=v (g+1) l j ht o k hl;exact⟨d,dB,r,c⟩
  cases n with
  |nil=>
   simp only at b;cases hl:km mask g with
   |false=>
    rw[hl]at b;obtain⟨d,p,r,c⟩:=t b f;refine⟨d+1,p,dB,.inr ?_⟩;rcases c with c|c
    ·simp at c
    ·exact⟨dC,c.2⟩
   |true=>
    rw[hl]at b;replace b:=dL.1 b;obtain⟨j,ht,b⟩:=b;simp only[ar]at b;subst b;rw[nh]at f;split at f
    ·rename_i u;simp only[ar]at f;exact⟨0,dB,dB,.inr ⟨dC,f.symm⟩⟩
    ·obtain⟨d,p,r,c⟩:=t ht f;refine⟨d+1,p,dB,.inr ?_⟩;rcases c with c|c
     ·simp at c
     ·exact⟨dC,c.2⟩
  |cons x l=>
   simp only at b;replace b:=dL.1 b;obtain⟨j,ht,b⟩:=b;simp only[ar]at b;subst b;rw[nh]at f;split at f
   ·rename_i u;simp only[ar]at f;subst f;exact⟨0,dB,dB,.inl dC⟩
   ·obtain⟨d,p,r,c⟩:=t ht f;refine⟨d+1,p,dB,?_⟩;rcases c with c|c
    ·exact .inl (by simpa using c)
    ·exact .inr ⟨dD,c.2⟩
def JK{n:Nat}{d:List T}{i:fX}{l:af Obj}{c:af am}(k:gJ l μ d c.toList)(o:mo mask n 0 d=some i):
 kt l μ mask ⟨i,.nil⟩ (c++Array.replicate (n-c.size) Go.undef):=by
 intro b j g;have g: @Bool.rec (λ_=>aa T) (dO .nil b) (dO i b) (km mask b)=some j:=g;cases hl:km mask b with
 |false=>rw[hl]at g;simp[dO]at g
 |true=>
  rw[hl]at g;obtain⟨q,r,s,f⟩:=DB n 0 d i o b j g;have p:b=q:=dB;subst p;have t:d.length=c.size:=by simpa using k.1
  rcases f with f|⟨f,rfl⟩
  ·have u:b<d.length:=by
    rcases aF b d.length with h|h
    ·exact h
    ·rw[aM h]at f;simp at f
   have hr:=k.2 b j f;have:(c++Array.replicate (n-c.size) Go.undef).getD b Go.undef=c.toList.getD b Go.undef:=by
    rw[aZ,Array.getElem?_append_left dB];simp[List.getD]
   rw[this];exact hr
  ·have:(c++Array.replicate (n-c.size) Go.undef).getD b Go.undef=Go.undef:=by
    rw[aZ,Array.getElem?_append_right dB];rcases aF (b-c.size) (n-c.size)with h|h
    ·simp[h]
    ·rw[cV (by simpa using h)];rfl
   rw[this];exact .undef
def Hw{m l:Nat}{k:af Oper->Bool}(q:m<=l):∀(b:Code),mB m k b=true->mB l k b=true:=by
 intro b;induction b with
 |region id r p=>
  intro h;simp only[mB,ay]at h|-;refine⟨?_,h.2⟩;have d:=h.1;unfold SB at d|-;rw[cv]at d|-;intro j o;have:=d j o;cases n:j.dst with
  |none=>rfl
  |some s=>
   rw[n]at this;simp only[aH]at this|-;omega
 |seq a c g i=>intro h;simp only[mB,ay]at h|-;exact⟨g h.1,i h.2⟩
 |cond j a c g i=>intro h;simp only[mB,ay]at h|-;exact⟨g h.1,i h.2⟩
 |block id c f=>intro h;simp only[mB]at h|-;exact f h
 |loop c f=>intro h;simp only[mB]at h|-;exact f h
 |_=>intro _;rfl
def Dh(P:ai)(cx:Ctx)(f:aj)(g:Prim):Prop:=
 ∀b h d h',B2 g b h=some (d,h')->∀base w μ (c:af am),St cx base w.heap μ h->gJ w.heap μ b c.toList->ze P (qB cx base w μ h d h') ((callFunc f c).run P w)
def xf(b:Fun):Bool:= !(b.fn.name== "runtime.NumGoroutine")&&match b.fn.body with
 |none=>false
 |some c=>mB b.fn.ntmps oQ c
def nY{c:aj}{b:Func}{f:Code}(i:P.funcs[c]? =some b)(k:(b.name== "runtime.NumGoroutine")=false)(g:b.body=some f)(d:af am)(w:World):
 (callFunc c d).run P w= .ok (.enter c d) w:=by
 have j:¬b.name= "runtime.NumGoroutine" :=by simpa using k
 simp[callFunc,i,j,g]
def Kh(U:P.follows .mixedOrders=true)(iZ:jd P cx)(z:nH P cx cf){r:aj}{b:Fun}(C:P.funcs[r]? =some b.fn)(g:xf b=true){B:Nat}{x:List T}{o:T}
 (c:sX cx cf B b.fn b.mask b.kS x h=some (o,h')) (F:St cx base w.heap μ h) {f:af am} (R:gJ w.heap μ x f.toList):
 ze P (qB cx base w μ h o h') ((callFunc r f).run P w):=by
 unfold xf at g;simp only[ay,ci]at g;obtain⟨V,g⟩:=g;unfold sX at c;cases l:b.fn.body with
 |none=>rw[l]at g;simp at g
 |some y=>
  rw[l]at g c;simp only at g;obtain⟨d,t,k⟩:=h;simp only at c;replace c:=dL.1 c;obtain⟨aN,Z,c⟩:=c;replace c:=dL.1 c;obtain⟨⟨q,A,s⟩,S,c⟩:=c;simp only[kP]at c;have j:(q= .normal\/q= .ret)/\(dV (mS cx b.mask A s b.fn.results.toList) λI=>Co b.kS d t (jM I) s)=some (o,h'):=by
   cases q with
   |normal=>exact⟨.inl rfl,c⟩
   |exit i=>simp at c
   |ret=>exact⟨.inr rfl,c⟩
  obtain⟨al,j⟩:=j;replace j:=dL.1 j;obtain⟨I,ae,j⟩:=j;rw[nY C V l];show Calls P r f w _;refine calls_of_wp C l ?_;have G:St cx base w.heap μ ⟨d,d,k⟩:=F.KI d;have W:=JK (mask:=b.mask) (n:=b.fn.ntmps) R Z;have J:tF cx base b.mask (f.size+(b.fn.ntmps-f.size)) w μ ⟨d,d,k⟩ ⟨aN,.nil⟩ ⟨d,d,k⟩ {tmps:=f++Array.replicate (b.fn.ntmps-f.size) Go.undef,defers:=[]} w:=
   ⟨μ,G,W,pI.refl _ _,ye.refl _ _,kW.refl G.wf,dC,rfl⟩
  refine Ka (m:=f.size+(b.fn.ntmps-f.size)) (w0:=w) (μ0:=μ) (h0:=⟨d,d,k⟩) (base:=base) (mask:=b.mask) iZ z (JY U iZ z) B y (Hw dB y g) _ _ q A s S _ _ _ J λv u K=> ?_;have E:v.defers=[]/\∃p,(results b.fn v.tmps).run P u= .ok p u/\qB cx base w μ ⟨d,t,k⟩ o h' p u:=by
   obtain⟨a7,D,an,ap,av,aA,a6,aE⟩:=K;obtain⟨p,X,Y⟩:=Dq (P:=P) iZ D an ae;obtain⟨⟨aX,L,M,N,O⟩,Q⟩:=HJ (low0:=t) F D aA ap av Y j;exact⟨aE,p,X,⟨aX,L,M,N,O⟩,Q⟩
  rcases al with rfl|rfl
  ·exact E
  ·exact E
end
end
end Go.TI
