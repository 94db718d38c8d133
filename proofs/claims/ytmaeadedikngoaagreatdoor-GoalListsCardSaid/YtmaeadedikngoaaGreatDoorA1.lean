/- Texts TiBase to TiRead2. -/
import Derived.Test.YtmaeadedikngoaaGreatDoorA0
import Derived.IntWalk
import Derived.Calls
import Derived.Laws.CopyRow
import Derived.Laws.Cells
import Derived.Laws.Entries
import Derived.WalkCall
import Derived.Laws.Strings
import Derived.Lib.Strings
import Derived.Laws.StructEq
import Derived.ChangeKeysEq
set_option linter.all false
namespace Go.TI
abbrev dG(n:Int):T:=.int .i64 n
abbrev dH:T:=.dN [] false
abbrev dI(s v:Nat)(e:List T):iY:=⟨s,0,v,true,false,e⟩
@[simp] abbrev dJ(v:fX)(n:Nat)(t:T):Prop:=TI.dO v n=some t
end Go.TI
namespace Go.TI
noncomputable section
@[simp] theorem dY {α β:Type} (a:α) (b:α->aa β):dV (some a) b=b a:=rfl
@[simp] theorem abw {α β:Type} (a:α->aa β):dV (none:aa α) a=none:=rfl
def dL{α β:Type}{a:aa α}{c:α->aa β}{d:β}:dV a c=some d↔∃b,a=some b/\c b=some d:=by
 cases a<;>simp
@[simp] theorem ir {α:Type} (a:aa α):gh true a=a:=rfl
@[simp] theorem MY {α:Type} (a:aa α):gh false a=none:=rfl
def dT{α:Type}{a:Bool}{b:aa α}{c:α}:gh a b=some c↔a=true/\b=some c:=by
 cases a<;>simp
@[simp] theorem kC {α β d:Type} (a:α) (b:β) (c:α->β->d):two (a,b) c=c a b:=rfl
@[simp] theorem kP {e:Type} (d:Ex) (a:Env) (c:H) (b:Ex->Env->H->e):three (d,a,c) b=b d a c:=rfl
section lists
variable {α β:Type}
@[simp] theorem kA (b:List α) (a:Nat):md b a=b[a]? :=by
 induction b generalizing a with
 |nil=>simp[md]
 |cons e d c=>cases a with
  |zero=>rfl
  |succ a=>exact(c a).trans dC 
def kL(b:List α)(a:Nat)(c:α):kJ b a c=if a<b.length then some (b.set a c)else none:=by
 induction b generalizing a with
 |nil=>rfl
 |cons h d f=>cases a with
  |zero=>rfl
  |succ a=>
   show(dV (kJ d a c) λg=>some (h::g))=_;rw[f];by_cases e:a<d.length<;>simp[e]
def nO(a:Nat)(b:List α):takeN a b=if a<=b.length then some (b.take a)else none:=by
 induction a generalizing b with
 |zero=>rfl
 |succ a e=>cases b with
  |nil=>rfl
  |cons g c=>
   show(dV (takeN a c) λf=>some (g::f))=_;rw[e];by_cases d:a<=c.length<;>simp[d]
def lU(a:Nat)(b:List α):jX a b=if a<=b.length then some (b.drop a)else none:=by
 induction a generalizing b with
 |zero=>rfl
 |succ a e=>cases b with
  |nil=>rfl
  |cons f c=>
   show jX a c=_;rw[e];by_cases d:a<=c.length<;>simp[d]
@[simp] theorem jH (a:List α):kR a=a.length:=by
 induction a with
 |nil=>rfl
 |cons d c b=>show Nat.succ (kR c)=_;rw[b];rfl
@[simp] theorem pO (a b:List α):Eb a b=some (a++b):=by
 induction a with
 |nil=>rfl
 |cons f d c=>show(dV (Eb d b) λe=>some (f::e))=_;rw[c];rfl
def jK(a:α->aa β)(c:α)(b:List α):fP a (c::b)=dV (a c) λe=>dV (fP a b) λd=>some (e::d):=rfl
@[simp] theorem VU (a:α->aa β):fP a []=some []:=rfl
def rO{i:α->aa β}{e:List α}{c:List β}:fP i e=some c↔e.length=c.length/\∀(b:Nat) h,e[b]? =some h->∃f,c[b]? =some f/\i h=some f:=by
 induction e generalizing c with
 |nil=>
  constructor
  ·intro a;simp at a;subst a;simp
  ·rintro⟨a,_⟩;simp at a;simp[bj a.symm]
 |cons h e m=>
  rw[jK];constructor
  ·intro a;obtain⟨f,o,a⟩:=dL.1 a;obtain⟨q,ht,a⟩:=dL.1 a;simp at a;subst a;obtain⟨hl,g⟩:=m.1 ht;refine⟨by simp[hl],λb k d=> ?_⟩;cases b with
   |zero=>simp at d;subst d;exact⟨f,dC,o⟩
   |succ b=>simp at d;obtain⟨p,n,j⟩:=g b k d;exact⟨p,by simpa using n,j⟩
  ·rintro⟨hl,g⟩;cases c with
   |nil=>simp at hl
   |cons f c=>
    obtain⟨r,l,j⟩:=g 0 h dC;simp at l;subst l;have:fP i e=some c:=m.2 ⟨by simpa using hl,λb k d=>by simpa using g (b+1) k (by simpa using d)⟩;rw[j,this];rfl
@[simp] theorem nQ (b:α) (a:Nat):pj b a=List.replicate a b:=by
 induction a with
 |zero=>rfl
 |succ a c=>show b::pj b a=_;rw[c];rfl
@[simp] theorem y9 (a:α->Bool) (b:List α):wW a b=b.all a:=by
 induction b with
 |nil=>rfl
 |cons c b e=>
  show @Bool.rec (λ_=>Bool) false (wW a b) (a c)=_;rw[e];cases d:a c<;>simp[d]
end lists
@[simp] theorem iE (a:Nat):hU a=some a:=by cases a<;>rfl
@[simp] theorem VP (b:Int):KY b=some b:=by
 cases b with
 |ofNat a=>cases a<;>rfl
 |negSucc a=>cases a<;>rfl
@[simp] theorem oH (a:ak) (b:Int):xE a b=some (.int a b):=by simp[xE]
@[simp] theorem rK (a:Bool):w9 a=some (.bool a):=by cases a<;>rfl
@[simp] theorem xQ (a b:ak):(Dk a b=true)↔a=b:=by cases a<;>cases b<;>decide
def xM(c b:Int):K2 c b=decide (c<b):=by
 cases c with
 |ofNat d=>cases b with
  |ofNat a=>
   show Nat.blt d a=_;rw[br,aH];simp
  |negSucc a=>show false=_;symm;simp;omega
 |negSucc d=>cases b with
  |ofNat a=>show true=_;symm;simp;omega
  |negSucc a=>
   show Nat.blt a d=_;rw[br,aH];simp;omega
def xU(c b:Int):Rk c b=(c==b):=by
 cases c with
 |ofNat d=>cases b with
  |ofNat a=>
   show Nat.beq d a=_;rw[br,Nat.beq_eq];simp;omega
  |negSucc a=>rfl
 |negSucc d=>cases b with
  |ofNat a=>rfl
  |negSucc a=>
   show Nat.beq d a=_;rw[br,Nat.beq_eq];simp
def jI(c:ak)(d:Int):Ku c d=c.wrap d:=by
 cases c<;>try rfl
 cases d with
 |ofNat a=>
  show @Bool.rec (λ_=>Int) (IntKind.i64.wrap (.ofNat a)) (Int.ofNat a) (Nat.ble a 9223372036854775807)=_;cases b:Nat.ble a 9223372036854775807
  ·rfl
  ·have:=bw b;show Int.ofNat a=_;exact(IntWalk.i64_in _ dD).symm
 |negSucc a=>
  show @Bool.rec (λ_=>Int) (IntKind.i64.wrap (.negSucc a)) (Int.negSucc a) (Nat.ble a 9223372036854775807)=_;cases b:Nat.ble a 9223372036854775807
  ·rfl
  ·have:=bw b;show Int.negSucc a=_;exact(IntWalk.i64_in _ dB).symm
@[simp] theorem yo (a:ak) (b:Int):pU a b=some (.int a (a.wrap b)):=by simp[pU,jI]
def F7(b a:List Nat):UE b a=(b==a):=by
 induction b generalizing a with
 |nil=>cases a<;>rfl
 |cons c b f=>cases a with
  |nil=>rfl
  |cons d a=>
   show @Bool.rec (λ_=>Bool) false (UE b a) (Nat.beq c d)=_;rw[f];rw[List.cons_beq_cons];cases e:Nat.beq c d
   ·have:(c==d)=false:=by rw[<-Bool.not_eq_true,beq_iff_eq,<-Nat.beq_eq];simp[e]
    simp[this]
   ·have:(c==d)=true:=by rw[beq_iff_eq,<-Nat.beq_eq];exact e
    simp[this]
def H.get_eq(b:H)(a:Nat):b.get a=if a<b.size then b.fy[b.size-1-a]? else none:=by
 obtain⟨d,f,e⟩:=b;show gh (Nat.blt a d) (md e _)=_;by_cases c:a<d
 ·have:Nat.blt a d=true:=by rw[aH];exact c
  simp[this,c]
 ·have:Nat.blt a d=false:=by rw[<-Bool.not_eq_true,aH];exact c
  simp[this,c]
def H.Ps(b:Nat->T)(a:H)(c:iY):a.new b c=some (b a.size,⟨a.size+1,a.low,c::a.fy⟩):=by
 obtain⟨d,f,e⟩:=a;show(dV (hU (Nat.succ d)) λg=>some (b d,(⟨g,f,c::e⟩:H)))=_;simp
def H.vK{b k:H}{a:Nat}{j:iY}:b.put a j=some k↔
 a<b.size/\b.size-1-a<b.fy.length/\k=⟨b.size,if a<b.low then a else b.low,b.fy.set (b.size-1-a) j⟩:=by
 obtain⟨g,d,l⟩:=b;show gh (Nat.blt a g) (dV (kJ l (g-1-a) j) λh=> @Bool.rec (λ_=>aa H) (some (⟨g,d,h⟩:H)) (some ⟨g,a,h⟩) (Nat.blt a d))=_↔_;rw[dT,aH,kL];constructor
 ·rintro⟨i,m⟩;obtain⟨h,f,e⟩:=dL.1 m;split at f
  ·rename_i hl;simp at f;subst f;refine⟨i,hl,?_⟩;by_cases c:a<d
   ·have:Nat.blt a d=true:=by rw[aH];exact c
    rw[this]at e;simp at e;simp[c,<-e]
   ·have:Nat.blt a d=false:=by rw[<-Bool.not_eq_true,aH];exact c
    rw[this]at e;simp at e;simp[c,<-e]
  ·simp at f
 ·rintro⟨i,hl,rfl⟩;refine⟨i,?_⟩;simp only[]at hl;rw[aq hl];by_cases c:a<d
  ·have:Nat.blt a d=true:=by rw[aH];exact c
   simp[this,c]
  ·have:Nat.blt a d=false:=by rw[<-Bool.not_eq_true,aH];exact c
   simp[this,c]
end
noncomputable section
structure Loc where
 ep:Nat
 iR:Nat
 cap:Nat
 sz:Nat
structure Mu where
 loc:Nat->aa Loc
 pi:Nat->Prop
instance :CoeFun Mu (λ_=>Nat->aa Loc):=⟨Mu.loc⟩
def nz(c:Mu)(b:Nat):Prop:=(∃d a,c d=some a/\a.iR=b)\/c.pi b
def T.scalar:T->Bool
 | .undef| .agg _| .tuple _=>false
 |_=>true
inductive ku:T->Prop where
 |bool (b:Bool):ku (.bool b)
 |int (k:ak) (n:Int):ku (.int k n)
 |str (s:List Nat):ku (.str s)
 |kw:ku .kw
 |jB (cs:List T) (h:∀v∈cs,ku v):ku (.jB cs)
 |dN (es:List T) (full:Bool) (h:∀v∈es,ku v):ku (.dN es full)
 |gu:ku .gu
 |kK:ku .kK
 |kM:ku .kM
 |agg (cs:List T) (h:∀v∈cs,ku v):ku (.agg cs)
def vj(a:T):Prop:=a.scalar=true/\ku a
def fx(a:List T):List T:=a.flatMap T.cells
def bytesOf(a:List Nat):ByteArray:=⟨(a.map UInt8.ofNat).toArray⟩
inductive fD (hp:af Obj) (μ:Mu):T->am->Prop where
 |undef:fD hp μ .undef (.tuple #[])
 |bool (b:Bool):fD hp μ (.bool b) (.bool b)
 |int (k:ak) (n:Int):fD hp μ (.int k n) (.int k n)
 |str (s:List Nat) (h:∀c∈s,c<256):fD hp μ (.str s) (.string (bytesOf s))
 |kw:fD hp μ .kw (.pointer none)
 |ptr (b ep i j:Nat) (L:Loc) (a:Addr) (hb:μ b=some L) (he:ep<=L.ep) (ha:ep=L.ep->a=⟨L.iR,i*L.sz+j,none⟩):
  fD hp μ (.ptr b ep i j) (.pointer (some a))
 |jB (cells:List T) (iR off:Nat) (arr:af am) (t:ab) (fz:Nat×Nat) (hn:¬nz μ iR) (hh:hp[iR]? =some (.cells arr t fz))
  (hs:off+cells.length<=arr.size) (hc:∀v∈cells,vj v)
  (hr:∀(k:Nat) v,cells[k]? =some v->fD hp μ v (arr.getD (off+k) Go.undef)):fD hp μ (.jB cells) (.pointer (some ⟨iR,off,none⟩))
 |nM (full:Bool) (a:aa Addr):fD hp μ (.dN [] full) (.slice a 0 0)
 |dN (e:T) (es:List T) (full:Bool) (iR off cap sz:Nat) (arr:af am) (t:ab) (fz:Nat×Nat) (hn:¬nz μ iR)
  (hh:hp[iR]? =some (.cells arr t fz)) (hl:es.length+1<=cap) (hf:full=true->cap=es.length+1)
  (hu:∀v∈e::es,v.cells.length=sz) (hs:off+(fx (e::es)).length<=arr.size) (hc:∀v∈fx (e::es),vj v)
  (hr:∀(k:Nat) v,(fx (e::es))[k]? =some v->fD hp μ v (arr.getD (off+k) Go.undef)):
  fD hp μ (.dN (e::es) full) (.slice (some ⟨iR,off,none⟩) (es.length+1) cap)
 |gu (a:aa Addr) (cap:Nat):fD hp μ .gu (.slice a 0 cap)
 |arr (b ep o l:Nat) (full:Bool) (L:Loc) (a:aa Addr) (cp:Nat) (hb:μ b=some L) (he:ep<=L.ep) (hl:l<=cp)
  (h:ep=L.ep->(full=true->cp=l)/\(full=false->o+cp=L.cap)/\(cp≠0->a=some ⟨L.iR,o*L.sz,none⟩)):
  fD hp μ (.arr b ep o l full) (.slice a l cp)
 |func (f:aj) (caps:List T) (cs:af am) (hs:cs.size=caps.length)
  (hr:∀(k:Nat) v,caps[k]? =some v->fD hp μ v (cs.getD k Go.undef)):fD hp μ (.func f caps) (.func (.func f) #[] cs)
 |kK:fD hp μ .kK .nilFunc
 |kM:fD hp μ .kM .nilIface
 |iface (t:ab) (v:T) (c:am) (h:fD hp μ v c):fD hp μ (.iface t v) (.iface t c)
 |iter (b:Nat) (L:Loc) (a:Addr) (hb:μ b=some L) (h:L.ep=0->a=⟨L.iR,0,none⟩):fD hp μ (.iter b) (.pointer (some a))
 |map (b:Nat) (L:Loc) (i:Nat) (hb:μ b=some L) (h:L.ep=0->i=L.iR):fD hp μ (.map b) (.map (some i))
 |nR:fD hp μ .nR (.map none)
 |agg (cells:List T) (cs:af am) (hs:cs.size=cells.length) (hc:∀v∈cells,v.scalar=true)
  (hr:∀(k:Nat) v,cells[k]? =some v->fD hp μ v (cs.getD k Go.undef)):fD hp μ (.agg cells) (.agg cs)
 |tuple (vs:List T) (cs:af am) (hs:cs.size=vs.length)
  (hr:∀(k:Nat) v,vs[k]? =some v->fD hp μ v (cs.getD k Go.undef)):fD hp μ (.tuple vs) (.tuple cs)
structure Ext(hp:af Obj)(μ:Mu)(hp':af Obj)(μ':Mu):Prop where
 size:hp.size<=hp'.size
 nJ:∀i,i<hp.size->¬nz μ i->hp'[i]? =hp[i]? /\¬nz μ' i
 mu:∀b L,μ b=some L->∃L',μ' b=some L'/\(L'=L\/L.ep<L'.ep)
 pi:μ'.pi=μ.pi
 kept:∀i,i<hp.size->μ.pi i->hp'[i]? =hp[i]?
structure pI(w:World)(μ:Mu)(w':World)(μ':Mu):Prop where
 ext:Ext w.heap μ w'.heap μ'
 os:w'.os=w.os
 tape:w'.tape=w.tape
 output:w'.output=w.output
def Ext.refl(b:af Obj)(c:Mu):Ext b c b c:=⟨au _,λ_ _ a=>⟨rfl,a⟩,λ_ d a=>⟨d,a,.inl rfl⟩,rfl,λ_ _ _=>rfl⟩
def Ext.trans{hp f g:af Obj}{h i j:Mu}(a:Ext hp h f i)(d:Ext f i g j):Ext hp h g j:=by
 refine⟨aS a.size d.size,λc b s=> ?_,λe k r=> ?_,d.pi.trans a.pi,λc b hr=> ?_⟩
 rotate_right
 ·rw[d.kept c (bG b a.size) (by rw[a.pi];exact hr),a.kept c b hr]
 ·obtain⟨n,t⟩:=a.nJ c b s;obtain⟨o,u⟩:=d.nJ c (bG b a.size) t;exact⟨o.trans n,u⟩
 ·obtain⟨l,p,r1⟩:=a.mu e k r;obtain⟨m,q,r2⟩:=d.mu e l p;refine⟨m,q,?_⟩;rcases r1 with rfl|r1
  ·exact r2
  ·rcases r2 with rfl|r2
   ·exact .inr r1
   ·exact .inr (Nat.lt_trans r1 r2)
def pI.refl(a:World)(b:Mu):pI a b a b:=⟨Ext.refl _ _,rfl,rfl,rfl⟩
def pI.trans{c w1 d:World}{e f g:Mu}(a:pI c e w1 f)(b:pI w1 f d g):pI c e d g:=
 ⟨a.ext.trans b.ext,b.os.trans a.os,b.tape.trans a.tape,b.output.trans a.output⟩
def pz{a:af Obj}{b:Nat}{f:Obj}(c:a[b]? =some f):b<a.size:=by
 rcases aF b a.size with e|d
 ·exact e
 ·simp[cV d]at c
def fD.ext{A B:af Obj}{C D:Mu}{u:T}{t:am}(e:fD A C u t)(k:Ext A C B D):fD B D u t:=by
 induction e with
 |undef=>exact .undef
 |bool a=>exact .bool a
 |int N q=>exact .int N q
 |str R e=>exact .str R e
 |kw=>exact .kw
 |ptr a x z M g d i J I=>
  obtain⟨h,j,r⟩:=k.mu a g i;refine .ptr a x z M h d j ?_ ?_
  ·rcases r with rfl|r<;>omega
  ·intro b;rcases r with rfl|r
   ·exact I b
   ·omega
 |jB w l off arr s fz y p f o _ c=>
  obtain⟨b,q⟩:=k.nJ l (pz p) y;exact .jB w l off arr s fz q (b.trans p) f o c
 |nM n d=>exact .nM n d
 |dN b G n l off v S arr s fz y p hl K L f o _ c=>
  obtain⟨Q,q⟩:=k.nJ l (pz p) y;exact .dN b G n l off v S arr s fz q (Q.trans p) hl K L f o c
 |gu d v=>exact .gu d v
 |arr a x P O n g d F i J hl e=>
  obtain⟨h,j,r⟩:=k.mu a g i;refine .arr a x P O n h d F j ?_ hl ?_
  ·rcases r with rfl|r<;>omega
  ·intro b;rcases r with rfl|r
   ·exact e b
   ·omega
 |func H E m f _ c=>exact .func H E m f c
 |kK=>exact .kK
 |kM=>exact .kM
 |iface s u t _ c=>exact .iface s u t c
 |iter a g d i e=>
  obtain⟨h,j,r⟩:=k.mu a g i;refine .iter a h d j ?_;intro b;rcases r with rfl|r
  ·exact e b
  ·omega
 |map a g z i e=>
  obtain⟨h,j,r⟩:=k.mu a g i;refine .map a h z j ?_;intro b;rcases r with rfl|r
  ·exact e b
  ·omega
 |nR=>exact .nR
 |agg w m f o _ c=>exact .agg w m f o c
 |tuple U m f _ c=>exact .tuple U m f c
def gJ(e:af Obj)(f:Mu)(d:List T)(a:List am):Prop:=
 d.length=a.length/\∀(b:Nat) c,d[b]? =some c->fD e f c (a.getD b Go.undef)
def gJ.ext{c d:af Obj}{f g:Mu}{e:List T}{a:List am}(b:gJ c f e a)(k:Ext c f d g):gJ d g e a:=
 ⟨b.1,λi j h=>(b.2 i j h).ext k⟩
def gJ.nil{b:af Obj}{c:Mu}:gJ b c [] []:=⟨rfl,λd e a=>by simp at a⟩
def gJ.cons{b:af Obj}{d:Mu}{h:T}{e:am}{i:List T}{f:List am}(j:fD b d h e)(g:gJ b d i f):gJ b d (h::i) (e::f):=by
 refine⟨by simp[g.1],λc k a=> ?_⟩;cases c with
 |zero=>simp at a;subst a;simpa using j
 |succ c=>simp at a;simpa using g.2 c k a
def gJ.mz{d:af Obj}{f:Mu}{e:T}{g:List T}{c:List am}(h:gJ d f (e::g) c):∃a b,c=a::b/\fD d f e a/\gJ d f g b:=by
 obtain⟨hl,hr⟩:=h;cases c with
 |nil=>simp at hl
 |cons a b=>exact⟨a,b,rfl,by simpa using hr 0 e dC,by simpa using hl,λj k i=>by simpa using hr (j+1) k (by simpa using i)⟩
def gJ.append{c:af Obj}{d:Mu}{a g:List T}{b e:List am}(f:gJ c d a b)(h:gJ c d g e):gJ c d (a++g) (b++e):=by
 induction a generalizing b with
 |nil=>obtain⟨hl,_⟩:=f;simp at hl;rw[bj hl.symm];simpa using h
 |cons n a k=>obtain⟨l,m,rfl,j,i⟩:=f.mz;exact gJ.cons j (k i)
def gJ.take{e:af Obj}{f:Mu}{a:List T}{c:List am}(d:gJ e f a c)(b:Nat):gJ e f (a.take b) (c.take b):=by
 induction b generalizing a c with
 |zero=>simpa using gJ.nil
 |succ b i=>cases a with
  |nil=>obtain⟨hl,_⟩:=d;simp at hl;rw[bj hl.symm];simpa using gJ.nil
  |cons l a=>obtain⟨j,k,rfl,h,g⟩:=d.mz;exact gJ.cons h (i g)
def gJ.drop{e:af Obj}{f:Mu}{a:List T}{c:List am}(d:gJ e f a c)(b:Nat):gJ e f (a.drop b) (c.drop b):=by
 induction b generalizing a c with
 |zero=>simpa using d
 |succ b h=>cases a with
  |nil=>obtain⟨hl,_⟩:=d;simp at hl;rw[bj hl.symm];simpa using gJ.nil
  |cons k a=>obtain⟨i,j,rfl,_,g⟩:=d.mz;simpa using h g
def gJ.get{f:af Obj}{h:Mu}{b:List T}{a:List am}(d:gJ f h b a){k:Nat}{v:T}(g:b[k]? =some v):∃c,a[k]? =some c/\fD f h v c:=by
 have e:k<a.length:=by
  rw[<-d.1];rcases aF k b.length with j|i
  ·exact j
  ·simp[aM i]at g
 refine⟨a[k],by simp[e],?_⟩;simpa[List.getD,e]using d.2 k v g
def rE{d:af Obj}{f:Mu}{b:T}{a:am}(c:fD d f b a)(e:b.scalar=true):a.oneCell'=true:=by
 cases c<;>first|rfl|(simp[T.scalar]at e)
def fD.cells{p:af Obj}{r:Mu}{b:T}{c:am}(d:fD p r b c)(C:b.im=true):
 gJ p r b.cells c.cells.toList/\(∀e∈b.cells,e.scalar=true)/\∀e∈c.cells.toList,e.oneCell'=true:=by
 have a:∀{b:T} {c:am},fD p r b c->b.scalar=true->b.cells=[b]->c.cells= #[c]->
  gJ p r b.cells c.cells.toList/\(∀e∈b.cells,e.scalar=true)/\∀e∈c.cells.toList,e.oneCell'=true:=by
  intro b c d f A j;rw[A,j];refine⟨gJ.cons d gJ.nil,?_,?_⟩
  ·intro e l;simp at l;rw[l];exact f
  ·intro e l;simp at l;rw[l];exact rE d f
 cases d with
 |agg n s f j hr=>
  have K:gJ p r n s.toList:=⟨by simp[f],λm b A=>by simpa[aZ,List.getD]using hr m b A⟩;refine⟨K,j,?_⟩;intro e O;have l:e∈s.toList:=O;obtain⟨m,y,rfl⟩:=List.getElem_of_mem l;have D:m<n.length:=by simp at y;omega
  have:=hr m n[m] (by simp[D]);have J:=rE this (j _ (aC D));simp at y;simpa[aZ,y]using J
 |undef=>simp[T.im]at C
 |tuple=>simp[T.im]at C
 |bool h=>exact a (.bool h) rfl rfl rfl
 |int m R=>exact a (.int m R) rfl rfl rfl
 |str U i=>exact a (.str U i) rfl rfl rfl
 |kw=>exact a .kw rfl rfl rfl
 |ptr h v B P k g i w L=>exact a (.ptr h v B P k g i w L) rfl rfl rfl
 |jB n t off arr q fz z x f j hr=>exact a (.jB n t off arr q fz z x f j hr) rfl rfl rfl
 |nM o g=>exact a (.nM o g) rfl rfl rfl
 |dN G H o t off u V arr q fz z x hl M N f j hr=>exact a (.dN G H o t off u V arr q fz z x hl M N f j hr) rfl rfl rfl
 |gu g u=>exact a (.gu g u) rfl rfl rfl
 |arr h v S Q o k g F i w hl d=>exact a (.arr h v S Q o k g F i w hl d) rfl rfl rfl
 |func I E s f hr=>exact a (.func I E s f hr) rfl rfl rfl
 |kK=>exact a .kK rfl rfl rfl
 |kM=>exact a .kM rfl rfl rfl
 |iface q b c d=>exact a (.iface q b c d) rfl rfl rfl
 |iter h k g i d=>exact a (.iter h k g i d) rfl rfl rfl
 |map h k B i d=>exact a (.map h k B i d) rfl rfl rfl
 |nR=>exact a .nR rfl rfl rfl
structure zg(hp:af Obj)(μ:Mu)(L:Loc)(tz:Bool)(eZ:List T):Prop where
 row:∃arr t,hp[L.iR]? =some (.cells arr t (0,0))/\arr.size=L.cap*L.sz/\gJ hp μ (fx eZ) (arr.toList.take (fx eZ).length)
 room:eZ.length<=L.cap
 tz:tz=true->L.cap=eZ.length
 size:∀v∈eZ,v.cells.length=L.sz
 scalar:∀v∈fx eZ,v.scalar=true
def abK(c:af Obj)(i:Mu)(j:Loc)(e:List T):Prop:=
 ∃a:af MapEntry,c[j.iR]? =some (.map a a.size)/\a.size=e.length/\
  ∀(d:Nat) h,e[d]? =some h->∃f g b,h= .tuple [f,g]/\a[d]? =some b/\b.born=d/\fD c i f b.key/\fD c i g b.val
def abL(c:af Obj)(i:Mu)(g:Loc)(h:List T):Prop:=
 ∃e d f b a,h=[.map e,.int .i64 (.ofNat f),.int .i64 (.ofNat b),.int .i64 (.ofNat a)]/\fD c i (.map e) (.map (some d))/\b<=a/\
  c[g.iR]? =some (.mapIter (some d) b (Array.range f) a)
structure qI(hp:af Obj)(μ:Mu)(L:Loc)(x:iY):Prop where
 ep:x.ep=L.ep
 sz:x.sz=L.sz
 plain:x.it=false->zg hp μ L x.exact x.eZ
 iter:x.it=true->x.ep=0/\((∃s pos,x.eZ=[.str s,.int .i64 (.ofNat pos)]/\(∀c∈s,c<256)/\hp[L.iR]? =some (.stringIter (bytesOf s) pos))\/abK hp μ L x.eZ\/abL hp μ L x.eZ)
structure St(cx:Ctx)(base:Nat)(hp:af Obj)(μ:Mu)(h:H):Prop where
 wf:h.fy.length=h.size
 fit:base<=hp.size
 box:∀b L,μ b=some L->∃x,h.get b=some x/\qI hp μ L x
 inj:∀b b' L L',μ b=some L->μ b'=some L'->L.iR=L'.iR->b=b'
 low:∀b L,μ b=some L->base<=L.iR
 apart:∀b L,μ b=some L->¬μ.pi L.iR
 qF:∀i,μ.pi i->i<hp.size
 yM:∀g cs,cx.gl g=some cs->fD hp μ (.jB cs) (.pointer (some ⟨g,0,none⟩))
def zg.ext{c d:af Obj}{g h:Mu}{b:Loc}{f:Bool}{e:List T}(a:zg c g b f e)(j:Ext c g d h)(n:d[b.iR]? =c[b.iR]?):zg d h b f e:=by
 obtain⟨i,o,k,l,m⟩:=a.row;exact⟨⟨i,o,n.trans k,l,m.ext j⟩,a.room,a.tz,a.size,a.scalar⟩
def qI.ext{k l:af Obj}{n o:Mu}{e:Loc}{i:iY}(g:qI k n e i)(f:Ext k n l o)(h:l[e.iR]? =k[e.iR]?):qI l o e i:=
 ⟨g.ep,g.sz,λd=>(g.plain d).ext f h,λd=>by
   obtain⟨j,⟨C,m,a,b,c⟩|⟨q,a,b,c⟩|⟨A,z,m,D,p,a,b,c,w⟩⟩:=g.iter d
   ·exact⟨j,.inl ⟨C,m,a,b,h.trans c⟩⟩
   ·refine⟨j,.inr (.inl ⟨q,h.trans a,b,λy i x=> ?_⟩)⟩;obtain⟨d,E,B,r,s,t,u,v⟩:=c y i x;exact⟨d,E,B,r,s,t,u.ext f,v.ext f⟩
   ·exact⟨j,.inr (.inr ⟨A,z,m,D,p,a,b.ext f,c,h.trans w⟩)⟩⟩
def qI.lt{e:af Obj}{i:Mu}{b:Loc}{f:iY}(c:qI e i b f):b.iR<e.size:=by
 cases d:f.it with
 |false=>obtain⟨j,m,a,_⟩:=(c.plain d).row;exact pz a
 |true=>
  obtain⟨_,⟨s,l,_,_,g⟩|⟨k,a,_⟩|⟨_,_,_,_,_,_,_,_,h⟩⟩:=c.iter d
  ·exact pz g
  ·exact pz a
  ·exact pz h
def St.lt{cx:Ctx}{e:Nat}{c:af Obj}{d:Mu}{f:H}(s:St cx e c d f){b:Nat}{a:Loc}(g:d b=some a):a.iR<c.size:=by
 obtain⟨i,_,h⟩:=s.box b a g;exact h.lt
section
variable {P:ai}{cx:Ctx}
structure uX(P:ai)(t:ab)(ty:Ty):Prop where
 is:∃cmp,U3 P t cmp=some ty
def jJ{a:Nat}(b:a<256):(UInt8.ofNat a).toNat=a:=by
 simp[UInt8.toNat_ofNat'];omega
def M4(a:List UInt8):Aq a=some (a.map UInt8.toNat):=by
 induction a with
 |nil=>rfl
 |cons d a b=>
  show(dV (hU d.toNat) λe=>dV (Aq a) λc=>some (e::c))=_;rw[b];simp
def xp(a:ByteArray):bytesOf (a.data.toList.map UInt8.toNat)=a:=by
 unfold bytesOf;rw[cM];have:(UInt8.ofNat∘UInt8.toNat)=id:=by funext b;simp
 rw[this];simp
def fD.oa{hp:af Obj}{μ:Mu}{d:am}{b:T}(a:oa d=some b):fD hp μ b d/\b.scalar=true:=by
 unfold TI.oa at a;split at a
 ·simp at a;subst a;exact⟨.bool _,rfl⟩
 ·simp at a;subst a;exact⟨.int _ _,rfl⟩
 ·rename_i f;rw[M4]at a;simp at a;subst a;refine⟨?_,rfl⟩;have:=fD.str (hp:=hp) (μ:=μ) (f.data.toList.map UInt8.toNat) (by intro g c;simp at c;obtain⟨e,_,rfl⟩:=c;exact e.toNat_lt);rwa[xp]at this
 ·simp at a;subst a;exact⟨.kw,rfl⟩
 ·simp at a;subst a;exact⟨.nR,rfl⟩
 ·simp at a;subst a;exact⟨.nM _ _,rfl⟩
 ·simp at a;subst a;exact⟨.kK,rfl⟩
 ·simp at a;subst a;exact⟨.kM,rfl⟩
 ·simp at a
def gJ.sO{hp:af Obj}{μ:Mu}{d:List am}{g:List T}(k:fP TI.oa d=some g):gJ hp μ g d/\∀i∈g,i.scalar=true:=by
 obtain⟨hl,j⟩:=rO.1 k;refine⟨⟨hl.symm,λb i f=> ?_⟩,λi f=> ?_⟩
 ·have e:b<d.length:=by
   rcases aF b g.length with a|a
   ·omega
   ·simp[aM a]at f
  obtain⟨m,c,h⟩:=j b d[b] (by simp[e]);rw[f]at c;simp at c;subst c;simpa[List.getD,e]using(fD.oa h).1
 ·obtain⟨b,e,rfl⟩:=List.getElem_of_mem f;have l:b<d.length:=dB;obtain⟨m,c,h⟩:=j b d[b] (by simp[l]);simp[e]at c;subst c;exact(fD.oa (hp:=hp) (μ:=μ) h).2
def fD.xu{e:af Obj}{f:Mu}{a:List T}{b:af am}(d:gJ e f a b.toList)(g:∀c∈a,c.scalar=true):fD e f (.agg a) (.agg b):=
 .agg a b (by simpa using d.1.symm) g λi c h=>by simpa[aZ,List.getD]using d.2 i c h
def fD.yB{hp:af Obj}{μ:Mu}{c:am}{d:T}(a:yB c=some d):fD hp μ d c:=by
 unfold TI.yB at a;split at a
 ·rename_i h;obtain⟨i,e,b⟩:=dL.1 a;simp at b;subst b;obtain⟨f,g⟩:=gJ.sO (hp:=hp) (μ:=μ) e;exact fD.xu f g
 ·exact(fD.oa a).1
def uX.unfold{f:ab}{c:Ty}(a:uX P f c):∃b d g,P.info? f=some b/\P.underlying f=some d/\b.zero=some g/\fP oa g.cells.toList=some c.zero/\
 AW P d=some c.u/\tH d g=true/\c.zero.length=b.size/\b.size=c.size/\b.bytes=c.bytes/\
 (c.cmp=true->P.stoodInHeld f=false/\P.eqGuardType P.depth f=false/\K0 d=true):=by
 obtain⟨p,a⟩:=a.is;unfold U3 at a;obtain⟨b,j,a⟩:=dL.1 a;obtain⟨d,k,a⟩:=dL.1 a;obtain⟨g,l,a⟩:=dL.1 a;obtain⟨r,m,a⟩:=dL.1 a;obtain⟨q,n,a⟩:=dL.1 a;obtain⟨o,a⟩:=dT.1 a;obtain⟨h,a⟩:=dT.1 a;obtain⟨e,a⟩:=dT.1 a;simp at a;rw[<-a];refine⟨b,d,g,j,k,l,m,n,o,?_,rfl,rfl,?_⟩
 ·rw[jH]at h;exact aD h
 ·intro i;simp only[]at i;rw[i]at e;simp at e;exact⟨e.1.1,e.1.2,e.2⟩
def uX.run_sizeOf{a:ab}{b:Ty}(d:uX P a b)(c:World):(sizeOf a).run P c= .ok b.size c:=by
 obtain⟨h,g,i,e,_,_,_,_,_,_,f,_⟩:=d.unfold;simp[sizeOf,typeInfo,e,f]
def uX.run_typeInfo{c:ab}{b:Ty}(e:uX P c b)(d:World):∃a,(typeInfo c).run P d= .ok a d/\a.bytes=b.bytes/\a.size=b.size:=by
 obtain⟨a,i,j,f,_,_,_,_,_,_,g,h,_⟩:=e.unfold;exact⟨a,by simp[typeInfo,f],h,g⟩
def abB:TypeDesc->Bool
 | .struct _| .array _ _=>true
 |_=>false
def zW{b:TypeDesc}{c:Ty}(a:AW P b=some c.u):c.isAgg=abB b:=by
 unfold Ty.isAgg;cases b<;>simp only[AW]at a<;>first|(injection a with a;rw[<-a];rfl)|(split at a<;>simp at a;rw[<-a];rfl)
def uX.tQ{a:ab}{b:Ty}(e:uX P a b)(c:World):(isAgg a).run P c= .ok b.isAgg c:=by
 obtain⟨h,d,i,_,f,_,_,g,_⟩:=e.unfold;rw[zW g];simp only[isAgg,Sem.run_bind,run_underlying f,Result.andThen_ok];cases d<;>rfl
def uX.zero{s:ab}{a:Ty}(e:uX P s a)(t:World):∃b,(zeroValue s).run P t= .ok b t/\(∀hp μ,fD hp μ a.kl b)/\(∀hp μ,gJ hp μ a.zero b.cells.toList)/\
 (∀z∈a.zero,z.scalar=true)/\a.zero.length=a.size/\a.kl.cells=a.zero/\a.kl.im=true/\b.cells.size=a.size:=by
 obtain⟨H,n,b,u,D,v,f,o,g,E,F,G,_⟩:=e.unfold;have h:=(gJ.sO (hp:= #[]) (μ:=⟨λ_=>none,λ_=>False⟩) f).2;have l:a.zero.length=b.cells.size:=by
  have:=(gJ.sO (hp:= #[]) (μ:=⟨λ_=>none,λ_=>False⟩) f).1.1;simpa using this
 refine⟨b,by simp[zeroValue,typeInfo,u,v],?_,λhp μ=>(gJ.sO f).1,h,dB,?_⟩
 ·intro hp μ;have d:=(gJ.sO (hp:=hp) (μ:=μ) f).1;unfold Ty.kl;rw[zW o];cases n with
  |struct C=>cases b with
   |agg m=>exact fD.xu d h
   |_=>simp[tH]at g
  |array I B=>cases b with
   |agg m=>exact fD.xu d h
   |_=>simp[tH]at g
  |_=>
   have i:b.cells= #[b]:=by cases b<;>simp[tH]at g<;>rfl
   rw[i]at d;obtain⟨hl,_⟩:=d;simp at hl
   match j:a.zero,hl with
   | [c],_=>
    have d:=(gJ.sO (hp:=hp) (μ:=μ) f).1;rw[i,j]at d;obtain⟨A,m,q,x,_⟩:=d.mz;simp at q;show fD hp μ c b;rw[q.1];exact x
 ·have p:=zW o;have w:(a.isAgg=true/\a.kl= .agg a.zero)\/(a.isAgg=false/\∃c,a.zero=[c]/\a.kl=c/\c.scalar=true):=by
   cases k:a.isAgg with
   |true=>left;exact⟨rfl,by unfold Ty.kl;rw[k]⟩
   |false=>
    right;refine⟨rfl,?_⟩;have i:b.cells= #[b]:=by
     rw[k]at p;cases n<;>simp[abB]at p<;>cases b<;>simp[tH]at g<;>rfl
    rw[i]at l;simp at l
    match j:a.zero,l with
    | [c],_=>exact⟨c,rfl,by unfold Ty.kl;rw[k,j];rfl,h c (by simp[j])⟩
  rcases w with⟨_,e⟩|⟨_,c,y,e,r⟩
  ·rw[e];exact⟨rfl,rfl,dB⟩
  ·rw[e,y];refine⟨?_,?_,dB⟩
   ·cases c<;>simp[T.scalar]at r<;>rfl
   ·cases c<;>simp[T.scalar]at r<;>rfl
structure jd(P:ai)(cx:Ctx):Prop where
 ty:∀t ty,cx.ty t=some ty->uX P t ty
def kt(d:af Obj)(g:Mu)(e:Nat)(c:Env)(f:af am):Prop:=
 ∀a b,c.get e a=some b->fD d g b (f.getD a Go.undef)
def kt.ext{b c:af Obj}{f g:Mu}{d:Nat}{a:Env}{e:af am}(h:kt b f d a e)(l:Ext b f c g):kt c g d a e:=
 λj k i=>(h j k i).ext l
def gU{k:Nat}{c:af Obj}{e:Mu}{n:H}{j:Nat}{g:Env}{f:Act}(r:St cx k c e n)(q:kt c e j g f.tmps){d:ah}{a:T}
 (b:fR cx j g d=some a):fD c e a (f.eval d):=by
 cases d with
 |tmp s=>exact q s a b
 |const t=>exact fD.yB b
 |global m=>
  obtain⟨l,o,i⟩:=dL.1 b;simp at i;subst i;exact r.yM m l o
 |func h=>
  have:T.func h []=a:=by simpa[fR]using b
  subst this;exact .func h [] #[] rfl λu a p=>by simp at p
def vM{i:Nat}{c:af Obj}{e:Mu}{j:H}{h:Nat}{g:Env}{f:Act}(o:St cx i c e j)(n:kt c e h g f.tmps){b:List ah}{d:List T}
 (a:pZ cx h g b=some d):gJ c e d (b.map f.eval):=by
 induction b generalizing d with
 |nil=>simp[pZ]at a;subst a;exact gJ.nil
 |cons p b m=>
  unfold pZ at a;rw[jK]at a;obtain⟨r,k,a⟩:=dL.1 a;obtain⟨q,l,a⟩:=dL.1 a;simp at a;subst a;exact gJ.cons (gU o n k) (m l)
end
end
noncomputable section
section inv
variable {hp:af Obj}{μ:Mu}{c:am}
def fD.qj{b:Bool}(h:fD hp μ (.bool b) c):c= .bool b:=by cases h;rfl
def fD.jV{b:ak}{d:Int}(h:fD hp μ (.int b d) c):c= .int b d:=by cases h;rfl
def fD.lJ{b:List Nat}(h:fD hp μ (.str b) c):c= .string (bytesOf b)/\∀d∈b,d<256:=by cases h;exact⟨rfl,by assumption⟩
def fD.qh(h:fD hp μ .kw c):c= .pointer none:=by cases h;rfl
def fD.pJ{f d g i:Nat}(h:fD hp μ (.ptr f d g i) c):∃b a,c= .pointer (some a)/\μ f=some b/\d<=b.ep/\(d=b.ep->a=⟨b.iR,g*b.sz+i,none⟩):=by
 cases h with|ptr _ _ _ _ b a k l j=>exact⟨b,a,rfl,k,l,j⟩
def fD.lO{f:List T}(h:fD hp μ (.jB f) c):∃d off b i fz,c= .pointer (some ⟨d,off,none⟩)/\¬nz μ d/\hp[d]? =some (.cells b i fz)/\
 off+f.length<=b.size/\(∀g∈f,vj g)/\∀(j:Nat) g,f[j]? =some g->fD hp μ g (b.getD (off+j) Go.undef):=by
 cases h with|jB _ d off b i fz m l n k hr=>exact⟨d,off,b,i,fz,rfl,m,l,n,k,hr⟩
def fD.sS{j g o f:Nat}{i:Bool}(h:fD hp μ (.arr j g o f i) c):∃b a d,c= .slice a f d/\μ j=some b/\g<=b.ep/\f<=d/\
 (g=b.ep->(i=true->d=f)/\(i=false->o+d=b.cap)/\(d≠0->a=some ⟨b.iR,o*b.sz,none⟩)):=by
 cases h with|arr _ _ _ _ _ b a d k l hl h=>exact⟨b,a,d,rfl,k,l,hl,h⟩
def fD.z8(h:fD hp μ .gu c):∃a b,c= .slice a 0 b:=by cases h;exact⟨_,_,rfl⟩
def fD.uj{b:Bool}(h:fD hp μ (.dN [] b) c):∃a,c= .slice a 0 0:=by cases h;exact⟨_,rfl⟩
def fD.uk{j:T}{b:List T}{m:Bool}(h:fD hp μ (.dN (j::b) m) c):∃g off i k f l fz,c= .slice (some ⟨g,off,none⟩) (b.length+1) i/\¬nz μ g/\
 hp[g]? =some (.cells f l fz)/\b.length+1<=i/\(m=true->i=b.length+1)/\(∀d∈j::b,d.cells.length=k)/\off+(fx (j::b)).length<=f.size/\
 (∀d∈fx (j::b),vj d)/\∀(n:Nat) d,(fx (j::b))[n]? =some d->fD hp μ d (f.getD (off+n) Go.undef):=by
 cases h with|dN _ _ _ g off i k f l fz s r hl q u t p hr=>exact⟨g,off,i,k,f,l,fz,rfl,s,r,hl,q,u,t,p,hr⟩
def fD.rU{f:aj}{d:List T}(h:fD hp μ (.func f d) c):∃b,c= .func (.func f) #[] b/\gJ hp μ d b.toList:=by
 cases h with|func _ _ b g hr=>exact⟨b,rfl,by simpa using g.symm,λj k i=>by simpa[aZ,List.getD]using hr j k i⟩
def fD.um(h:fD hp μ .kK c):c= .nilFunc:=by cases h;rfl
def fD.ul(h:fD hp μ .kM c):c= .nilIface:=by cases h;rfl
def fD.wI{b:ab}{f:T}(h:fD hp μ (.iface b f) c):∃d,c= .iface b d:=by cases h;exact⟨_,rfl⟩
def fD.PF{d:Nat}(h:fD hp μ (.iter d) c):∃b a,c= .pointer (some a)/\μ d=some b/\(b.ep=0->a=⟨b.iR,0,none⟩):=by
 cases h with|iter _ b a f h=>exact⟨b,a,rfl,f,h⟩
def fD.pK{d:List T}(h:fD hp μ (.agg d) c):∃b,c= .agg b/\gJ hp μ d b.toList/\∀f∈d,f.scalar=true:=by
 cases h with|agg _ b i g hr=>exact⟨b,rfl,⟨by simpa using i.symm,λk f j=>by simpa[aZ,List.getD]using hr k f j⟩,g⟩
def fD.z7{d:List T}(h:fD hp μ (.tuple d) c):∃b,c= .tuple b/\gJ hp μ d b.toList:=by
 cases h with|tuple _ b f hr=>exact⟨b,rfl,by simpa using f.symm,λi j g=>by simpa[aZ,List.getD]using hr i j g⟩
end inv
section
variable {P:ai}{cx:Ctx}{base:Nat}{w:World}{μ:Mu}{h:H}{mask:Nat}{e:Env}{a:Act}{o:Oper}
def ye(μ g:Mu)(d f:Nat):Prop:=d<=f/\(∀b,g b≠none->μ b≠none\/(d<=b/\b<f))/\∀b,d<=b->b<f->g b≠none
def ye.refl(μ:Mu)(b:Nat):ye μ μ b b:=⟨au _,λ_ h=> .inl h,λf g d=>absurd d dB⟩
def ye.trans{hp s t:af Obj}{μ i j:Mu}{k g l:Nat}(h:ye μ i k g)(d:ye i j g l)(x:Ext s i t j):ye μ j k l:=by
 have v:=h.1;have z:=d.1;refine⟨aS h.1 d.1,λb f=> ?_,λb f q=> ?_⟩
 ·rcases d.2.1 b f with x|x
  ·rcases h.2.1 b x with y|y
   ·exact .inl y
   ·exact .inr ⟨y.1,dB⟩
  ·exact .inr ⟨dB,x.2⟩
 ·by_cases r:b<g
  ·obtain⟨m,n⟩:=Option.ne_none_iff_exists'.1 (h.2.2 b f r);obtain⟨u,p,_⟩:=x.mu b m n;rw[p];simp
  ·exact d.2.2 b dB q
def jm(cx:Ctx)(base:Nat)(w:World)(μ:Mu)(i:Nat)(g:Result Next)(j:T)(f:H):Prop:=
 ∃c b d,(g= .ok (.value c) b\/(g= .ok .skip b/\c=Go.undef))/\fD b.heap d j c/\St cx base b.heap d f/\pI w μ b d/\ye μ d i f.size
def jm.pure{b:Result Next}{d:T}{c:am}(g:St cx base w.heap μ h)(hr:b= .ok (.value c) w)(f:fD w.heap μ d c):jm cx base w μ h.size b d h:=
 ⟨c,w,μ,.inl hr,f,g,pI.refl _ _,ye.refl _ _⟩
def fW{h d:H}{b:aa T}{f:T}:val h b=some (.val f d)↔b=some f/\d=h:=by
 unfold val;cases b with
 |none=>simp
 |some g=>simp;intro _;exact eq_comm
def At{h:H}{b:aa T}{f:aj}{d:List T}:val h b≠some (.call f d):=by
 unfold val;cases b<;>simp
def AM{d:ah}(g:St cx base w.heap μ h)(l:kt w.heap μ mask e a.tmps)(b:o.op= .move d\/o.op= .assign d){i:T}{f:H}
 (j:CA d cx mask e h=some (.val i f)):jm cx base w μ h.size ((execOp a.eval o).run P w) i f:=by
 obtain⟨k,rfl⟩:=fW.1 j;refine jm.pure g ?_ (gU g l k);rcases b with b|b<;>simp[execOp,b]
def HU{c n p:ah}(d:St cx base w.heap μ h)(i:kt w.heap μ mask e a.tmps)(l:o.op= .pick c n p){m:T}{j:H}
 (b:EP c n p cx mask e h=some (.val m j)):jm cx base w μ h.size ((execOp a.eval o).run P w) m j:=by
 obtain⟨f,q,b⟩:=dL.1 b;have r:=gU d i q;cases f<;>simp at b;rename_i f;have k:=r.qj;cases f with
 |false=>
  obtain⟨g,rfl⟩:=fW.1 b;exact jm.pure d (by simp[execOp,l,k,asBool]) (gU d i g)
 |true=>
  obtain⟨g,rfl⟩:=fW.1 b;exact jm.pure d (by simp[execOp,l,k,asBool]) (gU d i g)
def AZ{l:ah}(g:St cx base w.heap μ h)(p:kt w.heap μ mask e a.tmps)(i:o.op= .nilCheck l){k:T}{j:H}
 (f:rk l cx mask e h=some (.val k j)):jm cx base w μ h.size ((execOp a.eval o).run P w) k j:=by
 obtain⟨m,n,f⟩:=dL.1 f;have d:=gU g p n;cases m<;>simp at f
 ·obtain⟨rfl,rfl⟩:=f;obtain⟨q,r,b,_⟩:=d.pJ;exact jm.pure g (by simp[execOp,i,b]) (b▸d)
 ·obtain⟨rfl,rfl⟩:=f;obtain⟨t,off,s,v,fz,b,_⟩:=d.lO;exact jm.pure g (by simp[execOp,i,b]) (b▸d)
 ·obtain⟨rfl,rfl⟩:=f;obtain⟨u,b,_⟩:=d.rU;exact jm.pure g (by simp[execOp,i,b]) (b▸d)
def FJ(iZ:jd P cx){d:ab}{g:ah}(p:St cx base w.heap μ h)(B:kt w.heap μ mask e a.tmps)(x:o.op= .makeInterface d g){f:T}{k:H}
 (b:Ag d g cx mask e h=some (.val f k)):jm cx base w μ h.size ((execOp a.eval o).run P w) f k:=by
 obtain⟨q,y,b⟩:=dL.1 b;obtain⟨F,j,G,C,s,D,E,l,_⟩:=(iZ.ty d q y).unfold;have A:∀{i:H},(dV (fR cx mask e g) λa=>gh a.im (val h (some (.iface d a))))=some (.val f i)->(∀n,j≠ .interface n)->jm cx base w μ h.size ((execOp a.eval o).run P w) f i:=by
  intro i b v;obtain⟨r,t,b⟩:=dL.1 b;obtain⟨_,b⟩:=dT.1 b;obtain⟨m,rfl⟩:=fW.1 b;simp at m;subst m;refine jm.pure (c:= .iface d (a.eval g)) p ?_ (.iface d r _ (gU p B t));simp only[execOp,x,Instr.makeInterface,Sem.run_bind,run_underlying s,Result.andThen_ok];cases j<;>first|rfl|exact absurd rfl (v _)
 cases z:q.u<;>rw[z]at b l<;>first|(exact A b (by rintro n rfl;simp[AW]at l))|(simp at b)
def HZ{j:Fn}{first g:af ah}(m:St cx base w.heap μ h)(t:kt w.heap μ mask e a.tmps)(r:o.op= .makeFunc j first g){f:T}{k:H}
 (b:CB j first g cx mask e h=some (.val f k)):jm cx base w μ h.size ((execOp a.eval o).run P w) f k:=by
 unfold CB at b;split at b
 ·rename_i i;split at b
  ·rename_i q;obtain⟨n,p,b⟩:=dL.1 b;obtain⟨d,rfl⟩:=fW.1 b;simp at d;subst d;have l:=vM m t p;refine jm.pure (c:= .func (.func i) #[] (g.map a.eval)) m ?_ (.func i n _ (by simpa using l.1.symm) λs f d=> ?_)
   ·have:first= #[]:=by cases first;simpa using q
    simp[execOp,r,Instr.makeFunc,this]
   ·have:=l.2 s f d;simpa[aZ,List.getD]using this
  ·simp at b
 ·simp at b
def CC{k:ah}{g:Nat}(i:St cx base w.heap μ h)(u:kt w.heap μ mask e a.tmps)(r:o.op= .extract k g){j:T}{d:H}
 (b:un k g cx mask e h=some (.val j d)):jm cx base w μ h.size ((execOp a.eval o).run P w) j d:=by
 obtain⟨l,n,b⟩:=dL.1 b;have p:=gU i u n;cases l<;>simp at b;obtain⟨t,rfl⟩:=fW.1 b;obtain⟨v,s,m⟩:=p.z7;obtain⟨c,f,q⟩:=m.get t;exact jm.pure i (by simp only[execOp,r,s,Instr.extract];simp at f;simp[f]) q
end
end
noncomputable section
section
variable {P:ai}{cx:Ctx}{base:Nat}{w:World}{μ:Mu}{h:H}{mask:Nat}{e:Env}{a:Act}{o:Oper}{hp:af Obj}
def uO{j k i:T}{f:ak->Int->Int->aa T}(h:wS j k f=some i):∃b c d,j= .int b c/\k= .int b d/\f b c d=some i:=by
 unfold wS at h;split at h
 ·rename_i b c;split at h
  ·rename_i m d;obtain⟨g,l⟩:=dT.1 h;rw[xQ]at g;subst g;exact⟨b,c,d,rfl,rfl,l⟩
  ·simp at h
 ·simp at h
def vC{j k i:T}{g:ak->Int->Nat->aa T}(h:zo j k g=some i):∃c d f b,j= .int c d/\k= .int f (.ofNat b)/\g c d (min b c.bits)=some i:=by
 unfold zo at h;split at h
 ·rename_i c d;split at h
  ·rename_i f b;cases b with
   |ofNat b=>exact⟨c,d,f,b,rfl,rfl,h⟩
   |negSucc b=>simp at h
  ·simp at h
 ·simp at h
def Gl{k l j:T}{m:Int->Int->Bool}{n:List Nat->List Nat->Bool}(h:Kb k l m n=some j):
 (∃b c d,k= .int b c/\l= .int b d/\j= .bool (m c d))\/(∃f g,k= .str f/\l= .str g/\j= .bool (n f g)):=by
 unfold Kb at h;split at h
 ·rename_i b c;split at h
  ·rename_i q d;obtain⟨p,i⟩:=dT.1 h;rw[xQ]at p;subst p;rw[rK]at i;simp at i;exact .inl ⟨b,c,d,rfl,rfl,i.symm⟩
  ·simp at h
 ·rename_i f;split at h
  ·rename_i g;rw[rK]at h;simp at h;exact .inr ⟨f,g,rfl,rfl,h.symm⟩
  ·simp at h
 ·simp at h
def oy(b:List Nat):(bytesOf b).toList=b.map UInt8.ofNat:=by
 rw[ByteArray.toList_eq];rfl
def jU(b:List Nat):(bytesOf b).size=b.length:=by simp[bytesOf,ByteArray.size]
def ofNat_inj{b c:Nat}(d:b<256)(f:c<256)(h:UInt8.ofNat b=UInt8.ofNat c):b=c:=by
 have:=bP UInt8.toNat h;rwa[jJ d,jJ f]at this
def Dy{c b:List Nat}(i:∀d∈c,d<256)(ht:∀d∈b,d<256)(h:c.map UInt8.ofNat=b.map UInt8.ofNat):c=b:=by
 induction c generalizing b with
 |nil=>cases b with
  |nil=>rfl
  |cons j b=>simp at h
 |cons d c k=>cases b with
  |nil=>simp at h
  |cons j b=>
   simp only[aT,aK]at h;rw[ofNat_inj (i d dC) (ht j dC) h.1,k (λg f=>i g (by simp[f])) (λg f=>ht g (by simp[f])) h.2]
def yP{b c:List Nat}(f:∀d∈b,d<256)(ht:∀d∈c,d<256):((bytesOf b).toList==(bytesOf c).toList)=UE b c:=by
 rw[F7,oy,oy,br,beq_iff_eq,beq_iff_eq];exact⟨Dy f ht,λh=>by rw[h]⟩
def Cj(b:Nat)(d:List Nat)(c:Nat)(f:List Nat):Rj (b::d) (c::f)=(decide (b<c)||(b==c&&Rj d f)):=by
 show @Bool.rec (λ_=>Bool) (@Bool.rec (λ_=>Bool) false (Rj d f) (Nat.beq b c)) true (Nat.blt b c)=_;have g:Nat.blt b c=decide (b<c):=by rw[br,aH];simp
 have i:Nat.beq b c=(b==c):=by rw[br,Nat.beq_eq];simp
 rw[g,i];cases decide (b<c)<;>cases (b==c)<;>rfl
def yG{d c:List Nat}(j:∀b∈d,b<256)(ht:∀b∈c,b<256):Op.bytesLess (bytesOf d).toList (bytesOf c).toList=Rj d c:=by
 rw[oy,oy];induction d generalizing c with
 |nil=>cases c<;>rfl
 |cons b d p=>cases c with
  |nil=>rfl
  |cons f c=>
   have k:=j b dC;have l:=ht f dC;rw[Cj];simp only[aT,Op.bytesLess];rw[p (λi g=>j i (by simp[g])) (λi g=>ht i (by simp[g]))];have m:(decide (UInt8.ofNat b<UInt8.ofNat f))=decide (b<f):=by
    rw[br,decide_eq_true_iff,decide_eq_true_iff,UInt8.lt_iff_toNat_lt,jJ k,jJ l]
   have n:(UInt8.ofNat b==UInt8.ofNat f)=(b==f):=by
    rw[br,beq_iff_eq,beq_iff_eq];exact⟨ofNat_inj k l,λh=>by rw[h]⟩
   rw[m,n]
def EE(c b:List Nat):(Rj c b||UE c b)= !Rj b c:=by
 induction c generalizing b with
 |nil=>cases b<;>rfl
 |cons d c m=>cases b with
  |nil=>rfl
  |cons f b=>
   rw[Cj,Cj,F7,List.cons_beq_cons,<-F7];have:=m b;rcases cW d f with l|j|k
   ·have g:¬f<d:=dB;have i:(f==d)=false:=dD;simp[l,g,i]
   ·subst j;simpa using this
   ·have g:¬d<f:=dB;have i:(d==f)=false:=dD;simp[k,g,i]
def C5(b c:List Nat):bytesOf (b++c)=bytesOf b++bytesOf c:=by
 apply ByteArray.ext;simp[bytesOf,ByteArray.data_append]
def Is{p:BinOp}{i q l:T}{y A:am}(x:ab)(S:p≠ .eql)(U:p≠ .neq)(u:fD hp μ i y)(v:fD hp μ q A)(b:binop p i q=some l):
 ∃j,(binOp p x y A).run P w= .ok j w/\fD hp μ l j:=by
 have gD:∀{t:ak->Int->Int->aa T},wS i q t=some l->
  (∀k d c,t k d c=some l->∃j,(binOp p x (.int k d) (.int k c)).run P w= .ok j w/\fD hp μ l j)->∃j,(binOp p x y A).run P w= .ok j w/\fD hp μ l j:=by
  intro t I R;obtain⟨k,d,c,rfl,rfl,m⟩:=uO I;rw[u.jV,v.jV];exact R k d c m
 have z:∀{t:Int->Int->Bool} {G:List Nat->List Nat->Bool},Kb i q t G=some l->
  (∀k d c,(binOp p x (.int k d) (.int k c)).run P w= .ok (.bool (t d c)) w)->
  (∀f g,(∀i∈f,i<256)->(∀i∈g,i<256)->(binOp p x (.string (bytesOf f)) (.string (bytesOf g))).run P w= .ok (.bool (G f g)) w)->∃j,(binOp p x y A).run P w= .ok j w/\fD hp μ l j:=by
  intro t G I B m;rcases Gl I with⟨k,d,c,rfl,rfl,rfl⟩|⟨f,g,rfl,rfl,rfl⟩
  ·rw[u.jV,v.jV];exact⟨_,B k d c,.bool _⟩
  ·obtain⟨E,C⟩:=u.lJ;obtain⟨F,D⟩:=v.lJ;rw[E,F];exact⟨_,m f g C D,.bool _⟩
 cases p with
 |eql=>exact absurd rfl S
 |neq=>exact absurd rfl U
 |add=>
  have b:Tm i q=some l:=b;by_cases M:∃f,i= .str f
  ·obtain⟨f,rfl⟩:=M;by_cases N:∃g,q= .str g
   ·obtain⟨g,rfl⟩:=N;have b:(dV (Eb f g) λL=>gh (Nat.ble (kR L) 4294967296) (some (T.str L)))=some l:=b;obtain⟨L,B,b⟩:=dL.1 b;obtain⟨hl,b⟩:=dT.1 b;simp at B b;subst B;subst b;have hl:=bw hl;rw[jH,aU]at hl;obtain⟨E,C⟩:=u.lJ;obtain⟨F,D⟩:=v.lJ;rw[E,F];refine⟨.string (bytesOf (f++g)),?_,.str _ (by intro j n;rcases List.mem_append.1 n with k|k;exact C j k;exact D j k)⟩;rw[C5];have Q:¬(((bytesOf f).size+(bytesOf g).size:Nat):Int)>IntKind.i64.max:=by
     rw[jU,jU];have:IntKind.i64.max=9223372036854775807:=dF;rw[this];omega
    simp only[binOp,Op.stringOp,Q,bo,Sem.run_pure]
   ·exfalso;unfold Tm at b;cases q<;>first|(simp at b;done)|exact N ⟨_,rfl⟩
  ·have b:wS i q (λk a O=>pU k (a+O))=some l:=by
    unfold Tm at b;cases i<;>first|exact b|exact absurd ⟨_,rfl⟩ M
   refine gD b λk d c h=> ?_;rw[yo]at h;simp at h;subst h;exact⟨_,by simp[binOp,Op.intArith],.int _ _⟩
 |sub=>
  refine gD b λk d c h=> ?_;rw[yo]at h;simp at h;subst h;exact⟨_,by simp[binOp,Op.intArith],.int _ _⟩
 |mul=>
  refine gD b λk d c h=> ?_;rw[yo]at h;simp at h;subst h;exact⟨_,by simp[binOp,Op.intArith],.int _ _⟩
 |quo=>
  refine gD b λk d c h=> ?_;cases n:Rk c 0 with
  |true=>rw[n]at h;simp at h
  |false=>
   rw[n]at h;have K:¬c=0:=by rw[xU]at n;simpa using n
   simp only[yo]at h;simp at h;subst h;exact⟨_,by simp[binOp,Op.intDiv,K],.int _ _⟩
 |rem=>
  refine gD b λk d c h=> ?_;cases n:Rk c 0 with
  |true=>rw[n]at h;simp at h
  |false=>
   rw[n]at h;have K:¬c=0:=by rw[xU]at n;simpa using n
   simp only[oH]at h;simp at h;subst h;exact⟨_,by simp[binOp,Op.intDiv,K],.int _ _⟩
 |and=>
  refine gD b λk d c h=> ?_;rw[oH]at h;simp only[ar]at h;subst h;exact⟨_,by simp[binOp,Op.intBits],.int _ _⟩
 |or=>
  refine gD b λk d c h=> ?_;rw[oH]at h;simp only[ar]at h;subst h;exact⟨_,by simp[binOp,Op.intBits],.int _ _⟩
 |xor=>
  refine gD b λk d c h=> ?_;rw[oH]at h;simp only[ar]at h;subst h;exact⟨_,by simp[binOp,Op.intBits],.int _ _⟩
 |shl=>
  have b:zo i q (λk a c=>xE k (k.wrap (a*2^c)))=some l:=b;obtain⟨k,d,V,c,rfl,rfl,m⟩:=vC b;rw[u.jV,v.jV];rw[oH]at m;simp only[ar]at m;subst m;have J:¬((c:Nat):Int)<0:=dB;exact⟨_,by simp[binOp,Op.shift,J],.int _ _⟩
 |shr=>
  have b:zo i q (λk a c=>xE k (a.fdiv (2^c)))=some l:=b;obtain⟨k,d,V,c,rfl,rfl,m⟩:=vC b;rw[u.jV,v.jV];rw[oH]at m;simp only[ar]at m;subst m;have J:¬((c:Nat):Int)<0:=dB;exact⟨_,by simp[binOp,Op.shift,J],.int _ _⟩
 |lss=>exact z b (λk d c=>by simp[binOp,Op.intCmp,xM]) (λf g r s=>by simp only[binOp,Op.stringOp,yG r s,Sem.run_pure])
 |leq=>exact z b (λk d c=>by simp only[binOp,Op.intCmp,xM,ne_eq,not_true,bo,Sem.run_pure];congr 2;rw[br];simp) (λf g r s=>by simp only[binOp,Op.stringOp,yG r s,yP r s,Sem.run_pure,EE])
 |gtr=>exact z b (λk d c=>by simp[binOp,Op.intCmp,xM]) (λf g r s=>by simp only[binOp,Op.stringOp,yG r s,yP r s,Sem.run_pure,EE,Bool.not_not])
 |geq=>exact z b (λk d c=>by simp only[binOp,Op.intCmp,xM,ne_eq,not_true,bo,Sem.run_pure];congr 2;rw[br];simp) (λf g r s=>by simp only[binOp,Op.stringOp,yG r s,Sem.run_pure])
 |_=>simp[binop]at b
def D4{b:BinOp}{i:ab}{j k:ah}{c d:am}(f:b≠ .eql)(g:b≠ .neq):(eqGuard b i j k c d).run P w= .ok () w:=by
 cases b<;>first|(exact absurd rfl f)|(exact absurd rfl g)|(simp[eqGuard])
def JO{c:BinOp}{k t:ab}{m n:ah}(g:c≠ .eql)(i:c≠ .neq)(d:St cx base w.heap μ h)(j:kt w.heap μ mask e a.tmps)(p:o.op= .binOp c k m n t){l:T}{f:H}
 (b:MQ c m n cx mask e h=some (.val l f)):jm cx base w μ h.size ((execOp a.eval o).run P w) l f:=by
 obtain⟨u,hp,b⟩:=dL.1 b;obtain⟨v,q,b⟩:=dL.1 b;obtain⟨r,rfl⟩:=fW.1 b;obtain⟨x,s,hr⟩:=Is (P:=P) (w:=w) k g i (gU d j hp) (gU d j q) r;refine jm.pure d ?_ hr;simp only[execOp,p,Sem.run_bind,D4 g i,Result.andThen_ok,s,Sem.run_pure]
def MN{d:UnOp}{r:ab}{m:ah}(f:St cx base w.heap μ h)(q:kt w.heap μ mask e a.tmps)(j:o.op= .unOp d r m){l:T}{g:H}
 (c:hUn d m cx mask e h=some (.val l g)):jm cx base w μ h.size ((execOp a.eval o).run P w) l g:=by
 obtain⟨k,hp,c⟩:=dL.1 c;obtain⟨b,rfl⟩:=fW.1 c;have i:=gU f q hp;cases d with
 |neg=>
  cases k<;>simp[unop]at b;subst b;exact jm.pure f (by simp[execOp,j,i.jV,Op.unary,Op.intArith]) (.int _ _)
 |not=>
  cases k<;>simp[unop]at b;rename_i n;have p:=i.qj;cases n<;>simp at b<;>subst b<;>exact jm.pure f (by simp[execOp,j,p,Op.unary]) (.bool _)
 |_=>simp[unop]at b
end
end
noncomputable section
section
variable {P:ai}{cx:Ctx}{base:Nat}{w:World}{μ:Mu}{h:H}{mask:Nat}{e:Env}{a:Act}{o:Oper}{hp:af Obj}
def kO{c:ab}{d:Ty}(h:uX P c d):∃b,P.underlying c=some b/\AW P b=some d.u:=by
 obtain⟨i,b,j,_,f,_,_,g,_⟩:=h.unfold;exact⟨b,f,g⟩
def yi{b:TypeDesc}{c:ak}(h:AW P b=some (.int c)):b= .int c:=by
 cases b<;>simp only[AW]at h<;>first|(split at h<;>simp at h;done)|(simp at h;done)|(simp at h;rw[h])
def Ny{b:TypeDesc}(h:AW P b=some .bool):b= .bool:=by
 cases b<;>simp only[AW]at h<;>first|rfl|(split at h<;>simp at h;done)|(simp at h;done)
def sw{b:TypeDesc}(h:AW P b=some .str):b= .string:=by
 cases b<;>simp only[AW]at h<;>first|rfl|(split at h<;>simp at h;done)|(simp at h;done)
def mv{b:TypeDesc}{e:ab}(h:AW P b=some (.slice e)):b= .slice e:=by
 cases b<;>simp only[AW]at h<;>first|(split at h<;>simp at h;done)|(simp at h;done)|(simp at h;rw[h])
def rf{b:TypeDesc}{c:Nat}{e:ab}(h:AW P b=some (.array c e)):b= .array c e:=by
 cases b<;>simp only[AW]at h<;>first|(split at h<;>simp at h;done)|(simp at h;done)|(simp at h;rw[h.1,h.2])
def Rs{b:TypeDesc}{e:ab}(h:AW P b=some (.ptr e)):b= .pointer e:=by
 cases b<;>simp only[AW]at h<;>first|(split at h<;>simp at h;done)|(simp at h;done)|(simp at h;rw[h])
def Nx{b:TypeDesc}(h:AW P b=some .func):∃c d f,b= .func c d f:=by
 cases b<;>simp only[AW]at h<;>first|(split at h<;>simp at h;done)|(simp at h;done)|exact⟨_,_,_,rfl⟩
def LR{b:TypeDesc}(h:AW P b=some .iface):∃c,b= .interface c:=by
 cases b<;>simp only[AW]at h<;>first|(split at h<;>simp at h;done)|(simp at h;done)|exact⟨_,rfl⟩
def rD{f:TypeDesc}{g:List (Nat×ab)}(h:AW P f=some (.struct g)):
 ∃c,f= .struct c/\g=c.toList.map (λb=>(b.offset,b.type))/\∀b∈c.toList,∃d,P.info? b.type=some d/\d.size≠0:=by
 cases f<;>simp only[AW]at h<;>try (simp at h;done)
 rename_i c;split at h
 ·rename_i j;simp only[ar,U.struct.injEq]at h;refine⟨c,rfl,h.symm,λb k=> ?_⟩;have:=List.all_eq_true.1 j b k;cases i:P.info? b.type with
  |none=>rw[i]at this;simp at this
  |some d=>rw[i]at this;exact⟨d,rfl,by simpa using this⟩
 ·simp at h
def bytes_beq{b c:List Nat}(f:∀d∈b,d<256)(ht:∀d∈c,d<256):(bytesOf b==bytesOf c)=UE b c:=by
 rw[beq_toListBytes,yP f ht]
def uP{l:ab}{p:TypeDesc}{t:U}{j g:T}{n s:am}{m:Bool}(d:P.underlying l=some p)(k:AW P p=some t)(i:fD hp μ j n)(f:fD hp μ g s)
 (b:rZ t j g=some m) (F:Nat):(Op.equalIn (F+1) l n s).run P w= .ok m w:=by
 unfold rZ at b;split at b
 ·have:=yi k;subst this;cases j<;>simp at b;cases g<;>simp at b;obtain⟨q,r⟩:=dT.1 b;rw[xQ]at q;subst q;simp at r;subst r;rw[i.jV,f.jV];simp[Op.equalIn,run_underlying d,xU]
 ·have:=Ny k;subst this;cases j<;>simp at b;cases g<;>simp at b;rename_i G I;rw[i.qj,f.qj];cases G<;>cases I<;>simp at b<;>subst b<;>simp[Op.equalIn,run_underlying d]
 ·have:=sw k;subst this;cases j<;>simp at b;cases g<;>simp at b;subst b;obtain⟨D,y⟩:=i.lJ;obtain⟨E,z⟩:=f.lJ;rw[D,E];simp[Op.equalIn,run_underlying d,bytes_beq y z]
 ·have:=Rs k;subst this;cases j<;>simp at b
  ·rw[i.qh];cases g<;>simp at b<;>subst b
   ·rw[f.qh];simp[Op.equalIn,run_underlying d]
   ·obtain⟨u,v,c,_⟩:=f.pJ;rw[c];simp[Op.equalIn,run_underlying d]
   ·obtain⟨A,off,x,l,fz,c,_⟩:=f.lO;rw[c];simp[Op.equalIn,run_underlying d]
  ·obtain⟨u,v,c,_⟩:=i.pJ;cases g<;>simp at b;subst b;rw[f.qh,c];simp[Op.equalIn,run_underlying d]
  ·obtain⟨A,off,x,l,fz,c,_⟩:=i.lO;cases g<;>simp at b;subst b;rw[f.qh,c];simp[Op.equalIn,run_underlying d]
 ·obtain⟨K,L,M,rfl⟩:=Nx k;cases j<;>simp at b
  ·obtain⟨B,c,_⟩:=i.rU;cases g<;>simp at b;subst b;rw[f.um,c];simp[Op.equalIn,run_underlying d]
  ·rw[i.um];cases g<;>simp at b<;>subst b
   ·obtain⟨B,c,_⟩:=f.rU;rw[c];simp[Op.equalIn,run_underlying d]
   ·rw[f.um];simp[Op.equalIn,run_underlying d]
 ·obtain⟨J,rfl⟩:=LR k;cases j<;>simp at b
  ·rw[i.ul];cases g<;>simp at b<;>subst b
   ·rw[f.ul];simp[Op.equalIn,run_underlying d]
   ·obtain⟨C,c⟩:=f.wI;rw[c];simp[Op.equalIn,run_underlying d]
  ·obtain⟨C,c⟩:=i.wI;cases g<;>simp at b;subst b;rw[f.ul,c];simp[Op.equalIn,run_underlying d]
 ·simp at b
def D5(b:Nat×ab)(d:List (Nat×ab))(c:Nat)(j:T)(g:List T)(k:T)(f:List T):eqFields cx (b::d) c (j::g) (k::f)=
 gh (Nat.beq b.1 c) (dV (cx.ty b.2) λi=>gh i.u.plain (dV (rZ i.u j k) λl=> @Bool.rec (λ_=>aa Bool) (some false) (eqFields cx d (c+1) g f) l)):=rfl
def run_part_plain{g:ab}{b:Ty}(h:uX P g b)(hp:b.u.plain=true){d:af am}{f:Nat}{c:am}(j:d[f]? =some c):(part g d f).run P w= .ok c w:=by
 have i:b.isAgg=false:=by
  unfold Ty.isAgg;cases k:b.u<;>simp[k,U.plain]at hp<;>rfl
 simp[part,h.tQ,i,j]
def CR(iZ:jd P cx)(t:Nat):∀(m:List Field) (c:Nat) (g i:List T) (j l:af am) (f:Bool),
 gJ hp μ g (j.toList.drop c)->gJ hp μ i (l.toList.drop c)->(∀d∈m,d.name≠ "_")->eqFields cx (m.map λd=>(d.offset,d.type)) c g i=some f->
 (Op.eqFields (t+1) j l m).run P w= .ok f w:=by
 intro m;induction m with
 |nil=>
  intro c g i j l f _ _ _ b;have:f=true:=by simpa[eqFields]using b.symm
  subst this;simp[Op.eqFields]
 |cons d m Q=>
  intro c g i j l f r s q b;rw[aT]at b;cases g with
  |nil=>simp[eqFields]at b
  |cons S g=>cases i with
   |nil=>simp[eqFields]at b
   |cons U i=>
    rw[D5]at b;obtain⟨z,b⟩:=dT.1 b;obtain⟨W,A,b⟩:=dL.1 b;obtain⟨p,b⟩:=dT.1 b;obtain⟨R,B,b⟩:=dL.1 b;have L:d.offset=c:=aD z;obtain⟨u,C,N⟩:=r.get (k:=0) (v:=S) dC;obtain⟨x,E,O⟩:=s.get (k:=0) (v:=U) dC;have D:j[c]? =some u:=by simpa using C
    have G:l[c]? =some x:=by simpa using E
    have n:=iZ.ty _ _ A;obtain⟨V,F,M⟩:=kO n;have I:=uP (P:=P) (w:=w) F M N O B t;have K:d.name≠ "_" :=q d dC;simp only[Op.eqFields,K,ne_eq,not_false_eq_true,bg,Sem.run_bind,L,run_part_plain n p D,run_part_plain n p G,Result.andThen_ok,I];cases R with
    |false=>
     have:f=false:=by simpa using b.symm
     subst this;simp
    |true=>
     simp only[cN,cq,bo];refine Q (c+1) g i j l f ?_ ?_ (λy J=>q y (by simp[J])) b
     ·have:=r.drop 1;simpa[cY,Nat.add_comm]using this
     ·have:=s.drop 1;simpa[cY,Nat.add_comm]using this
def D6{e:ab}{l:Ty}(m:uX P e l)(n:l.u.plain=true)(r:Nat):∀(g d:List T) (f:Nat) (i j:af am) (c:Bool),
 gJ hp μ g (i.toList.drop f)->gJ hp μ d (j.toList.drop f)->yQ l.u g d=some c->(Op.eqItems (r+1) e 1 i j (List.range' f g.length)).run P w= .ok c w:=by
 intro g;induction g with
 |nil=>
  intro d f i j c _ _ b;have:c=true:=by
   cases d with
   |nil=>have b:some true=some c:=b;simpa using b.symm
   |cons=>simp[yQ]at b
  subst this;simp[Op.eqItems]
 |cons s g K=>
  intro d f i j c p q b;cases d with
  |nil=>simp[yQ]at b
  |cons t d=>
   have b:(dV (rZ l.u s t) λM=> @Bool.rec (λ_=>aa Bool) (some false) (yQ l.u g d) M)=some c:=b;obtain⟨L,z,b⟩:=dL.1 b;obtain⟨x,A,I⟩:=p.get (k:=0) (v:=s) dC;obtain⟨y,C,J⟩:=q.get (k:=0) (v:=t) dC;have B:i[f]? =some x:=by simpa using A
   have E:j[f]? =some y:=by simpa using C
   obtain⟨N,D,G⟩:=kO m;have F:=uP (P:=P) (w:=w) D G I J z r;rw[bh,List.range'_succ];simp only[Op.eqItems,Sem.run_bind,Nat.mul_one,run_part_plain m n B,run_part_plain m n E,Result.andThen_ok,F];cases L with
   |false=>
    have:c=false:=by simpa using b.symm
    subst this;simp
   |true=>
    simp only[cN,cq,bo];refine K d (f+1) i j c ?_ ?_ b
    ·have:=p.drop 1;simpa[cY,Nat.add_comm]using this
    ·have:=q.drop 1;simpa[cY,Nat.add_comm]using this
def Ia{f:BinOp}{g:ab}{b c:ah}(d:(Region.isConst b||Region.isConst c)=true):(eqGuard f g b c .nilIface .nilIface).run P w= .ok () w:=by
 unfold eqGuard;cases b<;>cases c<;>simp[Region.isConst]at d<;>simp
def EQ(iZ:jd P cx){neg:Bool}{F:BinOp}{q u:ab}{E x:ah}(g:F=(if neg then BinOp.neq else BinOp.eql))(s:St cx base w.heap μ h)(r:kt w.heap μ mask e a.tmps)
 (b7:o.op= .binOp F q E x u) {v:T} {aN:H} (A:V7 neg q E x cx mask e h=some (.val v aN)):jm cx base w μ h.size ((execOp a.eval o).run P w) v aN:=by
 obtain⟨dk,cp,A⟩:=dL.1 A;obtain⟨G,hp,A⟩:=dL.1 A;obtain⟨t,I,A⟩:=dL.1 A;obtain⟨al,A⟩:=dT.1 A;obtain⟨y,b,A⟩:=dL.1 A;obtain⟨bk,rfl⟩:=fW.1 A;have p:=gU s r hp;have j:=gU s r I;have ce:=iZ.ty _ _ cp;have bN:v= .bool (if neg then !y else y):=by
  rw[rK]at bk;cases neg<;>simpa using bk.symm
 subst bN;have bn:(eqGuard F q E x (a.eval E) (a.eval x)).run P w= .ok () w/\(binOp F q (a.eval E) (a.eval x)).run P w= .ok (.bool (if neg then !y else y)) w:=by
  obtain⟨i,d,z,_,R,_,_,M,_,_,_,_,aX⟩:=ce.unfold;unfold Np at b;split at b
  ·rename_i c9 ae;rw[ae]at M;obtain⟨av,rfl,bS,_⟩:=rD M;cases G<;>simp at b;cases t<;>simp at b;obtain⟨Z,b⟩:=dT.1 b;obtain⟨O,L,an⟩:=aX Z;obtain⟨m,f,V,_⟩:=p.pK;obtain⟨C,e2,W,_⟩:=j.pK;rw[f,e2];refine⟨run_eqGuard_agg w F q E x m C L,?_⟩;have a7:P.fieldsOf q=av:=by simp[Program.fieldsOf,R]
   have c:(Op.equalIn 10000 q (.agg m) (.agg C)).run P w= .ok y w:=by
    rw[run_equalIn_struct w 9999 q m C (by rw[a7];exact R) O,a7];rw[bS]at b;refine CR iZ 9998 av.toList 0 _ _ m C y (by simpa using V) (by simpa using W) ?_ b;intro Q bH;have:=List.all_eq_true.1 an Q bH;simpa using this
   cases neg with
   |false=>simp at g;subst g;rw[run_eql_struct,c];rfl
   |true=>simp at g;subst g;rw[run_neq_struct,c];rfl
  ·rename_i n e ae;rw[ae]at M;have bC:=rf M;subst bC;cases G<;>simp at b;cases t<;>simp at b;obtain⟨Z,b⟩:=dT.1 b;obtain⟨di,cb,b⟩:=dL.1 b;obtain⟨b9,b⟩:=dT.1 b;obtain⟨ca,b⟩:=dT.1 b;obtain⟨b6,b⟩:=dT.1 b;obtain⟨O,L,an⟩:=aX Z;obtain⟨m,f,V,_⟩:=p.pK;obtain⟨C,e2,W,_⟩:=j.pK;rw[f,e2];refine⟨run_eqGuard_agg w F q E x m C L,?_⟩;have bi:=iZ.ty _ _ cb;have c:(Op.equalIn 10000 q (.agg m) (.agg C)).run P w= .ok y w:=by
    obtain⟨de,c7,dm,a8,_,_,_,_,_,_,dd,_⟩:=bi.unfold;rw[run_equalIn_array w 9999 m C R a8,List.range_eq_range'];have b8:P.cellsOf e=1:=by
     have:=aD ca;simp only[Program.cellsOf,a8,cO,Option.getD_some];omega
    have bT:=aD b6;rw[b8,<-bT];exact D6 bi b9 9998 _ _ 0 m C y (by simpa using V) (by simpa using W) b
   cases neg with
   |false=>simp at g;subst g;rw[run_eql_struct,c];rfl
   |true=>simp at g;subst g;rw[run_neq_struct,c];rfl
  ·have c:=uP (P:=P) (w:=w) R M p j b 9999;have B:∀k l:am,(k≠ .nilIface\/l≠ .nilIface)->((∀c4,k≠ .agg c4)\/∀c6,l≠ .agg c6)->(eqGuard F q E x k l).run P w= .ok () w:=by
    intro k l aA aE;cases neg with
    |false=>
     simp at g;subst g;cases k<;>cases l<;>first|(simp[eqGuard];done)|(simp at aA;done)|(simp at aE;done)
    |true=>
     simp at g;subst g;cases k<;>cases l<;>first|(simp[eqGuard];done)|(simp at aA;done)|(simp at aE;done)
   have D:∀k l:am,(∀S cy U cL,(k,l)≠(.int S cy,.int U cL))->(∀cX c1,(k,l)≠(.string cX,.string c1))->(∀X J Y K,(k,l)≠(.float X J,.float Y K))->(∀X J O Y K L,(k,l)≠(.complex X J O,.complex Y K L))->
    (Op.equalIn 10000 q k l).run P w= .ok y w->(binOp F q k l).run P w= .ok (.bool (if neg then !y else y)) w:=by
    intro k l bp bs bu bz a6;cases neg with
    |false=>
     simp at g;subst g;cases k<;>cases l<;>first|(exact absurd rfl (bp _ _ _ _))|(exact absurd rfl (bs _ _))|(exact absurd rfl (bu _ _ _ _))|(exact absurd rfl (bz _ _ _ _ _ _))|(simp[binOp,Op.equal,Op.maxDepth,a6])
    |true=>
     simp at g;subst g;cases k<;>cases l<;>first|(exact absurd rfl (bp _ _ _ _))|(exact absurd rfl (bs _ _))|(exact absurd rfl (bu _ _ _ _))|(exact absurd rfl (bz _ _ _ _ _ _))|(simp[binOp,Op.equal,Op.maxDepth,a6])
   unfold rZ at b;split at b
   ·cases G<;>simp at b;cases t<;>simp at b;obtain⟨S,U⟩:=dT.1 b;rw[xQ]at S;subst S;simp at U;subst U;rw[p.jV,j.jV];refine⟨B _ _ (.inl dC) (.inl dC),?_⟩;cases neg<;>simp at g<;>subst g<;>simp[binOp,Op.intCmp,xU,bne]
   ·cases G<;>simp at b;cases t<;>simp at b;rw[p.qj,j.qj]at c|-;exact⟨B _ _ (.inl dC) (.inl dC),D _ _ dC dC dC dC c⟩
   ·cases G<;>simp at b;cases t<;>simp at b;subst b;obtain⟨f,J⟩:=p.lJ;obtain⟨e2,K⟩:=j.lJ;rw[f,e2];refine⟨B _ _ (.inl dC) (.inl dC),?_⟩;cases neg<;>simp at g<;>subst g<;>simp[binOp,Op.stringOp,yP J K]
   ·cases G<;>simp at b
    ·have f:=p.qh;rw[f]at c|-;have e2:∃N,a.eval x= .pointer N:=by
      cases t<;>simp at b
      ·exact⟨_,j.qh⟩
      ·obtain⟨_,N,I,_⟩:=j.pJ;exact⟨_,I⟩
      ·obtain⟨_,_,_,_,_,I,_⟩:=j.lO;exact⟨_,I⟩
     obtain⟨N,e2⟩:=e2;rw[e2]at c|-;exact⟨B _ _ (.inl dC) (.inl dC),D _ _ dC dC dC dC c⟩
    ·obtain⟨_,N,f,_⟩:=p.pJ;cases t<;>simp at b;have e2:=j.qh;rw[f,e2]at c|-;exact⟨B _ _ (.inl dC) (.inl dC),D _ _ dC dC dC dC c⟩
    ·obtain⟨_,_,_,_,_,f,_⟩:=p.lO;cases t<;>simp at b;have e2:=j.qh;rw[f,e2]at c|-;exact⟨B _ _ (.inl dC) (.inl dC),D _ _ dC dC dC dC c⟩
   ·cases G<;>simp at b
    ·obtain⟨m,f,_⟩:=p.rU;cases t<;>simp at b;have e2:=j.um;rw[f,e2]at c|-;exact⟨B _ _ (.inl dC) (.inl dC),D _ _ dC dC dC dC c⟩
    ·have f:=p.um;have e2:(∃Q ap m,a.eval x= .func Q ap m)\/a.eval x= .nilFunc:=by
      cases t<;>simp at b
      ·obtain⟨m,I,_⟩:=j.rU;exact .inl ⟨_,_,_,I⟩
      ·exact .inr j.um
     rcases e2 with⟨Q,ap,m,e2⟩|e2
     all_goals
      rw[f,e2]at c|-;exact⟨B _ _ (.inl dC) (.inl dC),D _ _ dC dC dC dC c⟩
   ·cases G<;>simp at b
    ·have f:=p.ul;cases t<;>simp at b
     ·have e2:=j.ul;rw[f,e2]at c|-;have al:(Region.isConst E||Region.isConst x)=true:=al;exact⟨Ia al,D _ _ dC dC dC dC c⟩
     ·obtain⟨bB,e2⟩:=j.wI;rw[f,e2]at c|-;exact⟨B _ _ (.inr dC) (.inl dC),D _ _ dC dC dC dC c⟩
    ·obtain⟨bB,f⟩:=p.wI;cases t<;>simp at b;have e2:=j.ul;rw[f,e2]at c|-;exact⟨B _ _ (.inl dC) (.inl dC),D _ _ dC dC dC dC c⟩
   ·simp at b
 refine jm.pure s ?_ (.bool _);simp only[execOp,b7,Sem.run_bind,bn.1,Result.andThen_ok,bn.2,Sem.run_pure]
end
end
noncomputable section
section
variable {P:ai}{cx:Ctx}{base:Nat}{w:World}{μ:Mu}{h:H}{mask:Nat}{e:Env}{a:Act}{o:Oper}{hp:af Obj}
def kI(b off c:Nat):(⟨b,off,none⟩:Addr).add c=⟨b,off+c,none⟩:=by
 unfold Addr.add;split<;>simp_all
def lQ(c:T)(b:List T):fx (c::b)=c.cells++fx b:=by simp[fx]
def m7(a b:List T):fx (a++b)=fx a++fx b:=by simp[fx]
def il{sz:Nat}{b:List T}(d:∀c∈b,c.cells.length=sz):(fx b).length=b.length*sz:=by
 induction b with
 |nil=>simp[fx]
 |cons i b g=>
  rw[lQ,aU,g (λc f=>d c (by simp[f])),d i dC,bh,bX];omega
def pG{d:Nat}{b:List T}(g:∀f∈b,f.cells.length=d)(c:Nat):(fx b).drop (c*d)=fx (b.drop c):=by
 induction c generalizing b with
 |zero=>simp
 |succ c l=>cases b with
  |nil=>simp[fx]
  |cons i b=>
   have k:=g i dC;rw[lQ,bX,Nat.add_comm,<-cY];have:(i.cells++fx b).drop d=fx b:=by rw[<-k];simp
   rw[this,l (λf j=>g f (by simp[j]))];rfl
def rx{g:Nat}{b:List T}(f:∀d∈b,d.cells.length=g)(c:Nat):(fx b).take (c*g)=fx (b.take c):=by
 induction c generalizing b with
 |zero=>simp[fx]
 |succ c k=>cases b with
  |nil=>simp[fx]
  |cons l b=>
   have j:=f l dC;rw[lQ,List.take_succ_cons,lQ,<-k (λd i=>f d (by simp[i])),bX,List.take_append,j];congr 1
   ·rw[bJ dB]
   ·congr 1;omega
structure sZ(hp:af Obj)(μ:Mu)(iR off:Nat)(cs:List T):Prop where
 row:∃arr t fz,hp[iR]? =some (.cells arr t fz)/\off+cs.length<=arr.size/\∀(k:Nat) v,cs[k]? =some v->fD hp μ v (arr.getD (off+k) Go.undef)
 scalar:∀v∈cs,v.scalar=true
def sZ.cell{g off:Nat}{c:List T}(n:sZ w.heap μ g off c){b:Nat}{d:T}(k:c[b]? =some d):∃i,w.cell? ⟨g,off+b,none⟩=some i/\fD w.heap μ d i:=by
 obtain⟨f,r,fz,l,p,m⟩:=n.row;have q:b<c.length:=by
  rcases aF b c.length with x|x
  ·exact x
  ·simp[aM x]at k
 have j:off+b<f.size:=dB;refine⟨f[off+b],by simp[World.cell?,l,j],?_⟩;have:=m b d k;simpa[aZ,j]using this
def sZ.take{d off:Nat}{f:List T}(g:sZ hp μ d off f)(m:Nat):sZ hp μ d off (f.take m):=by
 obtain⟨i,n,fz,j,p,k⟩:=g.row;refine⟨⟨i,n,fz,j,dD,λl c b=>k l c ?_⟩,λc b=>g.scalar c (bE b)⟩;rw[bM]at b;split at b
 ·exact b
 ·simp at b
def sZ.drop{g off:Nat}{d:List T}(i:sZ hp μ g off d)(c:Nat)(q:c<=d.length):sZ hp μ g (off+c) (d.drop c):=by
 obtain⟨j,n,fz,k,p,l⟩:=i.row;refine⟨⟨j,n,fz,k,dD,λm f b=> ?_⟩,λf b=>i.scalar f (bF b)⟩;rw[bK]at b;have:=l (c+m) f b;rwa[<-cH]at this
def sZ.run_loadCells{g off:Nat}{b:List T}(q:sZ w.heap μ g off b):∃i:List am,(loadCells ⟨g,off,none⟩ b.length).run P w= .ok i.toArray w/\gJ w.heap μ b i:=by
 obtain⟨d,t,fz,l,r,m⟩:=q.row;refine⟨(d.toList.drop off).take b.length,?_,?_⟩
 ·have hl:((d.toList.drop off).take b.length).length=b.length:=dD;have:=Go.run_loadCells_list (P:=P) w ⟨g,off,none⟩ ((d.toList.drop off).take b.length) (λs k c=>by
   rw[kI];rw[bM]at c;split at c
   ·rw[bK]at c;simp only[World.cell?,l];simpa using c
   ·simp at c)
  rwa[hl]at this
 ·refine⟨dD,λf k j=> ?_⟩;have n:f<b.length:=by
   rcases aF f b.length with x|x
   ·exact x
   ·simp[aM x]at j
  have:=m f k j;have p:off+f<d.size:=dB;simpa[List.getD,bM,n,aZ,p]using this
def ym{s:ab}{c:Ty}{l off:Nat}{f:List T}{k:T}(n:uX P s c)(j:sZ w.heap μ l off f)(b:ko c f=some k):
 ∃d,(loadVar s ⟨l,off,none⟩).run P w= .ok d w/\fD w.heap μ k d:=by
 unfold ko at b;cases i:c.isAgg with
 |true=>
  rw[i]at b;have b:(dV (takeN c.size f) λj=>some (T.agg j))=some k:=b;obtain⟨y,g,p⟩:=dL.1 b;rw[nO]at g;split at g
  ·rename_i x;simp at g p;subst g;subst p;have r:=j.take c.size;obtain⟨t,q,u⟩:=sZ.run_loadCells (P:=P) r;have v:(f.take c.size).length=c.size:=dD;rw[v]at q;refine⟨.agg t.toArray,?_,fD.xu (by simpa using u) r.scalar⟩;simp[loadVar,n.tQ,i,n.run_sizeOf,q]
  ·simp at g
 |false=>
  rw[i]at b;have b:md f 0=some k:=b;rw[kA]at b;obtain⟨d,m,hr⟩:=j.cell b;refine⟨d,?_,hr⟩;have m:w.cell? ⟨l,off,none⟩=some d:=by simpa using m
  simp[loadVar,n.tQ,i,m]
def St.rowAt(K:St cx base hp μ h){m q b:Nat}{c:Loc}{f:T}(E:μ m=some c)(d:h.elem m q b=some f):sZ hp μ c.iR (b*c.sz) f.cells/\f.cells.length=c.sz:=by
 obtain⟨x,F,J⟩:=K.box m c E;unfold H.elem at d;rw[F]at d;obtain⟨O,A,Q,M,v,g⟩:=x;have d:gh (Nat.beq A q) (@Bool.rec (λ_=>aa T) (md g b) none v)=some f:=d;obtain⟨_,d⟩:=dT.1 d;cases v with
 |true=>simp at d
 |false=>
  have d:g[b]? =some f:=by rw[<-kA];exact d
  have i:=J.plain rfl;obtain⟨p,L,B,C,D⟩:=i.row;have u:f∈g:=ax d;have t:=i.size f u;have s:b<g.length:=by
   rcases aF b g.length with y|y
   ·exact y
   ·simp[aM y]at d
  have N:=il i.size;refine⟨⟨⟨p,L,(0,0),B,?_,λl n k=> ?_⟩,λn k=>i.scalar n ?_⟩,t⟩
  ·rw[t,C];have:b+1<=c.cap:=by have:=i.room;simp only[]at this;omega
   calc b*c.sz+c.sz=(b+1)*c.sz:=by rw[bX]
    _<=c.cap*c.sz:=aY _ this
  ·have I:l<f.cells.length:=by
    rcases aF l f.cells.length with y|y
    ·exact y
    ·simp[aM y]at k
   have G:(fx g)[b*c.sz+l]? =some n:=by
    have r:=pG i.size b;have:g.drop b=f::g.drop (b+1):=by
     rw[aI s];congr 1;simpa[s]using d
    rw[this,lQ]at r;rw[<-bK,r,bY I];exact k
   obtain⟨z,j,hr⟩:=D.get G;rw[bM]at j;split at j
   ·have:p[b*c.sz+l]? =some z:=by simpa using j
    rw[aZ,this];exact hr
   ·simp at j
  ·exact List.mem_flatMap.2 ⟨f,u,k⟩
def St.Sz(s:St cx base hp μ h){d f g:Nat}{c:Loc}{i:T}(n:μ d=some c)(b:h.elem d f g=some i):f=c.ep:=by
 obtain⟨j,p,q⟩:=s.box d c n;unfold H.elem at b;rw[p]at b;obtain⟨u,l,v,t,r,k⟩:=j;have b:gh (Nat.beq l f) (@Bool.rec (λ_=>aa T) (md k g) none r)=some i:=b;obtain⟨m,_⟩:=dT.1 b;have:=aD m;have:=q.ep;simp only[]at this;omega
def Cn{t:ab}{u:Ty}{l g:T}{m:am}(r:uX P t u)(s:St cx base w.heap μ h)(p:fD w.heap μ l m)(b:h.load u l=some g):
 ∃f c,m= .pointer (some f)/\(loadVar t f).run P w= .ok c w/\fD w.heap μ g c:=by
 unfold H.load at b;cases l<;>simp at b
 ·rename_i K N R F;replace b:=dL.1 b;obtain⟨S,q,b⟩:=b;replace b:=dL.1 b;obtain⟨M,d,b⟩:=b;obtain⟨J,f,k,n,_,y⟩:=p.pJ;have z:=s.Sz n q;obtain⟨G,O⟩:=s.rowAt n q;rw[lU]at d;split at d
  ·rename_i B;simp at d;subst d;obtain⟨c,i,j⟩:=ym r (G.drop F B) b;exact⟨f,c,k,by rw[y z];exact i,j⟩
  ·simp at d
 ·rename_i L;obtain⟨x,off,v,I,fz,k,Q,A,C,D,hr⟩:=p.lO;obtain⟨c,i,j⟩:=ym r ⟨⟨v,I,fz,A,C,hr⟩,(λg E=>(D g E).1)⟩ b;exact⟨⟨x,off,none⟩,c,k,i,j⟩
def HX(iZ:jd P cx){f:ab}{i:ah}(c:St cx base w.heap μ h)(q:kt w.heap μ mask e a.tmps)(l:o.op= .load f i){g:T}{d:H}
 (b:HY f i cx mask e h=some (.val g d)):jm cx base w μ h.size ((execOp a.eval o).run P w) g d:=by
 replace b:=dL.1 b;obtain⟨u,n,b⟩:=b;replace b:=dL.1 b;obtain⟨t,hp,b⟩:=b;obtain⟨p,rfl⟩:=fW.1 b;obtain⟨r,s,m,j,k⟩:=Cn (iZ.ty _ _ n) c (gU c q hp) p;exact jm.pure c (by simp[execOp,l,Instr.loadAt,m,Instr.sureAddr,j]) k
def xi(iZ:jd P cx){l:ab}{g:Nat}{i:Nat×ab}(b:wJ cx l g=some i):∃d c,P.underlying l=some (.struct d)/\d[g]? =some c/\c.offset=i.1/\c.type=i.2/\
 ∃k,P.info? c.type=some k/\k.size≠0:=by
 replace b:=dL.1 b;obtain⟨s,q,b⟩:=b;obtain⟨t,m,j⟩:=kO (iZ.ty _ _ q);cases r:s.u<;>rw[r]at b j<;>simp at b;obtain⟨d,rfl,p,n⟩:=rD j;subst p;rw[aQ]at b;cases f:d.toList[g]? with
 |none=>rw[f]at b;simp at b
 |some c=>
  rw[f]at b;simp at b;refine⟨d,c,m,by simpa using f,by rw[<-b],by rw[<-b],n c (ax f)⟩
def Ah(iZ:jd P cx){t:ab}{n:ah}{p:Nat}(m:St cx base w.heap μ h)(U:kt w.heap μ mask e a.tmps)(N:o.op= .fieldAddr t n p){c:T}{q:H}
 (b:pF t n p cx mask e h=some (.val c q)):jm cx base w μ h.size ((execOp a.eval o).run P w) c q:=by
 replace b:=dL.1 b;obtain⟨l,K,b⟩:=b;replace b:=dL.1 b;obtain⟨S,hp,b⟩:=b;obtain⟨Y,Z,A,B,C,ae,i,D,E⟩:=xi iZ K;have r:=gU m U hp;have s:∀d:Addr,a.eval n= .pointer (some d)->(execOp a.eval o).run P w= .ok (.value (.pointer (some (d.add l.1)))) w:=by
  intro d g;simp[execOp,N,Instr.fieldAt,run_underlying A,B,g,Instr.sureAddr,fieldPlace,sizeOf,typeInfo,D,E,C]
 cases S<;>simp at b
 ·rename_i x z Q R;obtain⟨rfl,rfl⟩:=b;obtain⟨u,d,g,G,J,F⟩:=r.pJ;refine jm.pure m (s d g) (.ptr x z Q (R+l.1) u _ G J λI=> ?_);rw[F I,kI,cH]
 ·rename_i W;replace b:=dL.1 b;obtain⟨X,f,b⟩:=b;simp at b;obtain⟨rfl,rfl⟩:=b;obtain⟨y,off,v,V,fz,g,M,L,an,O,hr⟩:=r.lO;rw[lU]at f;split at f
  ·rename_i al;simp at f;subst f;refine jm.pure m (s _ g) ?_;rw[kI];refine .jB _ y (off+l.1) v V fz M L dD (λc j=>O c (bF j)) λk c j=> ?_;rw[bK]at j;have:=hr _ c j;rwa[<-cH]at this
  ·simp at f
def AA{r:ab}{c:Ty}{f:List T}{i:af am}{off:Nat}{k:T}(m:uX P r c)(q:gJ hp μ f (i.toList.drop off))(s:∀n∈f,n.scalar=true)(b:ko c f=some k):
 ∃d,(part r i off).run P w= .ok d w/\fD hp μ k d:=by
 unfold ko at b;cases j:c.isAgg with
 |true=>
  rw[j]at b;have b:(dV (takeN c.size f) λu=>some (T.agg u))=some k:=b;obtain⟨x,g,p⟩:=dL.1 b;rw[nO]at g;split at g
  ·rename_i v;simp at g p;subst g;subst p;refine⟨.agg (i.extract off (off+c.size)),by simp[part,m.tQ,j,m.run_sizeOf],fD.xu ?_ λn t=>s n (bE t)⟩;have:=q.take c.size;rw[Array.toList_extract];simpa[List.extract_eq_take_drop]using this
  ·simp at g
 |false=>
  rw[j]at b;have b:md f 0=some k:=b;rw[kA]at b;obtain⟨d,l,hr⟩:=q.get b;refine⟨d,?_,hr⟩;have l:i[off]? =some d:=by simpa using l
  simp[part,m.tQ,j,l]
def FK(iZ:jd P cx){j:ab}{d:ah}{f:Nat}(i:St cx base w.heap μ h)(E:kt w.heap μ mask e a.tmps)(x:o.op= .field j d f){k:T}{g:H}
 (b:Ai j d f cx mask e h=some (.val k g)):jm cx base w μ h.size ((execOp a.eval o).run P w) k g:=by
 replace b:=dL.1 b;obtain⟨l,v,b⟩:=b;replace b:=dL.1 b;obtain⟨L,A,b⟩:=b;replace b:=dL.1 b;obtain⟨D,hp,b⟩:=b;obtain⟨J,K,m,n,p,q,_⟩:=xi iZ v;have s:=gU i E hp;cases D<;>simp at b;replace b:=dL.1 b;obtain⟨G,c,b⟩:=b;obtain⟨B,rfl⟩:=fW.1 b;obtain⟨I,y,r,z⟩:=s.pK;rw[lU]at c;split at c
 ·simp at c;subst c;obtain⟨F,t,u⟩:=AA (P:=P) (w:=w) (iZ.ty _ _ A) (r.drop l.1) (λd C=>z d (bF C)) B;refine jm.pure i ?_ u;simp[execOp,x,Instr.field,run_underlying m,n,y,asAgg,p,q,t]
 ·simp at c
def nN{f:T}{g:Nat}(b:pR f=some g):∃c,f= .int c (.ofNat g):=by
 unfold pR at b;cases f<;>simp at b;rename_i c d;cases d with
 |ofNat d=>simp at b;subst b;exact⟨c,rfl⟩
 |negSucc d=>simp at b
def FI(iZ:jd P cx){G:ab}{p J:ah}(m:St cx base w.heap μ h)(F:kt w.heap μ mask e a.tmps)(B:o.op= .index G p J){I:T}{v:H}
 (b:Af G p J cx mask e h=some (.val I v)):jm cx base w μ h.size ((execOp a.eval o).run P w) I v:=by
 replace b:=dL.1 b;obtain⟨an,Z,b⟩:=b;replace b:=dL.1 b;obtain⟨E,hp,b⟩:=b;replace b:=dL.1 b;obtain⟨q,W,b⟩:=b;replace b:=dL.1 b;obtain⟨f,S,b⟩:=b;obtain⟨k,U⟩:=nN S;obtain⟨d,A,t⟩:=kO (iZ.ty _ _ Z);have l:=gU m F hp;have D:=(U▸gU m F W).jV;cases ae:an.u<;>rw[ae]at b t<;>simp at b
 ·
  have:=sw t;subst this;cases E<;>simp at b;rename_i g;replace b:=dL.1 b;obtain⟨c,x,b⟩:=b;obtain⟨j,rfl⟩:=fW.1 b;simp at j;subst j;obtain⟨r,K⟩:=l.lJ;refine jm.pure (c:= .int .u8 (c:Int)) m ?_ (.int _ _);have s:f<g.length:=by
   rcases aF f g.length with z|z
   ·exact z
   ·simp[aM z]at x
  have y:g[f]=c:=by simpa[s]using x
  have Q:c<256:=K c (by rw[<-y];exact aC s);have R:(bytesOf g)[f]? =some (UInt8.ofNat c):=by
   have X:f<(bytesOf g).size:=by rw[jU];exact s
   rw[getElem?_pos (bytesOf g) f X];congr 1;show(bytesOf g).data[f]=_;simp[bytesOf,y]
  simp[execOp,B,Instr.index,D,asIntOf,run_underlying A,r,R,jJ Q]
 ·rename_i n aE;have:=rf t;subst this;cases E<;>simp at b;rename_i ap;replace b:=dL.1 b;obtain⟨al,C,b⟩:=b;replace b:=dT.1 b;obtain⟨M,b⟩:=b;replace b:=dL.1 b;obtain⟨av,i,b⟩:=b;obtain⟨j,rfl⟩:=fW.1 b;obtain⟨aA,r,L,Y⟩:=l.pK;rw[lU]at i;split at i
  ·simp at i;subst i;obtain⟨c,N,O⟩:=AA (P:=P) (w:=w) (iZ.ty _ _ C) (L.drop (f*al.size)) (λp l=>Y p (bF l)) j;refine jm.pure m ?_ O;rw[aH]at M;have V:¬n<=f:=dB;simp[execOp,B,Instr.index,D,asIntOf,run_underlying A,r,V,(iZ.ty _ _ C).run_sizeOf,N]
  ·simp at i
end
end
noncomputable section
section
variable {P:ai}{cx:Ctx}{base:Nat}{w:World}{μ:Mu}{h:H}{mask:Nat}{e:Env}{a:Act}{o:Oper}{hp:af Obj}
def St.KC(k:St cx base hp μ h){c:Nat}{b:Loc}{d:iY}(j:μ c=some b)(f:h.get c=some d):d.sz=b.sz/\d.ep=b.ep:=by
 obtain⟨l,i,g⟩:=k.box c b j;rw[i]at f;simp at f;subst f;exact⟨g.sz,g.ep⟩
def flat_get{g:Nat}{es:List T}(l:∀v∈es,v.cells.length=g){i k:Nat}{v z:T}(b:es[i]? =some v)(c:v.cells[k]? =some z):(fx es)[i*g+k]? =some z:=by
 have f:i<es.length:=by
  rcases aF i es.length with y|y
  ·exact y
  ·rw[aM y]at b;simp at b
 have j:k<v.cells.length:=by
  rcases aF k v.cells.length with y|y
  ·exact y
  ·rw[aM y]at c;simp at c
 have d:=pG l i;have m:es[i]=v:=by rw[aB f]at b;simpa using b
 rw[aI f,m,lQ]at d;rw[<-bK,d,bY j];exact c
def LS{f:T}{c:List T}{j off d g:Nat}{i:af am}{r:ab}{fz:Nat×Nat}{b:T}(z:¬nz μ j)(u:hp[j]? =some (.cells i r fz))
 (k:∀b∈f::c,b.cells.length=d) (A:off+(fx (f::c)).length<=i.size) (s:∀b∈fx (f::c),vj b)
 (hr:∀(n:Nat) b,(fx (f::c))[n]? =some b->fD hp μ b (i.getD (off+n) Go.undef)) (l:(f::c)[g]? =some b):
 fD hp μ (.jB b.cells) (.pointer (some ⟨j,off+g*d,none⟩)):=by
 have q:=ax l;have v:g<(f::c).length:=by
  rcases aF g (f::c).length with y|y
  ·exact y
  ·simp[aM y]at l
 have t:=il k;have x:=k b q;refine .jB b.cells j (off+g*d) i r fz z u ?_ (λp m=>s p (List.mem_flatMap.2 ⟨b,q,m⟩)) λn p m=> ?_
 ·rw[x];have:g*d+d<=(fx (f::c)).length:=by
   rw[t]
   calc g*d+d=(g+1)*d:=by rw[bX]
    _<=(f::c).length*d:=aY _ v
  omega
 ·have:=hr _ p (flat_get k l m);rwa[<-cH]at this
def Ae(iZ:jd P cx){t:ab}{x y:ah}(i:St cx base w.heap μ h)(r:kt w.heap μ mask e a.tmps)(an:o.op= .indexAddr t x y){s:T}{K:H}
 (b:pB t x y cx mask e h=some (.val s K)):jm cx base w μ h.size ((execOp a.eval o).run P w) s K:=by
 replace b:=dL.1 b;obtain⟨cp,ca,b⟩:=b;replace b:=dL.1 b;obtain⟨p,hp,b⟩:=b;replace b:=dL.1 b;obtain⟨q,ap,b⟩:=b;replace b:=dL.1 b;obtain⟨f,bT,b⟩:=b;obtain⟨k,b6⟩:=nN bT;obtain⟨d,X,aE⟩:=kO (iZ.ty _ _ ca);have Q:=gU i r hp;have aN:=(b6▸gU i r ap).jV;cases cb:cp.u<;>rw[cb]at b aE<;>simp at b
 ·rename_i bz;have:=mv aE;subst this;replace b:=dL.1 b;obtain⟨m,aA,b⟩:=b;have N:=(iZ.ty _ _ aA).run_sizeOf w;unfold kH at b;cases p<;>simp at b
  ·rename_i C bB;replace b:=dL.1 b;obtain⟨z,I,b⟩:=b;replace b:=dT.1 b;obtain⟨hl,b⟩:=b;simp at b;obtain⟨rfl,rfl⟩:=b;have hl:=aD hl;cases C with
   |nil=>simp at I
   |cons cy C=>
    obtain⟨a6,off,c1,ce,aX,bp,fz,J,al,Z,dd,c9,bn,bk,bN,hr⟩:=Q.uk;have b9:ce=m.size:=by rw[<-bn z (ax I)];exact hl
    have di:f<C.length+1:=by
     rcases aF f (cy::C).length with y|y
     ·simpa using y
     ·rw[aM y]at I;simp at I
    have dk:¬((C.length:Int)+1<=(f:Int)):=dB;refine jm.pure i ?_ (LS al Z bn bk bN hr I);rw[<-kI,b9];have G:¬C.length+1<=f:=dB;simp[execOp,an,Instr.indexAt,aN,asIntOf,run_underlying X,J,N,G]
  ·rename_i A B S l bB;replace b:=dT.1 b;obtain⟨hl,b⟩:=b;replace b:=dL.1 b;obtain⟨a7,W,b⟩:=b;replace b:=dT.1 b;obtain⟨V,b⟩:=b;replace b:=dT.1 b;obtain⟨a8,b⟩:=b;simp at b;obtain⟨rfl,rfl⟩:=b;rw[aH]at hl;have V:=aD V;have a8:=aD a8;obtain⟨g,v,bu,J,D,L,c7,bS⟩:=Q.sS;obtain⟨U,bC⟩:=i.KC D W;obtain⟨cL,cX,bs⟩:=bS dB;have b7:bu≠0:=dB;rw[bs b7]at J;refine jm.pure (c:= .pointer (some ⟨g.iR,(S+f)*g.sz,none⟩)) i ?_ (.ptr A B (S+f) 0 g _ D L λ_=>by simp);have G:¬l<=f:=dB;have bH:(⟨g.iR,S*g.sz,none⟩:Addr).add (f*m.size)=⟨g.iR,(S+f)*g.sz,none⟩:=by
    rw[kI,<-V,U,cg]
   simp[execOp,an,Instr.indexAt,aN,asIntOf,run_underlying X,J,N,G,bH]
 ·rename_i n bz;have:=rf aE;subst this;replace b:=dL.1 b;obtain⟨m,aA,b⟩:=b;have N:=(iZ.ty _ _ aA).run_sizeOf w;unfold oO at b;replace b:=dT.1 b;obtain⟨hl,b⟩:=b;rw[aH]at hl;have G:¬n<=f:=dB;have av:∀v:Addr,a.eval x= .pointer (some v)->(execOp a.eval o).run P w= .ok (.value (.pointer (some (v.add (f*m.size))))) w:=by
   intro v ap;simp[execOp,an,Instr.indexAt,aN,asIntOf,run_underlying X,ap,Instr.sureAddr,N,G]
  cases p<;>simp at b
  ·rename_i A B R j;replace b:=dL.1 b;obtain⟨a7,W,b⟩:=b;obtain⟨g,v,M,D,L,bi⟩:=Q.pJ;obtain⟨U,bC⟩:=i.KC D W;cases E:Nat.beq a7.sz m.size with
   |false=>
    rw[E]at b;have b:some (lH.val (T.ptr A B R (j+f*m.size)) h)=some (.val s K):=b;simp only[ar,lH.val.injEq]at b;obtain⟨rfl,rfl⟩:=b;refine jm.pure i (av v M) (.ptr A B R (j+f*m.size) g _ D L λY=> ?_);rw[bi Y,kI,cH]
   |true=>
    rw[E]at b;have b:gh (Nat.beq j 0) (some (lH.val (T.ptr A B (R+f) 0) h))=some (.val s K):=b;replace b:=dT.1 b;obtain⟨ae,b⟩:=b;have ae:=aD ae;subst ae;simp only[ar]at b;obtain⟨rfl,rfl⟩:=b;have E:=aD E;refine jm.pure i (av v M) (.ptr A B (R+f) 0 g _ D L λY=> ?_);rw[bi Y,kI,<-E,U,cg];simp
  ·rename_i c4;replace b:=dL.1 b;obtain⟨c6,F,b⟩:=b;simp at b;obtain⟨rfl,rfl⟩:=b;obtain⟨a6,off,aX,bp,fz,M,al,Z,bk,b8,hr⟩:=Q.lO;rw[lU]at F;split at F
   ·rename_i de;simp at F;subst F;refine jm.pure i (av _ M) ?_;rw[kI];refine .jB _ a6 (off+f*m.size) aX bp fz al Z dD (λs O=>b8 s (bF O)) λk s O=> ?_;rw[bK]at O;have:=hr _ s O;rwa[<-cH]at this
   ·simp at F
end
end
end Go.TI
