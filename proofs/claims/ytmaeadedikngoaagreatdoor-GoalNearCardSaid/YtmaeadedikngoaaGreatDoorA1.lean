/- Texts TiBase to TiRead2. -/
import Derived.Test.YtmaeadedikngoaaGreatDoorA0
import Derived.IntWalk
import Derived.Calls
import Derived.Laws.CopyRow
import Derived.Laws.Cells
import Derived.Laws.Entries
import Derived.WalkCall
import Derived.Laws.Strings
import Derived.Lib.Strings
import Derived.Laws.StructEq
import Derived.ChangeKeysEq
set_option linter.all false
namespace Go.TI
abbrev dy(n:Int):T:=.int .i64 n
abbrev dz:T:=.dF [] false
abbrev dA(s v:Nat)(e:List T):iN:=⟨s,0,v,true,false,e⟩
@[simp] abbrev dB(v:fN)(n:Nat)(t:T):Prop:=TI.dH v n=some t
end Go.TI
namespace Go.TI
noncomputable section
@[simp] theorem dR {α β:Type} (a:α) (b:α->aa β):dM (some a) b=b a:=rfl
@[simp] theorem aab {α β:Type} (a:α->aa β):dM (none:aa α) a=none:=rfl
def dD{α β:Type}{a:aa α}{c:α->aa β}{d:β}:dM a c=some d↔∃b,a=some b/\c b=some d:=by
 cases a<;>simp
@[simp] theorem ij {α:Type} (a:aa α):fT true a=a:=rfl
@[simp] theorem LX {α:Type} (a:aa α):fT false a=none:=rfl
def dL{α:Type}{a:Bool}{b:aa α}{c:α}:fT a b=some c↔a=true/\b=some c:=by
 cases a<;>simp
@[simp] theorem kf {α β d:Type} (a:α) (b:β) (c:α->β->d):two (a,b) c=c a b:=rfl
@[simp] theorem kw {e:Type} (d:Ex) (a:Env) (c:H) (b:Ex->Env->H->e):three (d,a,c) b=b d a c:=rfl
section lists
variable {α β:Type}
@[simp] theorem ks (b:List α) (a:Nat):lM b a=b[a]? :=by
 induction b generalizing a with
 |nil=>simp[lM]
 |cons e d c=>cases a with
  |zero=>rfl
  |succ a=>exact(c a).trans dt 
def kt(b:List α)(a:Nat)(c:α):kr b a c=if a<b.length then some (b.set a c)else none:=by
 induction b generalizing a with
 |nil=>rfl
 |cons h d f=>cases a with
  |zero=>rfl
  |succ a=>
   show(dM (kr d a c) λg=>some (h::g))=_;rw[f];by_cases e:a<d.length<;>simp[e]
def m9(a:Nat)(b:List α):takeN a b=if a<=b.length then some (b.take a)else none:=by
 induction a generalizing b with
 |zero=>rfl
 |succ a e=>cases b with
  |nil=>rfl
  |cons g c=>
   show(dM (takeN a c) λf=>some (g::f))=_;rw[e];by_cases d:a<=c.length<;>simp[d]
def lF(a:Nat)(b:List α):jJ a b=if a<=b.length then some (b.drop a)else none:=by
 induction a generalizing b with
 |zero=>rfl
 |succ a e=>cases b with
  |nil=>rfl
  |cons f c=>
   show jJ a c=_;rw[e];by_cases d:a<=c.length<;>simp[d]
@[simp] theorem jt (a:List α):kC a=a.length:=by
 induction a with
 |nil=>rfl
 |cons d c b=>show Nat.succ (kC c)=_;rw[b];rfl
@[simp] theorem qr (a b:List α):Db a b=some (a++b):=by
 induction a with
 |nil=>rfl
 |cons f d c=>show(dM (Db d b) λe=>some (f::e))=_;rw[c];rfl
def jr(a:α->aa β)(c:α)(b:List α):fD a (c::b)=dM (a c) λe=>dM (fD a b) λd=>some (e::d):=rfl
@[simp] theorem UJ (a:α->aa β):fD a []=some []:=rfl
def qT{i:α->aa β}{e:List α}{c:List β}:fD i e=some c↔e.length=c.length/\∀(b:Nat) h,e[b]? =some h->∃f,c[b]? =some f/\i h=some f:=by
 induction e generalizing c with
 |nil=>
  constructor
  ·intro a;simp at a;subst a;simp
  ·rintro⟨a,_⟩;simp at a;simp[aY a.symm]
 |cons h e m=>
  rw[jr];constructor
  ·intro a;obtain⟨f,o,a⟩:=dD.1 a;obtain⟨q,ht,a⟩:=dD.1 a;simp at a;subst a;obtain⟨hl,g⟩:=m.1 ht;refine⟨by simp[hl],λb k d=> ?_⟩;cases b with
   |zero=>simp at d;subst d;exact⟨f,dt,o⟩
   |succ b=>simp at d;obtain⟨p,n,j⟩:=g b k d;exact⟨p,by simpa using n,j⟩
  ·rintro⟨hl,g⟩;cases c with
   |nil=>simp at hl
   |cons f c=>
    obtain⟨r,l,j⟩:=g 0 h dt;simp at l;subst l;have:fD i e=some c:=m.2 ⟨by simpa using hl,λb k d=>by simpa using g (b+1) k (by simpa using d)⟩;rw[j,this];rfl
@[simp] theorem ng (b:α) (a:Nat):oI b a=List.replicate a b:=by
 induction a with
 |zero=>rfl
 |succ a c=>show b::oI b a=_;rw[c];rfl
@[simp] theorem yA (a:α->Bool) (b:List α):wt a b=b.all a:=by
 induction b with
 |nil=>rfl
 |cons c b e=>
  show @Bool.rec (λ_=>Bool) false (wt a b) (a c)=_;rw[e];cases d:a c<;>simp[d]
end lists
@[simp] theorem iw (a:Nat):gh a=some a:=by cases a<;>rfl
@[simp] theorem UE (b:Int):JZ b=some b:=by
 cases b with
 |ofNat a=>cases a<;>rfl
 |negSucc a=>cases a<;>rfl
@[simp] theorem nY (a:ak) (b:Int):wZ a b=some (.int a b):=by simp[wZ]
@[simp] theorem qO (a:Bool):wz a=some (.bool a):=by cases a<;>rfl
@[simp] theorem xl (a b:ak):(CM a b=true)↔a=b:=by cases a<;>cases b<;>decide
def xh(c b:Int):J7 c b=decide (c<b):=by
 cases c with
 |ofNat d=>cases b with
  |ofNat a=>
   show Nat.blt d a=_;rw[bD,aG];simp
  |negSucc a=>show false=_;symm;simp;omega
 |negSucc d=>cases b with
  |ofNat a=>show true=_;symm;simp;omega
  |negSucc a=>
   show Nat.blt a d=_;rw[bD,aG];simp;omega
def xp(c b:Int):Qg c b=(c==b):=by
 cases c with
 |ofNat d=>cases b with
  |ofNat a=>
   show Nat.beq d a=_;rw[bD,Nat.beq_eq];simp;omega
  |negSucc a=>rfl
 |negSucc d=>cases b with
  |ofNat a=>rfl
  |negSucc a=>
   show Nat.beq d a=_;rw[bD,Nat.beq_eq];simp
def jn(c:ak)(d:Int):Jx c d=c.wrap d:=by
 cases c<;>try rfl
 cases d with
 |ofNat a=>
  show @Bool.rec (λ_=>Int) (IntKind.i64.wrap (.ofNat a)) (Int.ofNat a) (Nat.ble a 9223372036854775807)=_;cases b:Nat.ble a 9223372036854775807
  ·rfl
  ·have:=bm b;show Int.ofNat a=_;exact(IntWalk.i64_in _ du).symm
 |negSucc a=>
  show @Bool.rec (λ_=>Int) (IntKind.i64.wrap (.negSucc a)) (Int.negSucc a) (Nat.ble a 9223372036854775807)=_;cases b:Nat.ble a 9223372036854775807
  ·rfl
  ·have:=bm b;show Int.negSucc a=_;exact(IntWalk.i64_in _ dq).symm
@[simp] theorem xN (a:ak) (b:Int):pi a b=some (.int a (a.wrap b)):=by simp[pi,jn]
def Fa(b a:List Nat):Tr b a=(b==a):=by
 induction b generalizing a with
 |nil=>cases a<;>rfl
 |cons c b f=>cases a with
  |nil=>rfl
  |cons d a=>
   show @Bool.rec (λ_=>Bool) false (Tr b a) (Nat.beq c d)=_;rw[f];rw[List.cons_beq_cons];cases e:Nat.beq c d
   ·have:(c==d)=false:=by rw[<-Bool.not_eq_true,beq_iff_eq,<-Nat.beq_eq];simp[e]
    simp[this]
   ·have:(c==d)=true:=by rw[beq_iff_eq,<-Nat.beq_eq];exact e
    simp[this]
def H.get_eq(b:H)(a:Nat):b.get a=if a<b.size then b.fc[b.size-1-a]? else none:=by
 obtain⟨d,f,e⟩:=b;show fT (Nat.blt a d) (lM e _)=_;by_cases c:a<d
 ·have:Nat.blt a d=true:=by rw[aG];exact c
  simp[this,c]
 ·have:Nat.blt a d=false:=by rw[<-Bool.not_eq_true,aG];exact c
  simp[this,c]
def H.On(b:Nat->T)(a:H)(c:iN):a.new b c=some (b a.size,⟨a.size+1,a.low,c::a.fc⟩):=by
 obtain⟨d,f,e⟩:=a;show(dM (gh (Nat.succ d)) λg=>some (b d,(⟨g,f,c::e⟩:H)))=_;simp
def H.uU{b k:H}{a:Nat}{j:iN}:b.put a j=some k↔
 a<b.size/\b.size-1-a<b.fc.length/\k=⟨b.size,if a<b.low then a else b.low,b.fc.set (b.size-1-a) j⟩:=by
 obtain⟨g,d,l⟩:=b;show fT (Nat.blt a g) (dM (kr l (g-1-a) j) λh=> @Bool.rec (λ_=>aa H) (some (⟨g,d,h⟩:H)) (some ⟨g,a,h⟩) (Nat.blt a d))=_↔_;rw[dL,aG,kt];constructor
 ·rintro⟨i,m⟩;obtain⟨h,f,e⟩:=dD.1 m;split at f
  ·rename_i hl;simp at f;subst f;refine⟨i,hl,?_⟩;by_cases c:a<d
   ·have:Nat.blt a d=true:=by rw[aG];exact c
    rw[this]at e;simp at e;simp[c,<-e]
   ·have:Nat.blt a d=false:=by rw[<-Bool.not_eq_true,aG];exact c
    rw[this]at e;simp at e;simp[c,<-e]
  ·simp at f
 ·rintro⟨i,hl,rfl⟩;refine⟨i,?_⟩;simp only[]at hl;rw[aq hl];by_cases c:a<d
  ·have:Nat.blt a d=true:=by rw[aG];exact c
   simp[this,c]
  ·have:Nat.blt a d=false:=by rw[<-Bool.not_eq_true,aG];exact c
   simp[this,c]
end
noncomputable section
structure Loc where
 ep:Nat
 iI:Nat
 cap:Nat
 sz:Nat
structure Mu where
 loc:Nat->aa Loc
 oH:Nat->Prop
instance :CoeFun Mu (λ_=>Nat->aa Loc):=⟨Mu.loc⟩
def mR(c:Mu)(b:Nat):Prop:=(∃d a,c d=some a/\a.iI=b)\/c.oH b
def T.scalar:T->Bool
 | .undef| .agg _| .tuple _=>false
 |_=>true
inductive j8:T->Prop where
 |bool (b:Bool):j8 (.bool b)
 |int (k:ak) (n:Int):j8 (.int k n)
 |str (s:List Nat):j8 (.str s)
 |ka:j8 .ka
 |ji (cs:List T) (h:∀v∈cs,j8 v):j8 (.ji cs)
 |dF (es:List T) (full:Bool) (h:∀v∈es,j8 v):j8 (.dF es full)
 |fR:j8 .fR
 |kv:j8 .kv
 |ku:j8 .ku
 |agg (cs:List T) (h:∀v∈cs,j8 v):j8 (.agg cs)
def uH(a:T):Prop:=a.scalar=true/\j8 a
def fa(a:List T):List T:=a.flatMap T.cells
def bytesOf(a:List Nat):ByteArray:=⟨(a.map UInt8.ofNat).toArray⟩
inductive fg (hp:af Obj) (μ:Mu):T->am->Prop where
 |undef:fg hp μ .undef (.tuple #[])
 |bool (b:Bool):fg hp μ (.bool b) (.bool b)
 |int (k:ak) (n:Int):fg hp μ (.int k n) (.int k n)
 |str (s:List Nat) (h:∀c∈s,c<256):fg hp μ (.str s) (.string (bytesOf s))
 |ka:fg hp μ .ka (.pointer none)
 |ptr (b ep i j:Nat) (L:Loc) (a:Addr) (hb:μ b=some L) (he:ep<=L.ep) (ha:ep=L.ep->a=⟨L.iI,i*L.sz+j,none⟩):
  fg hp μ (.ptr b ep i j) (.pointer (some a))
 |ji (cells:List T) (iI off:Nat) (arr:af am) (t:ab) (fz:Nat×Nat) (hn:¬mR μ iI) (hh:hp[iI]? =some (.cells arr t fz))
  (hs:off+cells.length<=arr.size) (hc:∀v∈cells,uH v)
  (hr:∀(k:Nat) v,cells[k]? =some v->fg hp μ v (arr.getD (off+k) Go.undef)):fg hp μ (.ji cells) (.pointer (some ⟨iI,off,none⟩))
 |m7 (full:Bool) (a:aa Addr):fg hp μ (.dF [] full) (.slice a 0 0)
 |dF (e:T) (es:List T) (full:Bool) (iI off cap sz:Nat) (arr:af am) (t:ab) (fz:Nat×Nat) (hn:¬mR μ iI)
  (hh:hp[iI]? =some (.cells arr t fz)) (hl:es.length+1<=cap) (hf:full=true->cap=es.length+1)
  (hu:∀v∈e::es,v.cells.length=sz) (hs:off+(fa (e::es)).length<=arr.size) (hc:∀v∈fa (e::es),uH v)
  (hr:∀(k:Nat) v,(fa (e::es))[k]? =some v->fg hp μ v (arr.getD (off+k) Go.undef)):
  fg hp μ (.dF (e::es) full) (.slice (some ⟨iI,off,none⟩) (es.length+1) cap)
 |fR (a:aa Addr) (cap:Nat):fg hp μ .fR (.slice a 0 cap)
 |arr (b ep o l:Nat) (full:Bool) (L:Loc) (a:aa Addr) (cp:Nat) (hb:μ b=some L) (he:ep<=L.ep) (hl:l<=cp)
  (h:ep=L.ep->(full=true->cp=l)/\(full=false->o+cp=L.cap)/\(cp≠0->a=some ⟨L.iI,o*L.sz,none⟩)):
  fg hp μ (.arr b ep o l full) (.slice a l cp)
 |func (f:aj) (caps:List T) (cs:af am) (hs:cs.size=caps.length)
  (hr:∀(k:Nat) v,caps[k]? =some v->fg hp μ v (cs.getD k Go.undef)):fg hp μ (.func f caps) (.func (.func f) #[] cs)
 |kv:fg hp μ .kv .nilFunc
 |ku:fg hp μ .ku .nilIface
 |iface (t:ab) (v:T) (c:am) (h:fg hp μ v c):fg hp μ (.iface t v) (.iface t c)
 |iter (b:Nat) (L:Loc) (a:Addr) (hb:μ b=some L) (h:L.ep=0->a=⟨L.iI,0,none⟩):fg hp μ (.iter b) (.pointer (some a))
 |map (b:Nat) (L:Loc) (i:Nat) (hb:μ b=some L) (h:L.ep=0->i=L.iI):fg hp μ (.map b) (.map (some i))
 |nh:fg hp μ .nh (.map none)
 |agg (cells:List T) (cs:af am) (hs:cs.size=cells.length) (hc:∀v∈cells,v.scalar=true)
  (hr:∀(k:Nat) v,cells[k]? =some v->fg hp μ v (cs.getD k Go.undef)):fg hp μ (.agg cells) (.agg cs)
 |tuple (vs:List T) (cs:af am) (hs:cs.size=vs.length)
  (hr:∀(k:Nat) v,vs[k]? =some v->fg hp μ v (cs.getD k Go.undef)):fg hp μ (.tuple vs) (.tuple cs)
structure Ext(hp:af Obj)(μ:Mu)(hp':af Obj)(μ':Mu):Prop where
 size:hp.size<=hp'.size
 mZ:∀i,i<hp.size->¬mR μ i->hp'[i]? =hp[i]? /\¬mR μ' i
 mu:∀b L,μ b=some L->∃L',μ' b=some L'/\(L'=L\/L.ep<L'.ep)
 oH:μ'.oH=μ.oH
 kept:∀i,i<hp.size->μ.oH i->hp'[i]? =hp[i]?
structure oU(w:World)(μ:Mu)(w':World)(μ':Mu):Prop where
 ext:Ext w.heap μ w'.heap μ'
 os:w'.os=w.os
 tape:w'.tape=w.tape
 output:w'.output=w.output
def Ext.refl(b:af Obj)(c:Mu):Ext b c b c:=⟨au _,λ_ _ a=>⟨rfl,a⟩,λ_ d a=>⟨d,a,.inl rfl⟩,rfl,λ_ _ _=>rfl⟩
def Ext.trans{hp f g:af Obj}{h i j:Mu}(a:Ext hp h f i)(d:Ext f i g j):Ext hp h g j:=by
 refine⟨aS a.size d.size,λc b s=> ?_,λe k r=> ?_,d.oH.trans a.oH,λc b hr=> ?_⟩
 rotate_right
 ·rw[d.kept c (bE b a.size) (by rw[a.oH];exact hr),a.kept c b hr]
 ·obtain⟨n,t⟩:=a.mZ c b s;obtain⟨o,u⟩:=d.mZ c (bE b a.size) t;exact⟨o.trans n,u⟩
 ·obtain⟨l,p,r1⟩:=a.mu e k r;obtain⟨m,q,r2⟩:=d.mu e l p;refine⟨m,q,?_⟩;rcases r1 with rfl|r1
  ·exact r2
  ·rcases r2 with rfl|r2
   ·exact .inr r1
   ·exact .inr (Nat.lt_trans r1 r2)
def oU.refl(a:World)(b:Mu):oU a b a b:=⟨Ext.refl _ _,rfl,rfl,rfl⟩
def oU.trans{c w1 d:World}{e f g:Mu}(a:oU c e w1 f)(b:oU w1 f d g):oU c e d g:=
 ⟨a.ext.trans b.ext,b.os.trans a.os,b.tape.trans a.tape,b.output.trans a.output⟩
def oM{a:af Obj}{b:Nat}{f:Obj}(c:a[b]? =some f):b<a.size:=by
 rcases aD b a.size with e|d
 ·exact e
 ·simp[cQ d]at c
def fg.ext{A B:af Obj}{C D:Mu}{u:T}{t:am}(e:fg A C u t)(k:Ext A C B D):fg B D u t:=by
 induction e with
 |undef=>exact .undef
 |bool a=>exact .bool a
 |int N q=>exact .int N q
 |str R e=>exact .str R e
 |ka=>exact .ka
 |ptr a x z M g d i J I=>
  obtain⟨h,j,r⟩:=k.mu a g i;refine .ptr a x z M h d j ?_ ?_
  ·rcases r with rfl|r<;>omega
  ·intro b;rcases r with rfl|r
   ·exact I b
   ·omega
 |ji w l off arr s fz y p f o _ c=>
  obtain⟨b,q⟩:=k.mZ l (oM p) y;exact .ji w l off arr s fz q (b.trans p) f o c
 |m7 n d=>exact .m7 n d
 |dF b G n l off v S arr s fz y p hl K L f o _ c=>
  obtain⟨Q,q⟩:=k.mZ l (oM p) y;exact .dF b G n l off v S arr s fz q (Q.trans p) hl K L f o c
 |fR d v=>exact .fR d v
 |arr a x P O n g d F i J hl e=>
  obtain⟨h,j,r⟩:=k.mu a g i;refine .arr a x P O n h d F j ?_ hl ?_
  ·rcases r with rfl|r<;>omega
  ·intro b;rcases r with rfl|r
   ·exact e b
   ·omega
 |func H E m f _ c=>exact .func H E m f c
 |kv=>exact .kv
 |ku=>exact .ku
 |iface s u t _ c=>exact .iface s u t c
 |iter a g d i e=>
  obtain⟨h,j,r⟩:=k.mu a g i;refine .iter a h d j ?_;intro b;rcases r with rfl|r
  ·exact e b
  ·omega
 |map a g z i e=>
  obtain⟨h,j,r⟩:=k.mu a g i;refine .map a h z j ?_;intro b;rcases r with rfl|r
  ·exact e b
  ·omega
 |nh=>exact .nh
 |agg w m f o _ c=>exact .agg w m f o c
 |tuple U m f _ c=>exact .tuple U m f c
def fV(e:af Obj)(f:Mu)(d:List T)(a:List am):Prop:=
 d.length=a.length/\∀(b:Nat) c,d[b]? =some c->fg e f c (a.getD b Go.undef)
def fV.ext{c d:af Obj}{f g:Mu}{e:List T}{a:List am}(b:fV c f e a)(k:Ext c f d g):fV d g e a:=
 ⟨b.1,λi j h=>(b.2 i j h).ext k⟩
def fV.nil{b:af Obj}{c:Mu}:fV b c [] []:=⟨rfl,λd e a=>by simp at a⟩
def fV.cons{b:af Obj}{d:Mu}{h:T}{e:am}{i:List T}{f:List am}(j:fg b d h e)(g:fV b d i f):fV b d (h::i) (e::f):=by
 refine⟨by simp[g.1],λc k a=> ?_⟩;cases c with
 |zero=>simp at a;subst a;simpa using j
 |succ c=>simp at a;simpa using g.2 c k a
def fV.lJ{d:af Obj}{f:Mu}{e:T}{g:List T}{c:List am}(h:fV d f (e::g) c):∃a b,c=a::b/\fg d f e a/\fV d f g b:=by
 obtain⟨hl,hr⟩:=h;cases c with
 |nil=>simp at hl
 |cons a b=>exact⟨a,b,rfl,by simpa using hr 0 e dt,by simpa using hl,λj k i=>by simpa using hr (j+1) k (by simpa using i)⟩
def fV.append{c:af Obj}{d:Mu}{a g:List T}{b e:List am}(f:fV c d a b)(h:fV c d g e):fV c d (a++g) (b++e):=by
 induction a generalizing b with
 |nil=>obtain⟨hl,_⟩:=f;simp at hl;rw[aY hl.symm];simpa using h
 |cons n a k=>obtain⟨l,m,rfl,j,i⟩:=f.lJ;exact fV.cons j (k i)
def fV.take{e:af Obj}{f:Mu}{a:List T}{c:List am}(d:fV e f a c)(b:Nat):fV e f (a.take b) (c.take b):=by
 induction b generalizing a c with
 |zero=>simpa using fV.nil
 |succ b i=>cases a with
  |nil=>obtain⟨hl,_⟩:=d;simp at hl;rw[aY hl.symm];simpa using fV.nil
  |cons l a=>obtain⟨j,k,rfl,h,g⟩:=d.lJ;exact fV.cons h (i g)
def fV.drop{e:af Obj}{f:Mu}{a:List T}{c:List am}(d:fV e f a c)(b:Nat):fV e f (a.drop b) (c.drop b):=by
 induction b generalizing a c with
 |zero=>simpa using d
 |succ b h=>cases a with
  |nil=>obtain⟨hl,_⟩:=d;simp at hl;rw[aY hl.symm];simpa using fV.nil
  |cons k a=>obtain⟨i,j,rfl,_,g⟩:=d.lJ;simpa using h g
def fV.get{f:af Obj}{h:Mu}{b:List T}{a:List am}(d:fV f h b a){k:Nat}{v:T}(g:b[k]? =some v):∃c,a[k]? =some c/\fg f h v c:=by
 have e:k<a.length:=by
  rw[<-d.1];rcases aD k b.length with j|i
  ·exact j
  ·simp[aK i]at g
 refine⟨a[k],by simp[e],?_⟩;simpa[List.getD,e]using d.2 k v g
def qI{d:af Obj}{f:Mu}{b:T}{a:am}(c:fg d f b a)(e:b.scalar=true):a.oneCell'=true:=by
 cases c<;>first|rfl|(simp[T.scalar]at e)
def fg.cells{p:af Obj}{r:Mu}{b:T}{c:am}(d:fg p r b c)(C:b.gJ=true):
 fV p r b.cells c.cells.toList/\(∀e∈b.cells,e.scalar=true)/\∀e∈c.cells.toList,e.oneCell'=true:=by
 have a:∀{b:T} {c:am},fg p r b c->b.scalar=true->b.cells=[b]->c.cells= #[c]->
  fV p r b.cells c.cells.toList/\(∀e∈b.cells,e.scalar=true)/\∀e∈c.cells.toList,e.oneCell'=true:=by
  intro b c d f A j;rw[A,j];refine⟨fV.cons d fV.nil,?_,?_⟩
  ·intro e l;simp at l;rw[l];exact f
  ·intro e l;simp at l;rw[l];exact qI d f
 cases d with
 |agg n s f j hr=>
  have K:fV p r n s.toList:=⟨by simp[f],λm b A=>by simpa[aV,List.getD]using hr m b A⟩;refine⟨K,j,?_⟩;intro e O;have l:e∈s.toList:=O;obtain⟨m,y,rfl⟩:=List.getElem_of_mem l;have D:m<n.length:=by simp at y;omega
  have:=hr m n[m] (by simp[D]);have J:=qI this (j _ (aF D));simp at y;simpa[aV,y]using J
 |undef=>simp[T.gJ]at C
 |tuple=>simp[T.gJ]at C
 |bool h=>exact a (.bool h) rfl rfl rfl
 |int m R=>exact a (.int m R) rfl rfl rfl
 |str U i=>exact a (.str U i) rfl rfl rfl
 |ka=>exact a .ka rfl rfl rfl
 |ptr h v B P k g i w L=>exact a (.ptr h v B P k g i w L) rfl rfl rfl
 |ji n t off arr q fz z x f j hr=>exact a (.ji n t off arr q fz z x f j hr) rfl rfl rfl
 |m7 o g=>exact a (.m7 o g) rfl rfl rfl
 |dF G H o t off u V arr q fz z x hl M N f j hr=>exact a (.dF G H o t off u V arr q fz z x hl M N f j hr) rfl rfl rfl
 |fR g u=>exact a (.fR g u) rfl rfl rfl
 |arr h v S Q o k g F i w hl d=>exact a (.arr h v S Q o k g F i w hl d) rfl rfl rfl
 |func I E s f hr=>exact a (.func I E s f hr) rfl rfl rfl
 |kv=>exact a .kv rfl rfl rfl
 |ku=>exact a .ku rfl rfl rfl
 |iface q b c d=>exact a (.iface q b c d) rfl rfl rfl
 |iter h k g i d=>exact a (.iter h k g i d) rfl rfl rfl
 |map h k B i d=>exact a (.map h k B i d) rfl rfl rfl
 |nh=>exact a .nh rfl rfl rfl
structure yH(hp:af Obj)(μ:Mu)(L:Loc)(sx:Bool)(em:List T):Prop where
 row:∃arr t,hp[L.iI]? =some (.cells arr t (0,0))/\arr.size=L.cap*L.sz/\fV hp μ (fa em) (arr.toList.take (fa em).length)
 room:em.length<=L.cap
 sx:sx=true->L.cap=em.length
 size:∀v∈em,v.cells.length=L.sz
 scalar:∀v∈fa em,v.scalar=true
def aao(c:af Obj)(i:Mu)(j:Loc)(e:List T):Prop:=
 ∃a:af MapEntry,c[j.iI]? =some (.map a a.size)/\a.size=e.length/\
  ∀(d:Nat) h,e[d]? =some h->∃f g b,h= .tuple [f,g]/\a[d]? =some b/\b.born=d/\fg c i f b.key/\fg c i g b.val
def aap(c:af Obj)(i:Mu)(g:Loc)(h:List T):Prop:=
 ∃e d f b a,h=[.map e,.int .i64 (.ofNat f),.int .i64 (.ofNat b),.int .i64 (.ofNat a)]/\fg c i (.map e) (.map (some d))/\b<=a/\
  c[g.iI]? =some (.mapIter (some d) b (Array.range f) a)
structure pZ(hp:af Obj)(μ:Mu)(L:Loc)(x:iN):Prop where
 ep:x.ep=L.ep
 sz:x.sz=L.sz
 plain:x.it=false->yH hp μ L x.exact x.em
 iter:x.it=true->x.ep=0/\((∃s pos,x.em=[.str s,.int .i64 (.ofNat pos)]/\(∀c∈s,c<256)/\hp[L.iI]? =some (.stringIter (bytesOf s) pos))\/aao hp μ L x.em\/aap hp μ L x.em)
structure St(cx:Ctx)(base:Nat)(hp:af Obj)(μ:Mu)(h:H):Prop where
 wf:h.fc.length=h.size
 fit:base<=hp.size
 box:∀b L,μ b=some L->∃x,h.get b=some x/\pZ hp μ L x
 inj:∀b b' L L',μ b=some L->μ b'=some L'->L.iI=L'.iI->b=b'
 low:∀b L,μ b=some L->base<=L.iI
 apart:∀b L,μ b=some L->¬μ.oH L.iI
 pW:∀i,μ.oH i->i<hp.size
 yh:∀g cs,cx.gl g=some cs->fg hp μ (.ji cs) (.pointer (some ⟨g,0,none⟩))
def yH.ext{c d:af Obj}{g h:Mu}{b:Loc}{f:Bool}{e:List T}(a:yH c g b f e)(j:Ext c g d h)(n:d[b.iI]? =c[b.iI]?):yH d h b f e:=by
 obtain⟨i,o,k,l,m⟩:=a.row;exact⟨⟨i,o,n.trans k,l,m.ext j⟩,a.room,a.sx,a.size,a.scalar⟩
def pZ.ext{k l:af Obj}{n o:Mu}{e:Loc}{i:iN}(g:pZ k n e i)(f:Ext k n l o)(h:l[e.iI]? =k[e.iI]?):pZ l o e i:=
 ⟨g.ep,g.sz,λd=>(g.plain d).ext f h,λd=>by
   obtain⟨j,⟨C,m,a,b,c⟩|⟨q,a,b,c⟩|⟨A,z,m,D,p,a,b,c,w⟩⟩:=g.iter d
   ·exact⟨j,.inl ⟨C,m,a,b,h.trans c⟩⟩
   ·refine⟨j,.inr (.inl ⟨q,h.trans a,b,λy i x=> ?_⟩)⟩;obtain⟨d,E,B,r,s,t,u,v⟩:=c y i x;exact⟨d,E,B,r,s,t,u.ext f,v.ext f⟩
   ·exact⟨j,.inr (.inr ⟨A,z,m,D,p,a,b.ext f,c,h.trans w⟩)⟩⟩
def pZ.lt{e:af Obj}{i:Mu}{b:Loc}{f:iN}(c:pZ e i b f):b.iI<e.size:=by
 cases d:f.it with
 |false=>obtain⟨j,m,a,_⟩:=(c.plain d).row;exact oM a
 |true=>
  obtain⟨_,⟨s,l,_,_,g⟩|⟨k,a,_⟩|⟨_,_,_,_,_,_,_,_,h⟩⟩:=c.iter d
  ·exact oM g
  ·exact oM a
  ·exact oM h
def St.lt{cx:Ctx}{e:Nat}{c:af Obj}{d:Mu}{f:H}(s:St cx e c d f){b:Nat}{a:Loc}(g:d b=some a):a.iI<c.size:=by
 obtain⟨i,_,h⟩:=s.box b a g;exact h.lt
section
variable {P:ai}{cx:Ctx}
structure ux(P:ai)(t:ab)(ty:Ty):Prop where
 is:∃cmp,TV P t cmp=some ty
def jq{a:Nat}(b:a<256):(UInt8.ofNat a).toNat=a:=by
 simp[UInt8.toNat_ofNat'];omega
def L5(a:List UInt8):zH a=some (a.map UInt8.toNat):=by
 induction a with
 |nil=>rfl
 |cons d a b=>
  show(dM (gh d.toNat) λe=>dM (zH a) λc=>some (e::c))=_;rw[b];simp
def wM(a:ByteArray):bytesOf (a.data.toList.map UInt8.toNat)=a:=by
 unfold bytesOf;rw[cH];have:(UInt8.ofNat∘UInt8.toNat)=id:=by funext b;simp
 rw[this];simp
def fg.nD{hp:af Obj}{μ:Mu}{d:am}{b:T}(a:nD d=some b):fg hp μ b d/\b.scalar=true:=by
 unfold TI.nD at a;split at a
 ·simp at a;subst a;exact⟨.bool _,rfl⟩
 ·simp at a;subst a;exact⟨.int _ _,rfl⟩
 ·rename_i f;rw[L5]at a;simp at a;subst a;refine⟨?_,rfl⟩;have:=fg.str (hp:=hp) (μ:=μ) (f.data.toList.map UInt8.toNat) (by intro g c;simp at c;obtain⟨e,_,rfl⟩:=c;exact e.toNat_lt);rwa[wM]at this
 ·simp at a;subst a;exact⟨.ka,rfl⟩
 ·simp at a;subst a;exact⟨.nh,rfl⟩
 ·simp at a;subst a;exact⟨.m7 _ _,rfl⟩
 ·simp at a;subst a;exact⟨.kv,rfl⟩
 ·simp at a;subst a;exact⟨.ku,rfl⟩
 ·simp at a
def fV.rQ{hp:af Obj}{μ:Mu}{d:List am}{g:List T}(k:fD TI.nD d=some g):fV hp μ g d/\∀i∈g,i.scalar=true:=by
 obtain⟨hl,j⟩:=qT.1 k;refine⟨⟨hl.symm,λb i f=> ?_⟩,λi f=> ?_⟩
 ·have e:b<d.length:=by
   rcases aD b g.length with a|a
   ·omega
   ·simp[aK a]at f
  obtain⟨m,c,h⟩:=j b d[b] (by simp[e]);rw[f]at c;simp at c;subst c;simpa[List.getD,e]using(fg.nD h).1
 ·obtain⟨b,e,rfl⟩:=List.getElem_of_mem f;have l:b<d.length:=dq;obtain⟨m,c,h⟩:=j b d[b] (by simp[l]);simp[e]at c;subst c;exact(fg.nD (hp:=hp) (μ:=μ) h).2
def fg.wP{e:af Obj}{f:Mu}{a:List T}{b:af am}(d:fV e f a b.toList)(g:∀c∈a,c.scalar=true):fg e f (.agg a) (.agg b):=
 .agg a b (by simpa using d.1.symm) g λi c h=>by simpa[aV,List.getD]using d.2 i c h
def fg.xZ{hp:af Obj}{μ:Mu}{c:am}{d:T}(a:xZ c=some d):fg hp μ d c:=by
 unfold TI.xZ at a;split at a
 ·rename_i h;obtain⟨i,e,b⟩:=dD.1 a;simp at b;subst b;obtain⟨f,g⟩:=fV.rQ (hp:=hp) (μ:=μ) e;exact fg.wP f g
 ·exact(fg.nD a).1
def ux.unfold{f:ab}{c:Ty}(a:ux P f c):∃b d g,P.info? f=some b/\P.underlying f=some d/\b.zero=some g/\fD nD g.cells.toList=some c.zero/\
 Ax P d=some c.u/\sI d g=true/\c.zero.length=b.size/\b.size=c.size/\b.bytes=c.bytes/\
 (c.cmp=true->P.stoodInHeld f=false/\P.eqGuardType P.depth f=false/\J5 d=true):=by
 obtain⟨p,a⟩:=a.is;unfold TV at a;obtain⟨b,j,a⟩:=dD.1 a;obtain⟨d,k,a⟩:=dD.1 a;obtain⟨g,l,a⟩:=dD.1 a;obtain⟨r,m,a⟩:=dD.1 a;obtain⟨q,n,a⟩:=dD.1 a;obtain⟨o,a⟩:=dL.1 a;obtain⟨h,a⟩:=dL.1 a;obtain⟨e,a⟩:=dL.1 a;simp at a;rw[<-a];refine⟨b,d,g,j,k,l,m,n,o,?_,rfl,rfl,?_⟩
 ·rw[jt]at h;exact aC h
 ·intro i;simp only[]at i;rw[i]at e;simp at e;exact⟨e.1.1,e.1.2,e.2⟩
def ux.run_sizeOf{a:ab}{b:Ty}(d:ux P a b)(c:World):(sizeOf a).run P c= .ok b.size c:=by
 obtain⟨h,g,i,e,_,_,_,_,_,_,f,_⟩:=d.unfold;simp[sizeOf,typeInfo,e,f]
def ux.run_typeInfo{c:ab}{b:Ty}(e:ux P c b)(d:World):∃a,(typeInfo c).run P d= .ok a d/\a.bytes=b.bytes/\a.size=b.size:=by
 obtain⟨a,i,j,f,_,_,_,_,_,_,g,h,_⟩:=e.unfold;exact⟨a,by simp[typeInfo,f],h,g⟩
def aaf:TypeDesc->Bool
 | .struct _| .array _ _=>true
 |_=>false
def zh{b:TypeDesc}{c:Ty}(a:Ax P b=some c.u):c.isAgg=aaf b:=by
 unfold Ty.isAgg;cases b<;>simp only[Ax]at a<;>first|(injection a with a;rw[<-a];rfl)|(split at a<;>simp at a;rw[<-a];rfl)
def ux.sR{a:ab}{b:Ty}(e:ux P a b)(c:World):(isAgg a).run P c= .ok b.isAgg c:=by
 obtain⟨h,d,i,_,f,_,_,g,_⟩:=e.unfold;rw[zh g];simp only[isAgg,Sem.run_bind,run_underlying f,Result.andThen_ok];cases d<;>rfl
def ux.zero{s:ab}{a:Ty}(e:ux P s a)(t:World):∃b,(zeroValue s).run P t= .ok b t/\(∀hp μ,fg hp μ a.j1 b)/\(∀hp μ,fV hp μ a.zero b.cells.toList)/\
 (∀z∈a.zero,z.scalar=true)/\a.zero.length=a.size/\a.j1.cells=a.zero/\a.j1.gJ=true/\b.cells.size=a.size:=by
 obtain⟨H,n,b,u,D,v,f,o,g,E,F,G,_⟩:=e.unfold;have h:=(fV.rQ (hp:= #[]) (μ:=⟨λ_=>none,λ_=>False⟩) f).2;have l:a.zero.length=b.cells.size:=by
  have:=(fV.rQ (hp:= #[]) (μ:=⟨λ_=>none,λ_=>False⟩) f).1.1;simpa using this
 refine⟨b,by simp[zeroValue,typeInfo,u,v],?_,λhp μ=>(fV.rQ f).1,h,dq,?_⟩
 ·intro hp μ;have d:=(fV.rQ (hp:=hp) (μ:=μ) f).1;unfold Ty.j1;rw[zh o];cases n with
  |struct C=>cases b with
   |agg m=>exact fg.wP d h
   |_=>simp[sI]at g
  |array I B=>cases b with
   |agg m=>exact fg.wP d h
   |_=>simp[sI]at g
  |_=>
   have i:b.cells= #[b]:=by cases b<;>simp[sI]at g<;>rfl
   rw[i]at d;obtain⟨hl,_⟩:=d;simp at hl
   match j:a.zero,hl with
   | [c],_=>
    have d:=(fV.rQ (hp:=hp) (μ:=μ) f).1;rw[i,j]at d;obtain⟨A,m,q,x,_⟩:=d.lJ;simp at q;show fg hp μ c b;rw[q.1];exact x
 ·have p:=zh o;have w:(a.isAgg=true/\a.j1= .agg a.zero)\/(a.isAgg=false/\∃c,a.zero=[c]/\a.j1=c/\c.scalar=true):=by
   cases k:a.isAgg with
   |true=>left;exact⟨rfl,by unfold Ty.j1;rw[k]⟩
   |false=>
    right;refine⟨rfl,?_⟩;have i:b.cells= #[b]:=by
     rw[k]at p;cases n<;>simp[aaf]at p<;>cases b<;>simp[sI]at g<;>rfl
    rw[i]at l;simp at l
    match j:a.zero,l with
    | [c],_=>exact⟨c,rfl,by unfold Ty.j1;rw[k,j];rfl,h c (by simp[j])⟩
  rcases w with⟨_,e⟩|⟨_,c,y,e,r⟩
  ·rw[e];exact⟨rfl,rfl,dq⟩
  ·rw[e,y];refine⟨?_,?_,dq⟩
   ·cases c<;>simp[T.scalar]at r<;>rfl
   ·cases c<;>simp[T.scalar]at r<;>rfl
structure iP(P:ai)(cx:Ctx):Prop where
 ty:∀t ty,cx.ty t=some ty->ux P t ty
def j7(d:af Obj)(g:Mu)(e:Nat)(c:Env)(f:af am):Prop:=
 ∀a b,c.get e a=some b->fg d g b (f.getD a Go.undef)
def j7.ext{b c:af Obj}{f g:Mu}{d:Nat}{a:Env}{e:af am}(h:j7 b f d a e)(l:Ext b f c g):j7 c g d a e:=
 λj k i=>(h j k i).ext l
def fX{k:Nat}{c:af Obj}{e:Mu}{n:H}{j:Nat}{g:Env}{f:Act}(r:St cx k c e n)(q:j7 c e j g f.tmps){d:ah}{a:T}
 (b:fG cx j g d=some a):fg c e a (f.eval d):=by
 cases d with
 |tmp s=>exact q s a b
 |const t=>exact fg.xZ b
 |global m=>
  obtain⟨l,o,i⟩:=dD.1 b;simp at i;subst i;exact r.yh m l o
 |func h=>
  have:T.func h []=a:=by simpa[fG]using b
  subst this;exact .func h [] #[] rfl λu a p=>by simp at p
def uW{i:Nat}{c:af Obj}{e:Mu}{j:H}{h:Nat}{g:Env}{f:Act}(o:St cx i c e j)(n:j7 c e h g f.tmps){b:List ah}{d:List T}
 (a:pq cx h g b=some d):fV c e d (b.map f.eval):=by
 induction b generalizing d with
 |nil=>simp[pq]at a;subst a;exact fV.nil
 |cons p b m=>
  unfold pq at a;rw[jr]at a;obtain⟨r,k,a⟩:=dD.1 a;obtain⟨q,l,a⟩:=dD.1 a;simp at a;subst a;exact fV.cons (fX o n k) (m l)
end
end
noncomputable section
section inv
variable {hp:af Obj}{μ:Mu}{c:am}
def fg.pG{b:Bool}(h:fg hp μ (.bool b) c):c= .bool b:=by cases h;rfl
def fg.jH{b:ak}{d:Int}(h:fg hp μ (.int b d) c):c= .int b d:=by cases h;rfl
def fg.ll{b:List Nat}(h:fg hp μ (.str b) c):c= .string (bytesOf b)/\∀d∈b,d<256:=by cases h;exact⟨rfl,by assumption⟩
def fg.pF(h:fg hp μ .ka c):c= .pointer none:=by cases h;rfl
def fg.oX{f d g i:Nat}(h:fg hp μ (.ptr f d g i) c):∃b a,c= .pointer (some a)/\μ f=some b/\d<=b.ep/\(d=b.ep->a=⟨b.iI,g*b.sz+i,none⟩):=by
 cases h with|ptr _ _ _ _ b a k l j=>exact⟨b,a,rfl,k,l,j⟩
def fg.ly{f:List T}(h:fg hp μ (.ji f) c):∃d off b i fz,c= .pointer (some ⟨d,off,none⟩)/\¬mR μ d/\hp[d]? =some (.cells b i fz)/\
 off+f.length<=b.size/\(∀g∈f,uH g)/\∀(j:Nat) g,f[j]? =some g->fg hp μ g (b.getD (off+j) Go.undef):=by
 cases h with|ji _ d off b i fz m l n k hr=>exact⟨d,off,b,i,fz,rfl,m,l,n,k,hr⟩
def fg.rV{j g o f:Nat}{i:Bool}(h:fg hp μ (.arr j g o f i) c):∃b a d,c= .slice a f d/\μ j=some b/\g<=b.ep/\f<=d/\
 (g=b.ep->(i=true->d=f)/\(i=false->o+d=b.cap)/\(d≠0->a=some ⟨b.iI,o*b.sz,none⟩)):=by
 cases h with|arr _ _ _ _ _ b a d k l hl h=>exact⟨b,a,d,rfl,k,l,hl,h⟩
def fg.zj(h:fg hp μ .fR c):∃a b,c= .slice a 0 b:=by cases h;exact⟨_,_,rfl⟩
def fg.tK{b:Bool}(h:fg hp μ (.dF [] b) c):∃a,c= .slice a 0 0:=by cases h;exact⟨_,rfl⟩
def fg.tL{j:T}{b:List T}{m:Bool}(h:fg hp μ (.dF (j::b) m) c):∃g off i k f l fz,c= .slice (some ⟨g,off,none⟩) (b.length+1) i/\¬mR μ g/\
 hp[g]? =some (.cells f l fz)/\b.length+1<=i/\(m=true->i=b.length+1)/\(∀d∈j::b,d.cells.length=k)/\off+(fa (j::b)).length<=f.size/\
 (∀d∈fa (j::b),uH d)/\∀(n:Nat) d,(fa (j::b))[n]? =some d->fg hp μ d (f.getD (off+n) Go.undef):=by
 cases h with|dF _ _ _ g off i k f l fz s r hl q u t p hr=>exact⟨g,off,i,k,f,l,fz,rfl,s,r,hl,q,u,t,p,hr⟩
def fg.qX{f:aj}{d:List T}(h:fg hp μ (.func f d) c):∃b,c= .func (.func f) #[] b/\fV hp μ d b.toList:=by
 cases h with|func _ _ b g hr=>exact⟨b,rfl,by simpa using g.symm,λj k i=>by simpa[aV,List.getD]using hr j k i⟩
def fg.tN(h:fg hp μ .kv c):c= .nilFunc:=by cases h;rfl
def fg.tM(h:fg hp μ .ku c):c= .nilIface:=by cases h;rfl
def fg.we{b:ab}{f:T}(h:fg hp μ (.iface b f) c):∃d,c= .iface b d:=by cases h;exact⟨_,rfl⟩
def fg.OG{d:Nat}(h:fg hp μ (.iter d) c):∃b a,c= .pointer (some a)/\μ d=some b/\(b.ep=0->a=⟨b.iI,0,none⟩):=by
 cases h with|iter _ b a f h=>exact⟨b,a,rfl,f,h⟩
def fg.oY{d:List T}(h:fg hp μ (.agg d) c):∃b,c= .agg b/\fV hp μ d b.toList/\∀f∈d,f.scalar=true:=by
 cases h with|agg _ b i g hr=>exact⟨b,rfl,⟨by simpa using i.symm,λk f j=>by simpa[aV,List.getD]using hr k f j⟩,g⟩
def fg.zi{d:List T}(h:fg hp μ (.tuple d) c):∃b,c= .tuple b/\fV hp μ d b.toList:=by
 cases h with|tuple _ b f hr=>exact⟨b,rfl,by simpa using f.symm,λi j g=>by simpa[aV,List.getD]using hr i j g⟩
end inv
section
variable {P:ai}{cx:Ctx}{base:Nat}{w:World}{μ:Mu}{h:H}{mask:Nat}{e:Env}{a:Act}{o:Oper}
def xE(μ g:Mu)(d f:Nat):Prop:=d<=f/\(∀b,g b≠none->μ b≠none\/(d<=b/\b<f))/\∀b,d<=b->b<f->g b≠none
def xE.refl(μ:Mu)(b:Nat):xE μ μ b b:=⟨au _,λ_ h=> .inl h,λf g d=>absurd d dq⟩
def xE.trans{hp s t:af Obj}{μ i j:Mu}{k g l:Nat}(h:xE μ i k g)(d:xE i j g l)(x:Ext s i t j):xE μ j k l:=by
 have v:=h.1;have z:=d.1;refine⟨aS h.1 d.1,λb f=> ?_,λb f q=> ?_⟩
 ·rcases d.2.1 b f with x|x
  ·rcases h.2.1 b x with y|y
   ·exact .inl y
   ·exact .inr ⟨y.1,dq⟩
  ·exact .inr ⟨dq,x.2⟩
 ·by_cases r:b<g
  ·obtain⟨m,n⟩:=Option.ne_none_iff_exists'.1 (h.2.2 b f r);obtain⟨u,p,_⟩:=x.mu b m n;rw[p];simp
  ·exact d.2.2 b dq q
def iZ(cx:Ctx)(base:Nat)(w:World)(μ:Mu)(i:Nat)(g:Result Next)(j:T)(f:H):Prop:=
 ∃c b d,(g= .ok (.value c) b\/(g= .ok .skip b/\c=Go.undef))/\fg b.heap d j c/\St cx base b.heap d f/\oU w μ b d/\xE μ d i f.size
def iZ.pure{b:Result Next}{d:T}{c:am}(g:St cx base w.heap μ h)(hr:b= .ok (.value c) w)(f:fg w.heap μ d c):iZ cx base w μ h.size b d h:=
 ⟨c,w,μ,.inl hr,f,g,oU.refl _ _,xE.refl _ _⟩
def fK{h d:H}{b:aa T}{f:T}:val h b=some (.val f d)↔b=some f/\d=h:=by
 unfold val;cases b with
 |none=>simp
 |some g=>simp;intro _;exact eq_comm
def zL{h:H}{b:aa T}{f:aj}{d:List T}:val h b≠some (.call f d):=by
 unfold val;cases b<;>simp
def Am{d:ah}(g:St cx base w.heap μ h)(l:j7 w.heap μ mask e a.tmps)(b:o.op= .move d\/o.op= .assign d){i:T}{f:H}
 (j:B1 d cx mask e h=some (.val i f)):iZ cx base w μ h.size ((execOp a.eval o).run P w) i f:=by
 obtain⟨k,rfl⟩:=fK.1 j;refine iZ.pure g ?_ (fX g l k);rcases b with b|b<;>simp[execOp,b]
def GR{c n p:ah}(d:St cx base w.heap μ h)(i:j7 w.heap μ mask e a.tmps)(l:o.op= .pick c n p){m:T}{j:H}
 (b:DQ c n p cx mask e h=some (.val m j)):iZ cx base w μ h.size ((execOp a.eval o).run P w) m j:=by
 obtain⟨f,q,b⟩:=dD.1 b;have r:=fX d i q;cases f<;>simp at b;rename_i f;have k:=r.pG;cases f with
 |false=>
  obtain⟨g,rfl⟩:=fK.1 b;exact iZ.pure d (by simp[execOp,l,k,asBool]) (fX d i g)
 |true=>
  obtain⟨g,rfl⟩:=fK.1 b;exact iZ.pure d (by simp[execOp,l,k,asBool]) (fX d i g)
def AA{l:ah}(g:St cx base w.heap μ h)(p:j7 w.heap μ mask e a.tmps)(i:o.op= .nilCheck l){k:T}{j:H}
 (f:qA l cx mask e h=some (.val k j)):iZ cx base w μ h.size ((execOp a.eval o).run P w) k j:=by
 obtain⟨m,n,f⟩:=dD.1 f;have d:=fX g p n;cases m<;>simp at f
 ·obtain⟨rfl,rfl⟩:=f;obtain⟨q,r,b,_⟩:=d.oX;exact iZ.pure g (by simp[execOp,i,b]) (b▸d)
 ·obtain⟨rfl,rfl⟩:=f;obtain⟨t,off,s,v,fz,b,_⟩:=d.ly;exact iZ.pure g (by simp[execOp,i,b]) (b▸d)
 ·obtain⟨rfl,rfl⟩:=f;obtain⟨u,b,_⟩:=d.qX;exact iZ.pure g (by simp[execOp,i,b]) (b▸d)
def EF(iG:iP P cx){d:ab}{g:ah}(p:St cx base w.heap μ h)(B:j7 w.heap μ mask e a.tmps)(x:o.op= .makeInterface d g){f:T}{k:H}
 (b:zq d g cx mask e h=some (.val f k)):iZ cx base w μ h.size ((execOp a.eval o).run P w) f k:=by
 obtain⟨q,y,b⟩:=dD.1 b;obtain⟨F,j,G,C,s,D,E,l,_⟩:=(iG.ty d q y).unfold;have A:∀{i:H},(dM (fG cx mask e g) λa=>fT a.gJ (val h (some (.iface d a))))=some (.val f i)->(∀n,j≠ .interface n)->iZ cx base w μ h.size ((execOp a.eval o).run P w) f i:=by
  intro i b v;obtain⟨r,t,b⟩:=dD.1 b;obtain⟨_,b⟩:=dL.1 b;obtain⟨m,rfl⟩:=fK.1 b;simp at m;subst m;refine iZ.pure (c:= .iface d (a.eval g)) p ?_ (.iface d r _ (fX p B t));simp only[execOp,x,Instr.makeInterface,Sem.run_bind,run_underlying s,Result.andThen_ok];cases j<;>first|rfl|exact absurd rfl (v _)
 cases z:q.u<;>rw[z]at b l<;>first|(exact A b (by rintro n rfl;simp[Ax]at l))|(simp at b)
def GW{j:Fn}{first g:af ah}(m:St cx base w.heap μ h)(t:j7 w.heap μ mask e a.tmps)(r:o.op= .makeFunc j first g){f:T}{k:H}
 (b:B2 j first g cx mask e h=some (.val f k)):iZ cx base w μ h.size ((execOp a.eval o).run P w) f k:=by
 unfold B2 at b;split at b
 ·rename_i i;split at b
  ·rename_i q;obtain⟨n,p,b⟩:=dD.1 b;obtain⟨d,rfl⟩:=fK.1 b;simp at d;subst d;have l:=uW m t p;refine iZ.pure (c:= .func (.func i) #[] (g.map a.eval)) m ?_ (.func i n _ (by simpa using l.1.symm) λs f d=> ?_)
   ·have:first= #[]:=by cases first;simpa using q
    simp[execOp,r,Instr.makeFunc,this]
   ·have:=l.2 s f d;simpa[aV,List.getD]using this
  ·simp at b
 ·simp at b
def B3{k:ah}{g:Nat}(i:St cx base w.heap μ h)(u:j7 w.heap μ mask e a.tmps)(r:o.op= .extract k g){j:T}{d:H}
 (b:tO k g cx mask e h=some (.val j d)):iZ cx base w μ h.size ((execOp a.eval o).run P w) j d:=by
 obtain⟨l,n,b⟩:=dD.1 b;have p:=fX i u n;cases l<;>simp at b;obtain⟨t,rfl⟩:=fK.1 b;obtain⟨v,s,m⟩:=p.zi;obtain⟨c,f,q⟩:=m.get t;exact iZ.pure i (by simp only[execOp,r,s,Instr.extract];simp at f;simp[f]) q
end
end
noncomputable section
section
variable {P:ai}{cx:Ctx}{base:Nat}{w:World}{μ:Mu}{h:H}{mask:Nat}{e:Env}{a:Act}{o:Oper}{hp:af Obj}
def um{j k i:T}{f:ak->Int->Int->aa T}(h:wq j k f=some i):∃b c d,j= .int b c/\k= .int b d/\f b c d=some i:=by
 unfold wq at h;split at h
 ·rename_i b c;split at h
  ·rename_i m d;obtain⟨g,l⟩:=dL.1 h;rw[xl]at g;subst g;exact⟨b,c,d,rfl,rfl,l⟩
  ·simp at h
 ·simp at h
def uP{j k i:T}{g:ak->Int->Nat->aa T}(h:yO j k g=some i):∃c d f b,j= .int c d/\k= .int f (.ofNat b)/\g c d (min b c.bits)=some i:=by
 unfold yO at h;split at h
 ·rename_i c d;split at h
  ·rename_i f b;cases b with
   |ofNat b=>exact⟨c,d,f,b,rfl,rfl,h⟩
   |negSucc b=>simp at h
  ·simp at h
 ·simp at h
def Fj{k l j:T}{m:Int->Int->Bool}{n:List Nat->List Nat->Bool}(h:Jd k l m n=some j):
 (∃b c d,k= .int b c/\l= .int b d/\j= .bool (m c d))\/(∃f g,k= .str f/\l= .str g/\j= .bool (n f g)):=by
 unfold Jd at h;split at h
 ·rename_i b c;split at h
  ·rename_i q d;obtain⟨p,i⟩:=dL.1 h;rw[xl]at p;subst p;rw[qO]at i;simp at i;exact .inl ⟨b,c,d,rfl,rfl,i.symm⟩
  ·simp at h
 ·rename_i f;split at h
  ·rename_i g;rw[qO]at h;simp at h;exact .inr ⟨f,g,rfl,rfl,h.symm⟩
  ·simp at h
 ·simp at h
def nR(b:List Nat):(bytesOf b).toList=b.map UInt8.ofNat:=by
 rw[ByteArray.toList_eq];rfl
def jG(b:List Nat):(bytesOf b).size=b.length:=by simp[bytesOf,ByteArray.size]
def ofNat_inj{b c:Nat}(d:b<256)(f:c<256)(h:UInt8.ofNat b=UInt8.ofNat c):b=c:=by
 have:=bM UInt8.toNat h;rwa[jq d,jq f]at this
def CV{c b:List Nat}(i:∀d∈c,d<256)(ht:∀d∈b,d<256)(h:c.map UInt8.ofNat=b.map UInt8.ofNat):c=b:=by
 induction c generalizing b with
 |nil=>cases b with
  |nil=>rfl
  |cons j b=>simp at h
 |cons d c k=>cases b with
  |nil=>simp at h
  |cons j b=>
   simp only[aR,aJ]at h;rw[ofNat_inj (i d dt) (ht j dt) h.1,k (λg f=>i g (by simp[f])) (λg f=>ht g (by simp[f])) h.2]
def yk{b c:List Nat}(f:∀d∈b,d<256)(ht:∀d∈c,d<256):((bytesOf b).toList==(bytesOf c).toList)=Tr b c:=by
 rw[Fa,nR,nR,bD,beq_iff_eq,beq_iff_eq];exact⟨CV f ht,λh=>by rw[h]⟩
def BN(b:Nat)(d:List Nat)(c:Nat)(f:List Nat):Qe (b::d) (c::f)=(decide (b<c)||(b==c&&Qe d f)):=by
 show @Bool.rec (λ_=>Bool) (@Bool.rec (λ_=>Bool) false (Qe d f) (Nat.beq b c)) true (Nat.blt b c)=_;have g:Nat.blt b c=decide (b<c):=by rw[bD,aG];simp
 have i:Nat.beq b c=(b==c):=by rw[bD,Nat.beq_eq];simp
 rw[g,i];cases decide (b<c)<;>cases (b==c)<;>rfl
def yd{d c:List Nat}(j:∀b∈d,b<256)(ht:∀b∈c,b<256):Op.bytesLess (bytesOf d).toList (bytesOf c).toList=Qe d c:=by
 rw[nR,nR];induction d generalizing c with
 |nil=>cases c<;>rfl
 |cons b d p=>cases c with
  |nil=>rfl
  |cons f c=>
   have k:=j b dt;have l:=ht f dt;rw[BN];simp only[aR,Op.bytesLess];rw[p (λi g=>j i (by simp[g])) (λi g=>ht i (by simp[g]))];have m:(decide (UInt8.ofNat b<UInt8.ofNat f))=decide (b<f):=by
    rw[bD,decide_eq_true_iff,decide_eq_true_iff,UInt8.lt_iff_toNat_lt,jq k,jq l]
   have n:(UInt8.ofNat b==UInt8.ofNat f)=(b==f):=by
    rw[bD,beq_iff_eq,beq_iff_eq];exact⟨ofNat_inj k l,λh=>by rw[h]⟩
   rw[m,n]
def DE(c b:List Nat):(Qe c b||Tr c b)= !Qe b c:=by
 induction c generalizing b with
 |nil=>cases b<;>rfl
 |cons d c m=>cases b with
  |nil=>rfl
  |cons f b=>
   rw[BN,BN,Fa,List.cons_beq_cons,<-Fa];have:=m b;rcases cR d f with l|j|k
   ·have g:¬f<d:=dq;have i:(f==d)=false:=du;simp[l,g,i]
   ·subst j;simpa using this
   ·have g:¬d<f:=dq;have i:(d==f)=false:=du;simp[k,g,i]
def Cy(b c:List Nat):bytesOf (b++c)=bytesOf b++bytesOf c:=by
 apply ByteArray.ext;simp[bytesOf,ByteArray.data_append]
def HB{p:BinOp}{i q l:T}{y A:am}(x:ab)(S:p≠ .eql)(U:p≠ .neq)(u:fg hp μ i y)(v:fg hp μ q A)(b:binop p i q=some l):
 ∃j,(binOp p x y A).run P w= .ok j w/\fg hp μ l j:=by
 have gG:∀{t:ak->Int->Int->aa T},wq i q t=some l->
  (∀k d c,t k d c=some l->∃j,(binOp p x (.int k d) (.int k c)).run P w= .ok j w/\fg hp μ l j)->∃j,(binOp p x y A).run P w= .ok j w/\fg hp μ l j:=by
  intro t I R;obtain⟨k,d,c,rfl,rfl,m⟩:=um I;rw[u.jH,v.jH];exact R k d c m
 have z:∀{t:Int->Int->Bool} {G:List Nat->List Nat->Bool},Jd i q t G=some l->
  (∀k d c,(binOp p x (.int k d) (.int k c)).run P w= .ok (.bool (t d c)) w)->
  (∀f g,(∀i∈f,i<256)->(∀i∈g,i<256)->(binOp p x (.string (bytesOf f)) (.string (bytesOf g))).run P w= .ok (.bool (G f g)) w)->∃j,(binOp p x y A).run P w= .ok j w/\fg hp μ l j:=by
  intro t G I B m;rcases Fj I with⟨k,d,c,rfl,rfl,rfl⟩|⟨f,g,rfl,rfl,rfl⟩
  ·rw[u.jH,v.jH];exact⟨_,B k d c,.bool _⟩
  ·obtain⟨E,C⟩:=u.ll;obtain⟨F,D⟩:=v.ll;rw[E,F];exact⟨_,m f g C D,.bool _⟩
 cases p with
 |eql=>exact absurd rfl S
 |neq=>exact absurd rfl U
 |add=>
  have b:RW i q=some l:=b;by_cases M:∃f,i= .str f
  ·obtain⟨f,rfl⟩:=M;by_cases N:∃g,q= .str g
   ·obtain⟨g,rfl⟩:=N;have b:(dM (Db f g) λL=>fT (Nat.ble (kC L) 4294967296) (some (T.str L)))=some l:=b;obtain⟨L,B,b⟩:=dD.1 b;obtain⟨hl,b⟩:=dL.1 b;simp at B b;subst B;subst b;have hl:=bm hl;rw[jt,bh]at hl;obtain⟨E,C⟩:=u.ll;obtain⟨F,D⟩:=v.ll;rw[E,F];refine⟨.string (bytesOf (f++g)),?_,.str _ (by intro j n;rcases List.mem_append.1 n with k|k;exact C j k;exact D j k)⟩;rw[Cy];have Q:¬(((bytesOf f).size+(bytesOf g).size:Nat):Int)>IntKind.i64.max:=by
     rw[jG,jG];have:IntKind.i64.max=9223372036854775807:=dx;rw[this];omega
    simp only[binOp,Op.stringOp,Q,br,Sem.run_pure]
   ·exfalso;unfold RW at b;cases q<;>first|(simp at b;done)|exact N ⟨_,rfl⟩
  ·have b:wq i q (λk a O=>pi k (a+O))=some l:=by
    unfold RW at b;cases i<;>first|exact b|exact absurd ⟨_,rfl⟩ M
   refine gG b λk d c h=> ?_;rw[xN]at h;simp at h;subst h;exact⟨_,by simp[binOp,Op.intArith],.int _ _⟩
 |sub=>
  refine gG b λk d c h=> ?_;rw[xN]at h;simp at h;subst h;exact⟨_,by simp[binOp,Op.intArith],.int _ _⟩
 |mul=>
  refine gG b λk d c h=> ?_;rw[xN]at h;simp at h;subst h;exact⟨_,by simp[binOp,Op.intArith],.int _ _⟩
 |quo=>
  refine gG b λk d c h=> ?_;cases n:Qg c 0 with
  |true=>rw[n]at h;simp at h
  |false=>
   rw[n]at h;have K:¬c=0:=by rw[xp]at n;simpa using n
   simp only[xN]at h;simp at h;subst h;exact⟨_,by simp[binOp,Op.intDiv,K],.int _ _⟩
 |rem=>
  refine gG b λk d c h=> ?_;cases n:Qg c 0 with
  |true=>rw[n]at h;simp at h
  |false=>
   rw[n]at h;have K:¬c=0:=by rw[xp]at n;simpa using n
   simp only[nY]at h;simp at h;subst h;exact⟨_,by simp[binOp,Op.intDiv,K],.int _ _⟩
 |and=>
  refine gG b λk d c h=> ?_;rw[nY]at h;simp only[ar]at h;subst h;exact⟨_,by simp[binOp,Op.intBits],.int _ _⟩
 |or=>
  refine gG b λk d c h=> ?_;rw[nY]at h;simp only[ar]at h;subst h;exact⟨_,by simp[binOp,Op.intBits],.int _ _⟩
 |xor=>
  refine gG b λk d c h=> ?_;rw[nY]at h;simp only[ar]at h;subst h;exact⟨_,by simp[binOp,Op.intBits],.int _ _⟩
 |shl=>
  have b:yO i q (λk a c=>wZ k (k.wrap (a*2^c)))=some l:=b;obtain⟨k,d,V,c,rfl,rfl,m⟩:=uP b;rw[u.jH,v.jH];rw[nY]at m;simp only[ar]at m;subst m;have J:¬((c:Nat):Int)<0:=dq;exact⟨_,by simp[binOp,Op.shift,J],.int _ _⟩
 |shr=>
  have b:yO i q (λk a c=>wZ k (a.fdiv (2^c)))=some l:=b;obtain⟨k,d,V,c,rfl,rfl,m⟩:=uP b;rw[u.jH,v.jH];rw[nY]at m;simp only[ar]at m;subst m;have J:¬((c:Nat):Int)<0:=dq;exact⟨_,by simp[binOp,Op.shift,J],.int _ _⟩
 |lss=>exact z b (λk d c=>by simp[binOp,Op.intCmp,xh]) (λf g r s=>by simp only[binOp,Op.stringOp,yd r s,Sem.run_pure])
 |leq=>exact z b (λk d c=>by simp only[binOp,Op.intCmp,xh,ne_eq,not_true,br,Sem.run_pure];congr 2;rw[bD];simp) (λf g r s=>by simp only[binOp,Op.stringOp,yd r s,yk r s,Sem.run_pure,DE])
 |gtr=>exact z b (λk d c=>by simp[binOp,Op.intCmp,xh]) (λf g r s=>by simp only[binOp,Op.stringOp,yd r s,yk r s,Sem.run_pure,DE,Bool.not_not])
 |geq=>exact z b (λk d c=>by simp only[binOp,Op.intCmp,xh,ne_eq,not_true,br,Sem.run_pure];congr 2;rw[bD];simp) (λf g r s=>by simp only[binOp,Op.stringOp,yd r s,Sem.run_pure])
 |_=>simp[binop]at b
def C4{b:BinOp}{i:ab}{j k:ah}{c d:am}(f:b≠ .eql)(g:b≠ .neq):(eqGuard b i j k c d).run P w= .ok () w:=by
 cases b<;>first|(exact absurd rfl f)|(exact absurd rfl g)|(simp[eqGuard])
def IU{c:BinOp}{k t:ab}{m n:ah}(g:c≠ .eql)(i:c≠ .neq)(d:St cx base w.heap μ h)(j:j7 w.heap μ mask e a.tmps)(p:o.op= .binOp c k m n t){l:T}{f:H}
 (b:LQ c m n cx mask e h=some (.val l f)):iZ cx base w μ h.size ((execOp a.eval o).run P w) l f:=by
 obtain⟨u,hp,b⟩:=dD.1 b;obtain⟨v,q,b⟩:=dD.1 b;obtain⟨r,rfl⟩:=fK.1 b;obtain⟨x,s,hr⟩:=HB (P:=P) (w:=w) k g i (fX d j hp) (fX d j q) r;refine iZ.pure d ?_ hr;simp only[execOp,p,Sem.run_bind,C4 g i,Result.andThen_ok,s,Sem.run_pure]
def LM{d:UnOp}{r:ab}{m:ah}(f:St cx base w.heap μ h)(q:j7 w.heap μ mask e a.tmps)(j:o.op= .unOp d r m){l:T}{g:H}
 (c:ZE d m cx mask e h=some (.val l g)):iZ cx base w μ h.size ((execOp a.eval o).run P w) l g:=by
 obtain⟨k,hp,c⟩:=dD.1 c;obtain⟨b,rfl⟩:=fK.1 c;have i:=fX f q hp;cases d with
 |neg=>
  cases k<;>simp[unop]at b;subst b;exact iZ.pure f (by simp[execOp,j,i.jH,Op.unary,Op.intArith]) (.int _ _)
 |not=>
  cases k<;>simp[unop]at b;rename_i n;have p:=i.pG;cases n<;>simp at b<;>subst b<;>exact iZ.pure f (by simp[execOp,j,p,Op.unary]) (.bool _)
 |_=>simp[unop]at b
end
end
noncomputable section
section
variable {P:ai}{cx:Ctx}{base:Nat}{w:World}{μ:Mu}{h:H}{mask:Nat}{e:Env}{a:Act}{o:Oper}{hp:af Obj}
def kq{c:ab}{d:Ty}(h:ux P c d):∃b,P.underlying c=some b/\Ax P b=some d.u:=by
 obtain⟨i,b,j,_,f,_,_,g,_⟩:=h.unfold;exact⟨b,f,g⟩
def vy{b:TypeDesc}{c:ak}(h:Ax P b=some (.int c)):b= .int c:=by
 cases b<;>simp only[Ax]at h<;>first|(split at h<;>simp at h;done)|(simp at h;done)|(simp at h;rw[h])
def Mx{b:TypeDesc}(h:Ax P b=some .bool):b= .bool:=by
 cases b<;>simp only[Ax]at h<;>first|rfl|(split at h<;>simp at h;done)|(simp at h;done)
def rI{b:TypeDesc}(h:Ax P b=some .str):b= .string:=by
 cases b<;>simp only[Ax]at h<;>first|rfl|(split at h<;>simp at h;done)|(simp at h;done)
def lq{b:TypeDesc}{e:ab}(h:Ax P b=some (.slice e)):b= .slice e:=by
 cases b<;>simp only[Ax]at h<;>first|(split at h<;>simp at h;done)|(simp at h;done)|(simp at h;rw[h])
def qv{b:TypeDesc}{c:Nat}{e:ab}(h:Ax P b=some (.array c e)):b= .array c e:=by
 cases b<;>simp only[Ax]at h<;>first|(split at h<;>simp at h;done)|(simp at h;done)|(simp at h;rw[h.1,h.2])
def Qn{b:TypeDesc}{e:ab}(h:Ax P b=some (.ptr e)):b= .pointer e:=by
 cases b<;>simp only[Ax]at h<;>first|(split at h<;>simp at h;done)|(simp at h;done)|(simp at h;rw[h])
def Mw{b:TypeDesc}(h:Ax P b=some .func):∃c d f,b= .func c d f:=by
 cases b<;>simp only[Ax]at h<;>first|(split at h<;>simp at h;done)|(simp at h;done)|exact⟨_,_,_,rfl⟩
def KR{b:TypeDesc}(h:Ax P b=some .iface):∃c,b= .interface c:=by
 cases b<;>simp only[Ax]at h<;>first|(split at h<;>simp at h;done)|(simp at h;done)|exact⟨_,rfl⟩
def qH{f:TypeDesc}{g:List (Nat×ab)}(h:Ax P f=some (.struct g)):
 ∃c,f= .struct c/\g=c.toList.map (λb=>(b.offset,b.type))/\∀b∈c.toList,∃d,P.info? b.type=some d/\d.size≠0:=by
 cases f<;>simp only[Ax]at h<;>try (simp at h;done)
 rename_i c;split at h
 ·rename_i j;simp only[ar,U.struct.injEq]at h;refine⟨c,rfl,h.symm,λb k=> ?_⟩;have:=List.all_eq_true.1 j b k;cases i:P.info? b.type with
  |none=>rw[i]at this;simp at this
  |some d=>rw[i]at this;exact⟨d,rfl,by simpa using this⟩
 ·simp at h
def bytes_beq{b c:List Nat}(f:∀d∈b,d<256)(ht:∀d∈c,d<256):(bytesOf b==bytesOf c)=Tr b c:=by
 rw[beq_toListBytes,yk f ht]
def un{l:ab}{p:TypeDesc}{t:U}{j g:T}{n s:am}{m:Bool}(d:P.underlying l=some p)(k:Ax P p=some t)(i:fg hp μ j n)(f:fg hp μ g s)
 (b:rg t j g=some m) (F:Nat):(Op.equalIn (F+1) l n s).run P w= .ok m w:=by
 unfold rg at b;split at b
 ·have:=vy k;subst this;cases j<;>simp at b;cases g<;>simp at b;obtain⟨q,r⟩:=dL.1 b;rw[xl]at q;subst q;simp at r;subst r;rw[i.jH,f.jH];simp[Op.equalIn,run_underlying d,xp]
 ·have:=Mx k;subst this;cases j<;>simp at b;cases g<;>simp at b;rename_i G I;rw[i.pG,f.pG];cases G<;>cases I<;>simp at b<;>subst b<;>simp[Op.equalIn,run_underlying d]
 ·have:=rI k;subst this;cases j<;>simp at b;cases g<;>simp at b;subst b;obtain⟨D,y⟩:=i.ll;obtain⟨E,z⟩:=f.ll;rw[D,E];simp[Op.equalIn,run_underlying d,bytes_beq y z]
 ·have:=Qn k;subst this;cases j<;>simp at b
  ·rw[i.pF];cases g<;>simp at b<;>subst b
   ·rw[f.pF];simp[Op.equalIn,run_underlying d]
   ·obtain⟨u,v,c,_⟩:=f.oX;rw[c];simp[Op.equalIn,run_underlying d]
   ·obtain⟨A,off,x,l,fz,c,_⟩:=f.ly;rw[c];simp[Op.equalIn,run_underlying d]
  ·obtain⟨u,v,c,_⟩:=i.oX;cases g<;>simp at b;subst b;rw[f.pF,c];simp[Op.equalIn,run_underlying d]
  ·obtain⟨A,off,x,l,fz,c,_⟩:=i.ly;cases g<;>simp at b;subst b;rw[f.pF,c];simp[Op.equalIn,run_underlying d]
 ·obtain⟨K,L,M,rfl⟩:=Mw k;cases j<;>simp at b
  ·obtain⟨B,c,_⟩:=i.qX;cases g<;>simp at b;subst b;rw[f.tN,c];simp[Op.equalIn,run_underlying d]
  ·rw[i.tN];cases g<;>simp at b<;>subst b
   ·obtain⟨B,c,_⟩:=f.qX;rw[c];simp[Op.equalIn,run_underlying d]
   ·rw[f.tN];simp[Op.equalIn,run_underlying d]
 ·obtain⟨J,rfl⟩:=KR k;cases j<;>simp at b
  ·rw[i.tM];cases g<;>simp at b<;>subst b
   ·rw[f.tM];simp[Op.equalIn,run_underlying d]
   ·obtain⟨C,c⟩:=f.we;rw[c];simp[Op.equalIn,run_underlying d]
  ·obtain⟨C,c⟩:=i.we;cases g<;>simp at b;subst b;rw[f.tM,c];simp[Op.equalIn,run_underlying d]
 ·simp at b
def C5(b:Nat×ab)(d:List (Nat×ab))(c:Nat)(j:T)(g:List T)(k:T)(f:List T):eqFields cx (b::d) c (j::g) (k::f)=
 fT (Nat.beq b.1 c) (dM (cx.ty b.2) λi=>fT i.u.plain (dM (rg i.u j k) λl=> @Bool.rec (λ_=>aa Bool) (some false) (eqFields cx d (c+1) g f) l)):=rfl
def run_part_plain{g:ab}{b:Ty}(h:ux P g b)(hp:b.u.plain=true){d:af am}{f:Nat}{c:am}(j:d[f]? =some c):(part g d f).run P w= .ok c w:=by
 have i:b.isAgg=false:=by
  unfold Ty.isAgg;cases k:b.u<;>simp[k,U.plain]at hp<;>rfl
 simp[part,h.sR,i,j]
def Ci(iG:iP P cx)(t:Nat):∀(m:List Field) (c:Nat) (g i:List T) (j l:af am) (f:Bool),
 fV hp μ g (j.toList.drop c)->fV hp μ i (l.toList.drop c)->(∀d∈m,d.name≠ "_")->eqFields cx (m.map λd=>(d.offset,d.type)) c g i=some f->
 (Op.eqFields (t+1) j l m).run P w= .ok f w:=by
 intro m;induction m with
 |nil=>
  intro c g i j l f _ _ _ b;have:f=true:=by simpa[eqFields]using b.symm
  subst this;simp[Op.eqFields]
 |cons d m Q=>
  intro c g i j l f r s q b;rw[aR]at b;cases g with
  |nil=>simp[eqFields]at b
  |cons S g=>cases i with
   |nil=>simp[eqFields]at b
   |cons U i=>
    rw[C5]at b;obtain⟨z,b⟩:=dL.1 b;obtain⟨W,A,b⟩:=dD.1 b;obtain⟨p,b⟩:=dL.1 b;obtain⟨R,B,b⟩:=dD.1 b;have L:d.offset=c:=aC z;obtain⟨u,C,N⟩:=r.get (k:=0) (v:=S) dt;obtain⟨x,E,O⟩:=s.get (k:=0) (v:=U) dt;have D:j[c]? =some u:=by simpa using C
    have G:l[c]? =some x:=by simpa using E
    have n:=iG.ty _ _ A;obtain⟨V,F,M⟩:=kq n;have I:=un (P:=P) (w:=w) F M N O B t;have K:d.name≠ "_" :=q d dt;simp only[Op.eqFields,K,ne_eq,not_false_eq_true,bo,Sem.run_bind,L,run_part_plain n p D,run_part_plain n p G,Result.andThen_ok,I];cases R with
    |false=>
     have:f=false:=by simpa using b.symm
     subst this;simp
    |true=>
     simp only[cI,cd,br];refine Q (c+1) g i j l f ?_ ?_ (λy J=>q y (by simp[J])) b
     ·have:=r.drop 1;simpa[cS,Nat.add_comm]using this
     ·have:=s.drop 1;simpa[cS,Nat.add_comm]using this
def C6{e:ab}{l:Ty}(m:ux P e l)(n:l.u.plain=true)(r:Nat):∀(g d:List T) (f:Nat) (i j:af am) (c:Bool),
 fV hp μ g (i.toList.drop f)->fV hp μ d (j.toList.drop f)->yl l.u g d=some c->(Op.eqItems (r+1) e 1 i j (List.range' f g.length)).run P w= .ok c w:=by
 intro g;induction g with
 |nil=>
  intro d f i j c _ _ b;have:c=true:=by
   cases d with
   |nil=>have b:some true=some c:=b;simpa using b.symm
   |cons=>simp[yl]at b
  subst this;simp[Op.eqItems]
 |cons s g K=>
  intro d f i j c p q b;cases d with
  |nil=>simp[yl]at b
  |cons t d=>
   have b:(dM (rg l.u s t) λM=> @Bool.rec (λ_=>aa Bool) (some false) (yl l.u g d) M)=some c:=b;obtain⟨L,z,b⟩:=dD.1 b;obtain⟨x,A,I⟩:=p.get (k:=0) (v:=s) dt;obtain⟨y,C,J⟩:=q.get (k:=0) (v:=t) dt;have B:i[f]? =some x:=by simpa using A
   have E:j[f]? =some y:=by simpa using C
   obtain⟨N,D,G⟩:=kq m;have F:=un (P:=P) (w:=w) D G I J z r;rw[aZ,List.range'_succ];simp only[Op.eqItems,Sem.run_bind,Nat.mul_one,run_part_plain m n B,run_part_plain m n E,Result.andThen_ok,F];cases L with
   |false=>
    have:c=false:=by simpa using b.symm
    subst this;simp
   |true=>
    simp only[cI,cd,br];refine K d (f+1) i j c ?_ ?_ b
    ·have:=p.drop 1;simpa[cS,Nat.add_comm]using this
    ·have:=q.drop 1;simpa[cS,Nat.add_comm]using this
def Hk{f:BinOp}{g:ab}{b c:ah}(d:(Region.isConst b||Region.isConst c)=true):(eqGuard f g b c .nilIface .nilIface).run P w= .ok () w:=by
 unfold eqGuard;cases b<;>cases c<;>simp[Region.isConst]at d<;>simp
def DR(iG:iP P cx){neg:Bool}{G:BinOp}{t u:ab}{F y:ah}(j:G=(if neg then BinOp.neq else BinOp.eql))(s:St cx base w.heap μ h)(r:j7 w.heap μ mask e a.tmps)
 (b8:o.op= .binOp G t F y u) {v:T} {aX:H} (B:UV neg t F y cx mask e h=some (.val v aX)):iZ cx base w μ h.size ((execOp a.eval o).run P w) v aX:=by
 obtain⟨dm,cv,B⟩:=dD.1 B;obtain⟨I,hp,B⟩:=dD.1 B;obtain⟨x,J,B⟩:=dD.1 B;obtain⟨an,B⟩:=dL.1 B;obtain⟨A,b,B⟩:=dD.1 B;obtain⟨bl,rfl⟩:=fK.1 B;have q:=fX s r hp;have k:=fX s r J;have cp:=iG.ty _ _ cv;have bS:v= .bool (if neg then !A else A):=by
  rw[qO]at bl;cases neg<;>simpa using bl.symm
 subst bS;have bn:(eqGuard G t F y (a.eval F) (a.eval y)).run P w= .ok () w/\(binOp G t (a.eval F) (a.eval y)).run P w= .ok (.bool (if neg then !A else A)) w:=by
  obtain⟨i,d,z,_,S,_,_,N,_,_,_,_,a6⟩:=cp.unfold;unfold Mo at b;split at b
  ·rename_i dd al;rw[al]at N;obtain⟨aA,rfl,bT,_⟩:=qH N;cases I<;>simp at b;cases x<;>simp at b;obtain⟨ae,b⟩:=dL.1 b;obtain⟨Q,M,ap⟩:=a6 ae;obtain⟨p,g,W,_⟩:=q.oY;obtain⟨D,c,X,_⟩:=k.oY;rw[g,c];refine⟨run_eqGuard_agg w G t F y p D M,?_⟩;have a8:P.fieldsOf t=aA:=by simp[Program.fieldsOf,S]
   have f:(Op.equalIn 10000 t (.agg p) (.agg D)).run P w= .ok A w:=by
    rw[run_equalIn_struct w 9999 t p D (by rw[a8];exact S) Q,a8];rw[bT]at b;refine Ci iG 9998 aA.toList 0 _ _ p D A (by simpa using W) (by simpa using X) ?_ b;intro R bN;have:=List.all_eq_true.1 ap R bN;simpa using this
   cases neg with
   |false=>simp at j;subst j;rw[run_eql_struct,f];rfl
   |true=>simp at j;subst j;rw[run_neq_struct,f];rfl
  ·rename_i n e al;rw[al]at N;have bH:=qv N;subst bH;cases I<;>simp at b;cases x<;>simp at b;obtain⟨ae,b⟩:=dL.1 b;obtain⟨dk,ce,b⟩:=dD.1 b;obtain⟨ca,b⟩:=dL.1 b;obtain⟨cb,b⟩:=dL.1 b;obtain⟨b7,b⟩:=dL.1 b;obtain⟨Q,M,ap⟩:=a6 ae;obtain⟨p,g,W,_⟩:=q.oY;obtain⟨D,c,X,_⟩:=k.oY;rw[g,c];refine⟨run_eqGuard_agg w G t F y p D M,?_⟩;have bk:=iG.ty _ _ ce;have f:(Op.equalIn 10000 t (.agg p) (.agg D)).run P w= .ok A w:=by
    obtain⟨di,c9,dn,bi,_,_,_,_,_,_,de,_⟩:=bk.unfold;rw[run_equalIn_array w 9999 p D S bi,List.range_eq_range'];have b9:P.cellsOf e=1:=by
     have:=aC cb;simp only[Program.cellsOf,bi,cJ,Option.getD_some];omega
    have b6:=aC b7;rw[b9,<-b6];exact C6 bk ca 9998 _ _ 0 p D A (by simpa using W) (by simpa using X) b
   cases neg with
   |false=>simp at j;subst j;rw[run_eql_struct,f];rfl
   |true=>simp at j;subst j;rw[run_neq_struct,f];rfl
  ·have f:=un (P:=P) (w:=w) S N q k b 9999;have C:∀l m:am,(l≠ .nilIface\/m≠ .nilIface)->((∀c6,l≠ .agg c6)\/∀c7,m≠ .agg c7)->(eqGuard G t F y l m).run P w= .ok () w:=by
    intro l m aE aN;cases neg with
    |false=>
     simp at j;subst j;cases l<;>cases m<;>first|(simp[eqGuard];done)|(simp at aE;done)|(simp at aN;done)
    |true=>
     simp at j;subst j;cases l<;>cases m<;>first|(simp[eqGuard];done)|(simp at aE;done)|(simp at aN;done)
   have E:∀l m:am,(∀U cy V cL,(l,m)≠(.int U cy,.int V cL))->(∀c1 c4,(l,m)≠(.string c1,.string c4))->(∀Y K Z L,(l,m)≠(.float Y K,.float Z L))->(∀Y K Q Z L M,(l,m)≠(.complex Y K Q,.complex Z L M))->
    (Op.equalIn 10000 t l m).run P w= .ok A w->(binOp G t l m).run P w= .ok (.bool (if neg then !A else A)) w:=by
    intro l m bs bu bz bB a7;cases neg with
    |false=>
     simp at j;subst j;cases l<;>cases m<;>first|(exact absurd rfl (bs _ _ _ _))|(exact absurd rfl (bu _ _))|(exact absurd rfl (bz _ _ _ _))|(exact absurd rfl (bB _ _ _ _ _ _))|(simp[binOp,Op.equal,Op.maxDepth,a7])
    |true=>
     simp at j;subst j;cases l<;>cases m<;>first|(exact absurd rfl (bs _ _ _ _))|(exact absurd rfl (bu _ _))|(exact absurd rfl (bz _ _ _ _))|(exact absurd rfl (bB _ _ _ _ _ _))|(simp[binOp,Op.equal,Op.maxDepth,a7])
   unfold rg at b;split at b
   ·cases I<;>simp at b;cases x<;>simp at b;obtain⟨U,V⟩:=dL.1 b;rw[xl]at U;subst U;simp at V;subst V;rw[q.jH,k.jH];refine⟨C _ _ (.inl dt) (.inl dt),?_⟩;cases neg<;>simp at j<;>subst j<;>simp[binOp,Op.intCmp,xp,bne]
   ·cases I<;>simp at b;cases x<;>simp at b;rw[q.pG,k.pG]at f|-;exact⟨C _ _ (.inl dt) (.inl dt),E _ _ dt dt dt dt f⟩
   ·cases I<;>simp at b;cases x<;>simp at b;subst b;obtain⟨g,K⟩:=q.ll;obtain⟨c,L⟩:=k.ll;rw[g,c];refine⟨C _ _ (.inl dt) (.inl dt),?_⟩;cases neg<;>simp at j<;>subst j<;>simp[binOp,Op.stringOp,yk K L]
   ·cases I<;>simp at b
    ·have g:=q.pF;rw[g]at f|-;have c:∃O,a.eval y= .pointer O:=by
      cases x<;>simp at b
      ·exact⟨_,k.pF⟩
      ·obtain⟨_,O,J,_⟩:=k.oX;exact⟨_,J⟩
      ·obtain⟨_,_,_,_,_,J,_⟩:=k.ly;exact⟨_,J⟩
     obtain⟨O,c⟩:=c;rw[c]at f|-;exact⟨C _ _ (.inl dt) (.inl dt),E _ _ dt dt dt dt f⟩
    ·obtain⟨_,O,g,_⟩:=q.oX;cases x<;>simp at b;have c:=k.pF;rw[g,c]at f|-;exact⟨C _ _ (.inl dt) (.inl dt),E _ _ dt dt dt dt f⟩
    ·obtain⟨_,_,_,_,_,g,_⟩:=q.ly;cases x<;>simp at b;have c:=k.pF;rw[g,c]at f|-;exact⟨C _ _ (.inl dt) (.inl dt),E _ _ dt dt dt dt f⟩
   ·cases I<;>simp at b
    ·obtain⟨p,g,_⟩:=q.qX;cases x<;>simp at b;have c:=k.tN;rw[g,c]at f|-;exact⟨C _ _ (.inl dt) (.inl dt),E _ _ dt dt dt dt f⟩
    ·have g:=q.tN;have c:(∃R av p,a.eval y= .func R av p)\/a.eval y= .nilFunc:=by
      cases x<;>simp at b
      ·obtain⟨p,J,_⟩:=k.qX;exact .inl ⟨_,_,_,J⟩
      ·exact .inr k.tN
     rcases c with⟨R,av,p,c⟩|c
     all_goals
      rw[g,c]at f|-;exact⟨C _ _ (.inl dt) (.inl dt),E _ _ dt dt dt dt f⟩
   ·cases I<;>simp at b
    ·have g:=q.tM;cases x<;>simp at b
     ·have c:=k.tM;rw[g,c]at f|-;have an:(Region.isConst F||Region.isConst y)=true:=an;exact⟨Hk an,E _ _ dt dt dt dt f⟩
     ·obtain⟨bC,c⟩:=k.we;rw[g,c]at f|-;exact⟨C _ _ (.inr dt) (.inl dt),E _ _ dt dt dt dt f⟩
    ·obtain⟨bC,g⟩:=q.we;cases x<;>simp at b;have c:=k.tM;rw[g,c]at f|-;exact⟨C _ _ (.inl dt) (.inl dt),E _ _ dt dt dt dt f⟩
   ·simp at b
 refine iZ.pure s ?_ (.bool _);simp only[execOp,b8,Sem.run_bind,bn.1,Result.andThen_ok,bn.2,Sem.run_pure]
end
end
noncomputable section
section
variable {P:ai}{cx:Ctx}{base:Nat}{w:World}{μ:Mu}{h:H}{mask:Nat}{e:Env}{a:Act}{o:Oper}{hp:af Obj}
def ko(b off c:Nat):(⟨b,off,none⟩:Addr).add c=⟨b,off+c,none⟩:=by
 unfold Addr.add;split<;>simp_all
def lA(c:T)(b:List T):fa (c::b)=c.cells++fa b:=by simp[fa]
def mI(a b:List T):fa (a++b)=fa a++fa b:=by simp[fa]
def gD{sz:Nat}{b:List T}(d:∀c∈b,c.cells.length=sz):(fa b).length=b.length*sz:=by
 induction b with
 |nil=>simp[fa]
 |cons i b g=>
  rw[lA,bh,g (λc f=>d c (by simp[f])),d i dt,aZ,bX];omega
def oQ{d:Nat}{b:List T}(g:∀f∈b,f.cells.length=d)(c:Nat):(fa b).drop (c*d)=fa (b.drop c):=by
 induction c generalizing b with
 |zero=>simp
 |succ c l=>cases b with
  |nil=>simp[fa]
  |cons i b=>
   have k:=g i dt;rw[lA,bX,Nat.add_comm,<-cS];have:(i.cells++fa b).drop d=fa b:=by rw[<-k];simp
   rw[this,l (λf j=>g f (by simp[j]))];rfl
def qC{g:Nat}{b:List T}(f:∀d∈b,d.cells.length=g)(c:Nat):(fa b).take (c*g)=fa (b.take c):=by
 induction c generalizing b with
 |zero=>simp[fa]
 |succ c k=>cases b with
  |nil=>simp[fa]
  |cons l b=>
   have j:=f l dt;rw[lA,List.take_succ_cons,lA,<-k (λd i=>f d (by simp[i])),bX,List.take_append,j];congr 1
   ·rw[bF dq]
   ·congr 1;omega
structure sa(hp:af Obj)(μ:Mu)(iI off:Nat)(cs:List T):Prop where
 row:∃arr t fz,hp[iI]? =some (.cells arr t fz)/\off+cs.length<=arr.size/\∀(k:Nat) v,cs[k]? =some v->fg hp μ v (arr.getD (off+k) Go.undef)
 scalar:∀v∈cs,v.scalar=true
def sa.cell{g off:Nat}{c:List T}(n:sa w.heap μ g off c){b:Nat}{d:T}(k:c[b]? =some d):∃i,w.cell? ⟨g,off+b,none⟩=some i/\fg w.heap μ d i:=by
 obtain⟨f,r,fz,l,p,m⟩:=n.row;have q:b<c.length:=by
  rcases aD b c.length with x|x
  ·exact x
  ·simp[aK x]at k
 have j:off+b<f.size:=dq;refine⟨f[off+b],by simp[World.cell?,l,j],?_⟩;have:=m b d k;simpa[aV,j]using this
def sa.take{d off:Nat}{f:List T}(g:sa hp μ d off f)(m:Nat):sa hp μ d off (f.take m):=by
 obtain⟨i,n,fz,j,p,k⟩:=g.row;refine⟨⟨i,n,fz,j,du,λl c b=>k l c ?_⟩,λc b=>g.scalar c (bw b)⟩;rw[bJ]at b;split at b
 ·exact b
 ·simp at b
def sa.drop{g off:Nat}{d:List T}(i:sa hp μ g off d)(c:Nat)(q:c<=d.length):sa hp μ g (off+c) (d.drop c):=by
 obtain⟨j,n,fz,k,p,l⟩:=i.row;refine⟨⟨j,n,fz,k,du,λm f b=> ?_⟩,λf b=>i.scalar f (bA b)⟩;rw[bG]at b;have:=l (c+m) f b;rwa[<-cB]at this
def sa.run_loadCells{g off:Nat}{b:List T}(q:sa w.heap μ g off b):∃i:List am,(loadCells ⟨g,off,none⟩ b.length).run P w= .ok i.toArray w/\fV w.heap μ b i:=by
 obtain⟨d,t,fz,l,r,m⟩:=q.row;refine⟨(d.toList.drop off).take b.length,?_,?_⟩
 ·have hl:((d.toList.drop off).take b.length).length=b.length:=du;have:=Go.run_loadCells_list (P:=P) w ⟨g,off,none⟩ ((d.toList.drop off).take b.length) (λs k c=>by
   rw[ko];rw[bJ]at c;split at c
   ·rw[bG]at c;simp only[World.cell?,l];simpa using c
   ·simp at c)
  rwa[hl]at this
 ·refine⟨du,λf k j=> ?_⟩;have n:f<b.length:=by
   rcases aD f b.length with x|x
   ·exact x
   ·simp[aK x]at j
  have:=m f k j;have p:off+f<d.size:=dq;simpa[List.getD,bJ,n,aV,p]using this
def xL{s:ab}{c:Ty}{l off:Nat}{f:List T}{k:T}(n:ux P s c)(j:sa w.heap μ l off f)(b:j2 c f=some k):
 ∃d,(loadVar s ⟨l,off,none⟩).run P w= .ok d w/\fg w.heap μ k d:=by
 unfold j2 at b;cases i:c.isAgg with
 |true=>
  rw[i]at b;have b:(dM (takeN c.size f) λj=>some (T.agg j))=some k:=b;obtain⟨y,g,p⟩:=dD.1 b;rw[m9]at g;split at g
  ·rename_i x;simp at g p;subst g;subst p;have r:=j.take c.size;obtain⟨t,q,u⟩:=sa.run_loadCells (P:=P) r;have v:(f.take c.size).length=c.size:=du;rw[v]at q;refine⟨.agg t.toArray,?_,fg.wP (by simpa using u) r.scalar⟩;simp[loadVar,n.sR,i,n.run_sizeOf,q]
  ·simp at g
 |false=>
  rw[i]at b;have b:lM f 0=some k:=b;rw[ks]at b;obtain⟨d,m,hr⟩:=j.cell b;refine⟨d,?_,hr⟩;have m:w.cell? ⟨l,off,none⟩=some d:=by simpa using m
  simp[loadVar,n.sR,i,m]
def St.rowAt(K:St cx base hp μ h){m q b:Nat}{c:Loc}{f:T}(E:μ m=some c)(d:h.elem m q b=some f):sa hp μ c.iI (b*c.sz) f.cells/\f.cells.length=c.sz:=by
 obtain⟨x,F,J⟩:=K.box m c E;unfold H.elem at d;rw[F]at d;obtain⟨O,A,Q,M,v,g⟩:=x;have d:fT (Nat.beq A q) (@Bool.rec (λ_=>aa T) (lM g b) none v)=some f:=d;obtain⟨_,d⟩:=dL.1 d;cases v with
 |true=>simp at d
 |false=>
  have d:g[b]? =some f:=by rw[<-ks];exact d
  have i:=J.plain rfl;obtain⟨p,L,B,C,D⟩:=i.row;have u:f∈g:=ax d;have t:=i.size f u;have s:b<g.length:=by
   rcases aD b g.length with y|y
   ·exact y
   ·simp[aK y]at d
  have N:=gD i.size;refine⟨⟨⟨p,L,(0,0),B,?_,λl n k=> ?_⟩,λn k=>i.scalar n ?_⟩,t⟩
  ·rw[t,C];have:b+1<=c.cap:=by have:=i.room;simp only[]at this;omega
   calc b*c.sz+c.sz=(b+1)*c.sz:=by rw[bX]
    _<=c.cap*c.sz:=aW _ this
  ·have I:l<f.cells.length:=by
    rcases aD l f.cells.length with y|y
    ·exact y
    ·simp[aK y]at k
   have G:(fa g)[b*c.sz+l]? =some n:=by
    have r:=oQ i.size b;have:g.drop b=f::g.drop (b+1):=by
     rw[aI s];congr 1;simpa[s]using d
    rw[this,lA]at r;rw[<-bG,r,co I];exact k
   obtain⟨z,j,hr⟩:=D.get G;rw[bJ]at j;split at j
   ·have:p[b*c.sz+l]? =some z:=by simpa using j
    rw[aV,this];exact hr
   ·simp at j
  ·exact List.mem_flatMap.2 ⟨f,u,k⟩
def St.Rk(s:St cx base hp μ h){d f g:Nat}{c:Loc}{i:T}(n:μ d=some c)(b:h.elem d f g=some i):f=c.ep:=by
 obtain⟨j,p,q⟩:=s.box d c n;unfold H.elem at b;rw[p]at b;obtain⟨u,l,v,t,r,k⟩:=j;have b:fT (Nat.beq l f) (@Bool.rec (λ_=>aa T) (lM k g) none r)=some i:=b;obtain⟨m,_⟩:=dL.1 b;have:=aC m;have:=q.ep;simp only[]at this;omega
def BQ{t:ab}{u:Ty}{l g:T}{m:am}(r:ux P t u)(s:St cx base w.heap μ h)(p:fg w.heap μ l m)(b:h.load u l=some g):
 ∃f c,m= .pointer (some f)/\(loadVar t f).run P w= .ok c w/\fg w.heap μ g c:=by
 unfold H.load at b;cases l<;>simp at b
 ·rename_i K N R F;replace b:=dD.1 b;obtain⟨S,q,b⟩:=b;replace b:=dD.1 b;obtain⟨M,d,b⟩:=b;obtain⟨J,f,k,n,_,y⟩:=p.oX;have z:=s.Rk n q;obtain⟨G,O⟩:=s.rowAt n q;rw[lF]at d;split at d
  ·rename_i B;simp at d;subst d;obtain⟨c,i,j⟩:=xL r (G.drop F B) b;exact⟨f,c,k,by rw[y z];exact i,j⟩
  ·simp at d
 ·rename_i L;obtain⟨x,off,v,I,fz,k,Q,A,C,D,hr⟩:=p.ly;obtain⟨c,i,j⟩:=xL r ⟨⟨v,I,fz,A,C,hr⟩,(λg E=>(D g E).1)⟩ b;exact⟨⟨x,off,none⟩,c,k,i,j⟩
def GU(iG:iP P cx){f:ab}{i:ah}(c:St cx base w.heap μ h)(q:j7 w.heap μ mask e a.tmps)(l:o.op= .load f i){g:T}{d:H}
 (b:GV f i cx mask e h=some (.val g d)):iZ cx base w μ h.size ((execOp a.eval o).run P w) g d:=by
 replace b:=dD.1 b;obtain⟨u,n,b⟩:=b;replace b:=dD.1 b;obtain⟨t,hp,b⟩:=b;obtain⟨p,rfl⟩:=fK.1 b;obtain⟨r,s,m,j,k⟩:=BQ (iG.ty _ _ n) c (fX c q hp) p;exact iZ.pure c (by simp[execOp,l,Instr.loadAt,m,Instr.sureAddr,j]) k
def wH(iG:iP P cx){l:ab}{g:Nat}{i:Nat×ab}(b:wg cx l g=some i):∃d c,P.underlying l=some (.struct d)/\d[g]? =some c/\c.offset=i.1/\c.type=i.2/\
 ∃k,P.info? c.type=some k/\k.size≠0:=by
 replace b:=dD.1 b;obtain⟨s,q,b⟩:=b;obtain⟨t,m,j⟩:=kq (iG.ty _ _ q);cases r:s.u<;>rw[r]at b j<;>simp at b;obtain⟨d,rfl,p,n⟩:=qH j;subst p;rw[aQ]at b;cases f:d.toList[g]? with
 |none=>rw[f]at b;simp at b
 |some c=>
  rw[f]at b;simp at b;refine⟨d,c,m,by simpa using f,by rw[<-b],by rw[<-b],n c (ax f)⟩
def zr(iG:iP P cx){t:ab}{n:ah}{p:Nat}(m:St cx base w.heap μ h)(U:j7 w.heap μ mask e a.tmps)(N:o.op= .fieldAddr t n p){c:T}{q:H}
 (b:oP t n p cx mask e h=some (.val c q)):iZ cx base w μ h.size ((execOp a.eval o).run P w) c q:=by
 replace b:=dD.1 b;obtain⟨l,K,b⟩:=b;replace b:=dD.1 b;obtain⟨S,hp,b⟩:=b;obtain⟨Y,Z,A,B,C,ae,i,D,E⟩:=wH iG K;have r:=fX m U hp;have s:∀d:Addr,a.eval n= .pointer (some d)->(execOp a.eval o).run P w= .ok (.value (.pointer (some (d.add l.1)))) w:=by
  intro d g;simp[execOp,N,Instr.fieldAt,run_underlying A,B,g,Instr.sureAddr,fieldPlace,sizeOf,typeInfo,D,E,C]
 cases S<;>simp at b
 ·rename_i x z Q R;obtain⟨rfl,rfl⟩:=b;obtain⟨u,d,g,G,J,F⟩:=r.oX;refine iZ.pure m (s d g) (.ptr x z Q (R+l.1) u _ G J λI=> ?_);rw[F I,ko,cB]
 ·rename_i W;replace b:=dD.1 b;obtain⟨X,f,b⟩:=b;simp at b;obtain⟨rfl,rfl⟩:=b;obtain⟨y,off,v,V,fz,g,M,L,an,O,hr⟩:=r.ly;rw[lF]at f;split at f
  ·rename_i al;simp at f;subst f;refine iZ.pure m (s _ g) ?_;rw[ko];refine .ji _ y (off+l.1) v V fz M L du (λc j=>O c (bA j)) λk c j=> ?_;rw[bG]at j;have:=hr _ c j;rwa[<-cB]at this
  ·simp at f
def z8{r:ab}{c:Ty}{f:List T}{i:af am}{off:Nat}{k:T}(m:ux P r c)(q:fV hp μ f (i.toList.drop off))(s:∀n∈f,n.scalar=true)(b:j2 c f=some k):
 ∃d,(part r i off).run P w= .ok d w/\fg hp μ k d:=by
 unfold j2 at b;cases j:c.isAgg with
 |true=>
  rw[j]at b;have b:(dM (takeN c.size f) λu=>some (T.agg u))=some k:=b;obtain⟨x,g,p⟩:=dD.1 b;rw[m9]at g;split at g
  ·rename_i v;simp at g p;subst g;subst p;refine⟨.agg (i.extract off (off+c.size)),by simp[part,m.sR,j,m.run_sizeOf],fg.wP ?_ λn t=>s n (bw t)⟩;have:=q.take c.size;rw[Array.toList_extract];simpa[List.extract_eq_take_drop]using this
  ·simp at g
 |false=>
  rw[j]at b;have b:lM f 0=some k:=b;rw[ks]at b;obtain⟨d,l,hr⟩:=q.get b;refine⟨d,?_,hr⟩;have l:i[off]? =some d:=by simpa using l
  simp[part,m.sR,j,l]
def EG(iG:iP P cx){j:ab}{d:ah}{f:Nat}(i:St cx base w.heap μ h)(E:j7 w.heap μ mask e a.tmps)(x:o.op= .field j d f){k:T}{g:H}
 (b:zt j d f cx mask e h=some (.val k g)):iZ cx base w μ h.size ((execOp a.eval o).run P w) k g:=by
 replace b:=dD.1 b;obtain⟨l,v,b⟩:=b;replace b:=dD.1 b;obtain⟨L,A,b⟩:=b;replace b:=dD.1 b;obtain⟨D,hp,b⟩:=b;obtain⟨J,K,m,n,p,q,_⟩:=wH iG v;have s:=fX i E hp;cases D<;>simp at b;replace b:=dD.1 b;obtain⟨G,c,b⟩:=b;obtain⟨B,rfl⟩:=fK.1 b;obtain⟨I,y,r,z⟩:=s.oY;rw[lF]at c;split at c
 ·simp at c;subst c;obtain⟨F,t,u⟩:=z8 (P:=P) (w:=w) (iG.ty _ _ A) (r.drop l.1) (λd C=>z d (bA C)) B;refine iZ.pure i ?_ u;simp[execOp,x,Instr.field,run_underlying m,n,y,asAgg,p,q,t]
 ·simp at c
def m8{f:T}{g:Nat}(b:o9 f=some g):∃c,f= .int c (.ofNat g):=by
 unfold o9 at b;cases f<;>simp at b;rename_i c d;cases d with
 |ofNat d=>simp at b;subst b;exact⟨c,rfl⟩
 |negSucc d=>simp at b
def EE(iG:iP P cx){G:ab}{p J:ah}(m:St cx base w.heap μ h)(F:j7 w.heap μ mask e a.tmps)(B:o.op= .index G p J){I:T}{v:H}
 (b:zp G p J cx mask e h=some (.val I v)):iZ cx base w μ h.size ((execOp a.eval o).run P w) I v:=by
 replace b:=dD.1 b;obtain⟨an,Z,b⟩:=b;replace b:=dD.1 b;obtain⟨E,hp,b⟩:=b;replace b:=dD.1 b;obtain⟨q,W,b⟩:=b;replace b:=dD.1 b;obtain⟨f,S,b⟩:=b;obtain⟨k,U⟩:=m8 S;obtain⟨d,A,t⟩:=kq (iG.ty _ _ Z);have l:=fX m F hp;have D:=(U▸fX m F W).jH;cases ae:an.u<;>rw[ae]at b t<;>simp at b
 ·
  have:=rI t;subst this;cases E<;>simp at b;rename_i g;replace b:=dD.1 b;obtain⟨c,x,b⟩:=b;obtain⟨j,rfl⟩:=fK.1 b;simp at j;subst j;obtain⟨r,K⟩:=l.ll;refine iZ.pure (c:= .int .u8 (c:Int)) m ?_ (.int _ _);have s:f<g.length:=by
   rcases aD f g.length with z|z
   ·exact z
   ·simp[aK z]at x
  have y:g[f]=c:=by simpa[s]using x
  have Q:c<256:=K c (by rw[<-y];exact aF s);have R:(bytesOf g)[f]? =some (UInt8.ofNat c):=by
   have X:f<(bytesOf g).size:=by rw[jG];exact s
   rw[getElem?_pos (bytesOf g) f X];congr 1;show(bytesOf g).data[f]=_;simp[bytesOf,y]
  simp[execOp,B,Instr.index,D,asIntOf,run_underlying A,r,R,jq Q]
 ·rename_i n aE;have:=qv t;subst this;cases E<;>simp at b;rename_i ap;replace b:=dD.1 b;obtain⟨al,C,b⟩:=b;replace b:=dL.1 b;obtain⟨M,b⟩:=b;replace b:=dD.1 b;obtain⟨av,i,b⟩:=b;obtain⟨j,rfl⟩:=fK.1 b;obtain⟨aA,r,L,Y⟩:=l.oY;rw[lF]at i;split at i
  ·simp at i;subst i;obtain⟨c,N,O⟩:=z8 (P:=P) (w:=w) (iG.ty _ _ C) (L.drop (f*al.size)) (λp l=>Y p (bA l)) j;refine iZ.pure m ?_ O;rw[aG]at M;have V:¬n<=f:=dq;simp[execOp,B,Instr.index,D,asIntOf,run_underlying A,r,V,(iG.ty _ _ C).run_sizeOf,N]
  ·simp at i
end
end
noncomputable section
section
variable {P:ai}{cx:Ctx}{base:Nat}{w:World}{μ:Mu}{h:H}{mask:Nat}{e:Env}{a:Act}{o:Oper}{hp:af Obj}
def St.JG(k:St cx base hp μ h){c:Nat}{b:Loc}{d:iN}(j:μ c=some b)(f:h.get c=some d):d.sz=b.sz/\d.ep=b.ep:=by
 obtain⟨l,i,g⟩:=k.box c b j;rw[i]at f;simp at f;subst f;exact⟨g.sz,g.ep⟩
def flat_get{g:Nat}{es:List T}(l:∀v∈es,v.cells.length=g){i k:Nat}{v z:T}(b:es[i]? =some v)(c:v.cells[k]? =some z):(fa es)[i*g+k]? =some z:=by
 have f:i<es.length:=by
  rcases aD i es.length with y|y
  ·exact y
  ·rw[aK y]at b;simp at b
 have j:k<v.cells.length:=by
  rcases aD k v.cells.length with y|y
  ·exact y
  ·rw[aK y]at c;simp at c
 have d:=oQ l i;have m:es[i]=v:=by rw[az f]at b;simpa using b
 rw[aI f,m,lA]at d;rw[<-bG,d,co j];exact c
def KT{f:T}{c:List T}{j off d g:Nat}{i:af am}{r:ab}{fz:Nat×Nat}{b:T}(z:¬mR μ j)(u:hp[j]? =some (.cells i r fz))
 (k:∀b∈f::c,b.cells.length=d) (A:off+(fa (f::c)).length<=i.size) (s:∀b∈fa (f::c),uH b)
 (hr:∀(n:Nat) b,(fa (f::c))[n]? =some b->fg hp μ b (i.getD (off+n) Go.undef)) (l:(f::c)[g]? =some b):
 fg hp μ (.ji b.cells) (.pointer (some ⟨j,off+g*d,none⟩)):=by
 have q:=ax l;have v:g<(f::c).length:=by
  rcases aD g (f::c).length with y|y
  ·exact y
  ·simp[aK y]at l
 have t:=gD k;have x:=k b q;refine .ji b.cells j (off+g*d) i r fz z u ?_ (λp m=>s p (List.mem_flatMap.2 ⟨b,q,m⟩)) λn p m=> ?_
 ·rw[x];have:g*d+d<=(fa (f::c)).length:=by
   rw[t]
   calc g*d+d=(g+1)*d:=by rw[bX]
    _<=(f::c).length*d:=aW _ v
  omega
 ·have:=hr _ p (flat_get k l m);rwa[<-cB]at this
def zo(iG:iP P cx){t:ab}{x y:ah}(i:St cx base w.heap μ h)(r:j7 w.heap μ mask e a.tmps)(an:o.op= .indexAddr t x y){s:T}{K:H}
 (b:oO t x y cx mask e h=some (.val s K)):iZ cx base w μ h.size ((execOp a.eval o).run P w) s K:=by
 replace b:=dD.1 b;obtain⟨cp,ca,b⟩:=b;replace b:=dD.1 b;obtain⟨p,hp,b⟩:=b;replace b:=dD.1 b;obtain⟨q,ap,b⟩:=b;replace b:=dD.1 b;obtain⟨f,bT,b⟩:=b;obtain⟨k,b6⟩:=m8 bT;obtain⟨d,X,aE⟩:=kq (iG.ty _ _ ca);have Q:=fX i r hp;have aN:=(b6▸fX i r ap).jH;cases cb:cp.u<;>rw[cb]at b aE<;>simp at b
 ·rename_i bz;have:=lq aE;subst this;replace b:=dD.1 b;obtain⟨m,aA,b⟩:=b;have N:=(iG.ty _ _ aA).run_sizeOf w;unfold km at b;cases p<;>simp at b
  ·rename_i C bB;replace b:=dD.1 b;obtain⟨z,I,b⟩:=b;replace b:=dL.1 b;obtain⟨hl,b⟩:=b;simp at b;obtain⟨rfl,rfl⟩:=b;have hl:=aC hl;cases C with
   |nil=>simp at I
   |cons cv C=>
    obtain⟨a6,off,c1,ce,aX,bn,fz,J,al,Z,dd,c9,bl,bk,bN,hr⟩:=Q.tL;have b9:ce=m.size:=by rw[<-bl z (ax I)];exact hl
    have di:f<C.length+1:=by
     rcases aD f (cv::C).length with y|y
     ·simpa using y
     ·rw[aK y]at I;simp at I
    have dk:¬((C.length:Int)+1<=(f:Int)):=dq;refine iZ.pure i ?_ (KT al Z bl bk bN hr I);rw[<-ko,b9];have G:¬C.length+1<=f:=dq;simp[execOp,an,Instr.indexAt,aN,asIntOf,run_underlying X,J,N,G]
  ·rename_i A B S l bB;replace b:=dL.1 b;obtain⟨hl,b⟩:=b;replace b:=dD.1 b;obtain⟨a7,W,b⟩:=b;replace b:=dL.1 b;obtain⟨V,b⟩:=b;replace b:=dL.1 b;obtain⟨a8,b⟩:=b;simp at b;obtain⟨rfl,rfl⟩:=b;rw[aG]at hl;have V:=aC V;have a8:=aC a8;obtain⟨g,v,bu,J,D,L,c7,bS⟩:=Q.rV;obtain⟨U,bC⟩:=i.JG D W;obtain⟨cy,cL,bs⟩:=bS dq;have b7:bu≠0:=dq;rw[bs b7]at J;refine iZ.pure (c:= .pointer (some ⟨g.iI,(S+f)*g.sz,none⟩)) i ?_ (.ptr A B (S+f) 0 g _ D L λ_=>by simp);have G:¬l<=f:=dq;have bH:(⟨g.iI,S*g.sz,none⟩:Addr).add (f*m.size)=⟨g.iI,(S+f)*g.sz,none⟩:=by
    rw[ko,<-V,U,bY]
   simp[execOp,an,Instr.indexAt,aN,asIntOf,run_underlying X,J,N,G,bH]
 ·rename_i n bz;have:=qv aE;subst this;replace b:=dD.1 b;obtain⟨m,aA,b⟩:=b;have N:=(iG.ty _ _ aA).run_sizeOf w;unfold oh at b;replace b:=dL.1 b;obtain⟨hl,b⟩:=b;rw[aG]at hl;have G:¬n<=f:=dq;have av:∀v:Addr,a.eval x= .pointer (some v)->(execOp a.eval o).run P w= .ok (.value (.pointer (some (v.add (f*m.size))))) w:=by
   intro v ap;simp[execOp,an,Instr.indexAt,aN,asIntOf,run_underlying X,ap,Instr.sureAddr,N,G]
  cases p<;>simp at b
  ·rename_i A B R j;replace b:=dD.1 b;obtain⟨a7,W,b⟩:=b;obtain⟨g,v,M,D,L,bi⟩:=Q.oX;obtain⟨U,bC⟩:=i.JG D W;cases E:Nat.beq a7.sz m.size with
   |false=>
    rw[E]at b;have b:some (lh.val (T.ptr A B R (j+f*m.size)) h)=some (.val s K):=b;simp only[ar,lh.val.injEq]at b;obtain⟨rfl,rfl⟩:=b;refine iZ.pure i (av v M) (.ptr A B R (j+f*m.size) g _ D L λY=> ?_);rw[bi Y,ko,cB]
   |true=>
    rw[E]at b;have b:fT (Nat.beq j 0) (some (lh.val (T.ptr A B (R+f) 0) h))=some (.val s K):=b;replace b:=dL.1 b;obtain⟨ae,b⟩:=b;have ae:=aC ae;subst ae;simp only[ar]at b;obtain⟨rfl,rfl⟩:=b;have E:=aC E;refine iZ.pure i (av v M) (.ptr A B (R+f) 0 g _ D L λY=> ?_);rw[bi Y,ko,<-E,U,bY];simp
  ·rename_i c4;replace b:=dD.1 b;obtain⟨c6,F,b⟩:=b;simp at b;obtain⟨rfl,rfl⟩:=b;obtain⟨a6,off,aX,bn,fz,M,al,Z,bk,b8,hr⟩:=Q.ly;rw[lF]at F;split at F
   ·rename_i de;simp at F;subst F;refine iZ.pure i (av _ M) ?_;rw[ko];refine .ji _ a6 (off+f*m.size) aX bn fz al Z du (λs O=>b8 s (bA O)) λk s O=> ?_;rw[bG]at O;have:=hr _ s O;rwa[<-cB]at this
   ·simp at F
end
end
end Go.TI
