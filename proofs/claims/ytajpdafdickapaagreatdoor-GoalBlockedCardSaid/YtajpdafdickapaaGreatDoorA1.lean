/- TiBase -/
import Derived.Test.YtajpdafdickapaaGreatDoorA0
import Derived.IntWalk
import Derived.Calls
import Derived.Laws.CopyRow
import Derived.Laws.Cells
import Derived.Laws.Entries
import Derived.WalkCall
import Derived.Laws.Strings
import Derived.Lib.Strings
import Derived.Laws.StructEq
import Derived.ChangeKeysEq
import Derived.Great.FillDense
set_option linter.all false
namespace Go.TI
abbrev Z(n:Int):T:=.int .i64 n
abbrev dD:T:=.dK [] false
abbrev dE(s v:Nat)(e:List T):iY:=⟨s,0,v,true,false,e⟩
@[simp] abbrev dF(v:fW)(n:Nat)(t:T):Prop:=TI.dM v n=some t
end Go.TI
namespace Go.TI
noncomputable section
section
@[simp]theorem ed {α β:Type} (a:α) (b:α->aa β):dV (some a) b=b a:=rfl
@[simp]theorem acv {α β:Type} (a:α->aa β):dV (none:aa α) a=none:=rfl
theorem dI{α β:Type}{a:aa α}{c:α->aa β}{d:β}:dV a c=some d↔∃b,a=some b/\c b=some d:=by
 cases a<;>simp
@[simp]theorem iH {α:Type} (a:aa α):gJ true a=a:=rfl
@[simp]theorem NZ {α:Type} (a:aa α):gJ false a=none:=rfl
theorem dQ{α:Type}{a:Bool}{b:aa α}{c:α}:gJ a b=some c↔a=true/\b=some c:=by
 cases a<;>simp
@[simp]theorem kN {α β d:Type} (a:α) (b:β) (c:α->β->d):two (a,b) c=c a b:=rfl
@[simp]theorem lY {e:Type} (d:Ex) (a:Env) (c:H) (b:Ex->Env->H->e):three (d,a,c) b=b d a c:=rfl
section lists
variable {α β:Type}
@[simp]def kP (b:List α) (a:Nat):mI b a=b[a]? :=by
 induction b generalizing a with
 |nil=>rfl
 |cons e d c=>cases a with
  |zero=>rfl
  |succ a=>exact(c a).trans dy 
def kQ(b:List α)(a:Nat)(c:α):kO b a c=if a<b.length then some (b.set a c)else none:=by
 induction b generalizing a with
 |nil=>rfl
 |cons h d f=>cases a with
  |zero=>rfl
  |succ a=>
   show(dV (kO d a c) λg=>some (h::g))=_;rw[f];by_cases e:a<d.length<;>simp[e]
theorem nY(a:Nat)(b:List α):takeN a b=if a<=b.length then some (b.take a)else none:=by
 induction a generalizing b with
 |zero=>rfl
 |succ a e=>cases b with
  |nil=>rfl
  |cons g c=>
   show(dV (takeN a c) λf=>some (g::f))=_;rw[e];by_cases d:a<=c.length<;>simp[d]
def mh(a:Nat)(b:List α):j4 a b=if a<=b.length then some (b.drop a)else none:=by
 induction a generalizing b with
 |zero=>rfl
 |succ a e=>cases b with
  |nil=>rfl
  |cons f c=>
   show j4 a c=_;rw[e];by_cases d:a<=c.length<;>simp[d]
@[simp]theorem jW (a:List α):kY a=a.length:=by
 induction a with
 |nil=>rfl
 |cons d c b=>show Nat.succ (kY c)=_;rw[b];rfl
@[simp]theorem rL (a b:List α):Fb a b=some (a++b):=by
 induction a with
 |nil=>rfl
 |cons f d c=>show(dV (Fb d b) λe=>some (f::e))=_;rw[c];rfl
theorem jK(a:α->aa β)(c:α)(b:List α):fQ a (c::b)=dV (a c) λe=>dV (fQ a b) λd=>some (e::d):=rfl
@[simp]theorem Xc (a:α->aa β):fQ a []=some []:=rfl
def sk{e:α->aa β}{b:List α}{a:List β}:fQ e b=some a↔b.length=a.length/\∀(c:Nat) d,b[c]? =some d->∃f,a[c]? =some f/\e d=some f:=by
 induction b generalizing a with
 |nil=>
  constructor
  ·simp_all
  ·rintro⟨g,_⟩;simp at g;simp[bg g.symm]
 |cons d b k=>
  rw[jK];constructor
  ·grind [dI]
  ·rintro⟨hl,h⟩;cases a with
   |nil=>grind
   |cons f a=>
    have⟨n,i,j⟩:=h 0 d dy;simp at i;subst i;have:fQ e b=some a:=k.2 ⟨by grind,λc l m=>by simpa using h (c+1) l (by grind)⟩;rw[j,this];rfl
@[simp]theorem p9 (b:α) (a:Nat):pK b a=List.replicate a b:=by
 induction a with
 |zero=>rfl
 |succ a c=>show b::pK b a=_;rw[c];rfl
@[simp]def Ag (a:α->Bool) (b:List α):xG a b=b.all a:=by
 induction b with
 |nil=>rfl
 |cons c b e=>
  show @Bool.rec (λ_=>Bool) false (xG a b) (a c)=_;rw[e];cases d:a c<;>simp[d]
end lists
@[simp]theorem iO (a:Nat):ir a=some a:=by cases a<;>rfl
@[simp]theorem W7 (b:Int):LH b=some b:=by
 cases b with
 |ofNat a=>cases a<;>rfl
 |negSucc a=>cases a<;>rfl
@[simp]def oY (a:ak) (b:Int):yi a b=some (.int a b):=by simp[yi]
@[simp]theorem r9 (a:Bool):xL a=some (.bool a):=by cases a<;>rfl
@[simp]def yu (a b:ak):(EK a b=true)↔a=b:=by cases a<;>cases b<;>decide
def yq(c b:Int):LM c b=decide (c<b):=by
 cases c with
 |ofNat d=>cases b with
  |ofNat a=>
   show Nat.blt d a=_;rw[bm,aJ];simp
  |negSucc a=>rfl
 |negSucc d=>cases b with
  |ofNat a=>show true=_;grind
  |negSucc a=>
   show Nat.blt a d=_;rw[bm,aJ];grind
def yA(c b:Int):Sl c b=(c==b):=by
 cases c with
 |ofNat d=>cases b with
  |ofNat a=>
   show Nat.beq d a=_;rw[bm,Nat.beq_eq];grind
  |negSucc a=>rfl
 |negSucc d=>cases b with
  |ofNat a=>rfl
  |negSucc a=>
   show Nat.beq d a=_;rw[bm,Nat.beq_eq];simp
def jA(c:ak)(d:Int):Lf c d=c.wrap d:=by
 cases c<;>try rfl
 cases d with
 |ofNat a=>
  show @Bool.rec (λ_=>Int) (IntKind.i64.wrap (.ofNat a)) (Int.ofNat a) (Nat.ble a 9223372036854775807)=_;cases b:Nat.ble a 9223372036854775807
  ·rfl
  ·have:=bh b;show Int.ofNat a=_;exact(IntWalk.i64_in _ (by grind)).symm
 |negSucc a=>
  show @Bool.rec (λ_=>Int) (IntKind.i64.wrap (.negSucc a)) (Int.negSucc a) (Nat.ble a 9223372036854775807)=_;cases b:Nat.ble a 9223372036854775807
  ·rfl
  ·have:=bh b;show Int.negSucc a=_;exact(IntWalk.i64_in _ J).symm
@[simp]def yT (a:ak) (b:Int):qr a b=some (.int a (a.wrap b)):=by simp[qr,jA]
def G6(b a:List Nat):VF b a=(b==a):=by
 induction b generalizing a with
 |nil=>cases a<;>rfl
 |cons c b f=>cases a with
  |nil=>rfl
  |cons d a=>
   show @Bool.rec (λ_=>Bool) false (VF b a) (Nat.beq c d)=_;rw[f];rw[List.cons_beq_cons];cases e:Nat.beq c d
   ·have:(c==d)=false:=by rw[<-Bool.not_eq_true,beq_iff_eq,<-Nat.beq_eq];simp[e]
    grind
   simp_all
theorem H.get_eq(b:H)(a:Nat):b.get a=if a<b.size then b.fH[b.size-1-a]? else none:=by
 obtain⟨d,f,e⟩:=b;show gJ (Nat.blt a d) (mI e _)=_;by_cases c:a<d
 ·have:Nat.blt a d=true:=by rw[aJ];exact c
  simp[this,c]
 ·have:Nat.blt a d=false:=by rw[<-Bool.not_eq_true,aJ];exact c
  simp[this,c]
def H.QJ(b:Nat->T)(a:H)(c:iY):a.new b c=some (b a.size,⟨a.size+1,a.low,c::a.fH⟩):=by
 obtain⟨d,f,e⟩:=a;show(dV (ir (Nat.succ d)) λg=>some (b d,(⟨g,f,c::e⟩:H)))=_;simp
def H.wx{b j:H}{a:Nat}{i:iY}:b.put a i=some j↔
 a<b.size/\b.size-1-a<b.fH.length/\j=⟨b.size,if a<b.low then a else b.low,b.fH.set (b.size-1-a) i⟩:=by
 obtain⟨d,c,l⟩:=b;show gJ (Nat.blt a d) (dV (kO l (d-1-a) i) λe=> @Bool.rec (λ_=>aa H) (some (⟨d,c,e⟩:H)) (some ⟨d,a,e⟩) (Nat.blt a c))=_↔_;rw[dQ,aJ,kQ];constructor
 ·rintro⟨g,m⟩;obtain⟨e,f,k⟩:=dI.1 m;split at f
  ·rename_i hl;simp at f;subst f;refine⟨g,hl,?_⟩;by_cases h:a<c
   ·have:Nat.blt a c=true:=by rw[aJ];omega
    rw[this]at k;grind
   ·have:Nat.blt a c=false:=by rw[<-Bool.not_eq_true,aJ];omega
    rw[this]at k;grind
  grind
 ·rintro⟨g,hl,rfl⟩;refine⟨g,?_⟩;simp only[]at hl;rw[ar hl];by_cases h:a<c
  ·have:Nat.blt a c=true:=by rw[aJ];omega
   simp[this,h]
  ·have:Nat.blt a c=false:=by rw[<-Bool.not_eq_true,aJ];omega
   simp[this,h]
end
structure Loc where
 ep:Nat
 jc:Nat
 cap:Nat
 sz:Nat
structure Mu where
 loc:Nat->aa Loc
 py:Nat->Prop
instance :CoeFun Mu (λ_=>Nat->aa Loc):=⟨Mu.loc⟩
def nN(c:Mu)(b:Nat):Prop:=(∃d a,c d=some a/\a.jc=b)\/c.py b
def T.scalar:T->Bool
 | .undef| .agg _| .tuple _=>false
 |_=>true
inductive kC:T->Prop where
 |bool (b:Bool):kC (.bool b)
 |int (k:ak) (n:Int):kC (.int k n)
 |str (s:List Nat):kC (.str s)
 |kH:kC .kH
 |jD (cs:List T) (h:∀v∈cs,kC v):kC (.jD cs)
 |dK (es:List T) (full:Bool) (h:∀v∈es,kC v):kC (.dK es full)
 |gX:kC .gX
 |kS:kC .kS
 |kR:kC .kR
 |agg (cs:List T) (h:∀v∈cs,kC v):kC (.agg cs)
def vM(a:T):Prop:=a.scalar=true/\kC a
def fF(a:List T):List T:=a.flatMap T.cells
def bytesOf(a:List Nat):ByteArray:=⟨(a.map UInt8.ofNat).toArray⟩
inductive fI (hp:af Obj) (μ:Mu):T->ao->Prop where
 |undef:fI hp μ .undef (.tuple #[])
 |bool (b:Bool):fI hp μ (.bool b) (.bool b)
 |int (k:ak) (n:Int):fI hp μ (.int k n) (.int k n)
 |str (s:List Nat) (h:∀c∈s,c<256):fI hp μ (.str s) (.string (bytesOf s))
 |kH:fI hp μ .kH (.pointer none)
 |ptr (b ep i j:Nat) (L:Loc) (a:Addr) (hb:μ b=some L) (he:ep<=L.ep) (ha:ep=L.ep->a=⟨L.jc,i*L.sz+j,none⟩):
  fI hp μ (.ptr b ep i j) (.pointer (some a))
 |jD (cells:List T) (jc off:Nat) (arr:af ao) (t:ab) (fz:Nat×Nat) (hn:¬nN μ jc) (hh:hp[jc]? =some (.cells arr t fz))
  (hs:off+cells.length<=arr.size) (hc:∀v∈cells,vM v)
  (hr:∀(k:Nat) v,cells[k]? =some v->fI hp μ v (arr.getD (off+k) Go.undef)):fI hp μ (.jD cells) (.pointer (some ⟨jc,off,none⟩))
 |nV (full:Bool) (a:aa Addr):fI hp μ (.dK [] full) (.slice a 0 0)
 |dK (e:T) (es:List T) (full:Bool) (jc off cap sz:Nat) (arr:af ao) (t:ab) (fz:Nat×Nat) (hn:¬nN μ jc)
  (hh:hp[jc]? =some (.cells arr t fz)) (hl:es.length+1<=cap) (hf:full=true->cap=es.length+1)
  (hu:∀v∈e::es,v.cells.length=sz) (hs:off+(fF (e::es)).length<=arr.size) (hc:∀v∈fF (e::es),vM v)
  (hr:∀(k:Nat) v,(fF (e::es))[k]? =some v->fI hp μ v (arr.getD (off+k) Go.undef)):
  fI hp μ (.dK (e::es) full) (.slice (some ⟨jc,off,none⟩) (es.length+1) cap)
 |gX (a:aa Addr) (cap:Nat):fI hp μ .gX (.slice a 0 cap)
 |arr (b ep o l:Nat) (full:Bool) (L:Loc) (a:aa Addr) (cp:Nat) (hb:μ b=some L) (he:ep<=L.ep) (hl:l<=cp)
  (h:ep=L.ep->(full=true->cp=l)/\(full=false->o+cp=L.cap)/\(cp≠0->a=some ⟨L.jc,o*L.sz,none⟩)):
  fI hp μ (.arr b ep o l full) (.slice a l cp)
 |func (f:aj) (caps:List T) (cs:af ao) (hs:cs.size=caps.length)
  (hr:∀(k:Nat) v,caps[k]? =some v->fI hp μ v (cs.getD k Go.undef)):fI hp μ (.func f caps) (.func (.func f) #[] cs)
 |kS:fI hp μ .kS .nilFunc
 |kR:fI hp μ .kR .nilIface
 |iface (t:ab) (v:T) (c:ao) (h:fI hp μ v c):fI hp μ (.iface t v) (.iface t c)
 |iter (b:Nat) (L:Loc) (a:Addr) (hb:μ b=some L) (h:L.ep=0->a=⟨L.jc,0,none⟩):fI hp μ (.iter b) (.pointer (some a))
 |map (b:Nat) (L:Loc) (i:Nat) (hb:μ b=some L) (h:L.ep=0->i=L.jc):fI hp μ (.map b) (.map (some i))
 |nZ:fI hp μ .nZ (.map none)
 |agg (cells:List T) (cs:af ao) (hs:cs.size=cells.length) (hc:∀v∈cells,v.scalar=true)
  (hr:∀(k:Nat) v,cells[k]? =some v->fI hp μ v (cs.getD k Go.undef)):fI hp μ (.agg cells) (.agg cs)
 |tuple (vs:List T) (cs:af ao) (hs:cs.size=vs.length)
  (hr:∀(k:Nat) v,vs[k]? =some v->fI hp μ v (cs.getD k Go.undef)):fI hp μ (.tuple vs) (.tuple cs)
structure Ext(hp:af Obj)(μ:Mu)(hp':af Obj)(μ':Mu):Prop where
 size:hp.size<=hp'.size
 nU:∀i,i<hp.size->¬nN μ i->hp'[i]? =hp[i]? /\¬nN μ' i
 mu:∀b L,μ b=some L->∃L',μ' b=some L'/\(L'=L\/L.ep<L'.ep)
 py:μ'.py=μ.py
 kept:∀i,i<hp.size->μ.py i->hp'[i]? =hp[i]?
structure p7(w:World)(μ:Mu)(w':World)(μ':Mu):Prop where
 ext:Ext w.heap μ w'.heap μ'
 os:w'.os=w.os
 tape:w'.tape=w.tape
 output:w'.output=w.output
def Ext.refl(b:af Obj)(c:Mu):Ext b c b c:=⟨aw _,λ_ _ a=>⟨rfl,a⟩,λ_ d a=>⟨d,a,.inl rfl⟩,rfl,λ_ _ _=>rfl⟩
def Ext.trans{hp f g:af Obj}{h i j:Mu}(a:Ext hp h f i)(d:Ext f i g j):Ext hp h g j:=by
 refine⟨aT a.size d.size,λc b o=>?_,λe k n=>?_,d.py.trans a.py,λc b hr=>?_⟩
 rotate_right
 ·rw[d.kept c (bD b a.size) (by rw[a.py];exact hr),a.kept c b hr]
 ·have⟨r,p⟩:=a.nU c b o;have⟨s,u⟩:=d.nU c (bD b a.size) p
  grind
 ·have⟨l,m,r1⟩:=a.mu e k n;have⟨q,t,r2⟩:=d.mu e l m
  grind
def p7.refl(a:World)(b:Mu):p7 a b a b:=⟨Ext.refl _ _,rfl,rfl,rfl⟩
def p7.trans{c w1 d:World}{e f g:Mu}(a:p7 c e w1 f)(b:p7 w1 f d g):p7 c e d g:=
 ⟨a.ext.trans b.ext,b.os.trans a.os,b.tape.trans a.tape,b.output.trans a.output⟩
def DA{a:af Obj}{b:Nat}{c:Obj}(d:a[b]? =some c):b<a.size:=by
 grind
def fI.ext{A B:af Obj}{C D:Mu}{t:T}{s:ao}(i:fI A C t s)(j:Ext A C B D):fI B D t s:=by
 induction i with
 |undef=>exact .undef
 |bool a=>exact .bool a
 |int N p=>exact .int N p
 |str R i=>exact .str R i
 |kH=>exact .kH
 |ptr a x z M e c g I V=>
  have⟨f,h,r⟩:=j.mu a e g;refine .ptr a x z M f c h ?_ ?_
  ·rcases r with rfl|r<;>omega
  grind
 |jD v k off arr q fz y o d n _ b=>
  have⟨w,p⟩:=j.nU k (DA o) y;exact .jD v k off arr q fz p (w.trans o) d n b
 |nV m c=>exact .nV m c
 |dK w G m k off u S arr q fz y o hl K L d n _ b=>
  have⟨Q,p⟩:=j.nU k (DA o) y;exact .dK w G m k off u S arr q fz p (Q.trans o) hl K L d n b
 |gX c u=>exact .gX c u
 |arr a x P O m e c F g I hl i=>
  have⟨f,h,r⟩:=j.mu a e g;refine .arr a x P O m f c F h ?_ hl ?_
  ·rcases r with rfl|r<;>omega
  grind
 |func H E l d _ b=>exact .func H E l d b
 |kS=>exact .kS
 |kR=>exact .kR
 |iface q t s _ b=>exact .iface q t s b
 |iter a e c g i=>
  have⟨f,h,r⟩:=j.mu a e g;refine .iter a f c h ?_
  grind
 |map a e z g i=>
  have⟨f,h,r⟩:=j.mu a e g;refine .map a f z h ?_
  grind
 |nZ=>exact .nZ
 |agg v l d n _ b=>exact .agg v l d n b
 |tuple U l d _ b=>exact .tuple U l d b
def gU(e:af Obj)(f:Mu)(d:List T)(a:List ao):Prop:=
 d.length=a.length/\∀(b:Nat) c,d[b]? =some c->fI e f c (a.getD b Go.undef)
def gU.ext{c d:af Obj}{f g:Mu}{e:List T}{a:List ao}(b:gU c f e a)(k:Ext c f d g):gU d g e a:=
 ⟨b.1,λi j h=>(b.2 i j h).ext k⟩
theorem gU.nil{a:af Obj}{b:Mu}:gU a b [] []:=⟨rfl,λd e c=>by grind⟩
theorem gU.cons{a:af Obj}{c:Mu}{h:T}{d:ao}{i:List T}{e:List ao}(k:fI a c h d)(f:gU a c i e):gU a c (h::i) (d::e):=by
 refine⟨by simp[f.1],λb j g=>?_⟩;cases b with
 |zero=>grind
 |succ b=>simp at g;simpa using f.2 b j g
def gU.mt{d:af Obj}{f:Mu}{e:T}{g:List T}{c:List ao}(h:gU d f (e::g) c):∃a b,c=a::b/\fI d f e a/\gU d f g b:=by
 obtain⟨hl,hr⟩:=h;cases c with
 |nil=>grind
 |cons a b=>exact⟨a,b,rfl,by simpa using hr 0 e dy,by grind,λi j k=>by simpa using hr (i+1) j (by grind)⟩
theorem gU.append{c:af Obj}{d:Mu}{a g:List T}{b e:List ao}(f:gU c d a b)(j:gU c d g e):gU c d (a++g) (b++e):=by
 induction a generalizing b with
 |nil=>obtain⟨hl,_⟩:=f;simp at hl;rw[bg hl.symm];grind
 |cons n a m=>obtain⟨h,i,rfl,l,k⟩:=f.mt;grind [gU.cons]
def gU.take{e:af Obj}{f:Mu}{a:List T}{c:List ao}(d:gU e f a c)(b:Nat):gU e f (a.take b) (c.take b):=by
 induction b generalizing a c with
 |zero=>simp[gU.nil]
 |succ b k=>cases a with
  |nil=>obtain⟨hl,_⟩:=d;simp at hl;rw[bg hl.symm];simp[gU.nil]
  |cons l a=>obtain⟨g,h,rfl,j,i⟩:=d.mt;grind [gU.cons]
def gU.drop{e:af Obj}{f:Mu}{a:List T}{c:List ao}(d:gU e f a c)(b:Nat):gU e f (a.drop b) (c.drop b):=by
 induction b generalizing a c with
 |zero=>grind
 |succ b j=>cases a with
  |nil=>obtain⟨hl,_⟩:=d;simp at hl;rw[bg hl.symm];simp[gU.nil]
  |cons k a=>obtain⟨g,h,rfl,_,i⟩:=d.mt;grind
def gU.get{d:af Obj}{f:Mu}{e:List T}{a:List ao}(c:gU d f e a){k:Nat}{v:T}(h:e[k]? =some v):∃b,a[k]? =some b/\fI d f v b:=by
 have g:k<a.length:=by
  rw[<-c.1]
  grind
 refine⟨a[k],dy,?_⟩;simpa[List.getD,g]using c.2 k v h
theorem r6{d:af Obj}{f:Mu}{b:T}{a:ao}(c:fI d f b a)(e:b.scalar=true):a.oneCell'=true:=by
 cases c<;>first|rfl|(simp[T.scalar]at e)
theorem fI.cells{o:af Obj}{q:Mu}{b:T}{c:ao}(d:fI o q b c)(V:b.iy=true):
 gU o q b.cells c.cells.toList/\(∀h∈b.cells,h.scalar=true)/\∀h∈c.cells.toList,h.oneCell'=true:=by
 have a:∀{b:T} {c:ao},fI o q b c->b.scalar=true->b.cells=[b]->c.cells= #[c]->
  gU o q b.cells c.cells.toList/\(∀h∈b.cells,h.scalar=true)/\∀h∈c.cells.toList,h.oneCell'=true:=by
  intro b c d k z i;rw[z,i]
  grind [gU.nil,gU.cons,r6]
 cases d with
 |agg m r k i hr=>
  have F:gU o q m r.toList:=⟨by grind,λl b z=>by simp_all⟩;refine⟨F,i,?_⟩;intro h M;have L:h∈r.toList:=M;obtain⟨l,W,rfl⟩:=List.getElem_of_mem L;have I:l<m.length:=by grind
  have:=hr l m[l] dy;have U:=r6 this (i _ (aF I));simp_all
 |undef=>grind [T.iy]
 |tuple=>grind [T.iy]
 |bool f=>exact a (.bool f) rfl rfl rfl
 |int l P=>exact a (.int l P) rfl rfl rfl
 |str R g=>exact a (.str R g) rfl rfl rfl
 |kH=>exact a .kH rfl rfl rfl
 |ptr f u y N j e g v G=>exact a (.ptr f u y N j e g v G) rfl rfl rfl
 |jD m s off arr p fz x w k i hr=>exact a (.jD m s off arr p fz x w k i hr) rfl rfl rfl
 |nV n e=>exact a (.nV n e) rfl rfl rfl
 |dK C D n s off t S arr p fz x w hl H K k i hr=>exact a (.dK C D n s off t S arr p fz x w hl H K k i hr) rfl rfl rfl
 |gX e t=>exact a (.gX e t) rfl rfl rfl
 |arr f u Q O n j e B g v hl d=>exact a (.arr f u Q O n j e B g v hl d) rfl rfl rfl
 |func E A r k hr=>exact a (.func E A r k hr) rfl rfl rfl
 |kS=>exact a .kS rfl rfl rfl
 |kR=>exact a .kR rfl rfl rfl
 |iface p b c d=>exact a (.iface p b c d) rfl rfl rfl
 |iter f j e g d=>exact a (.iter f j e g d) rfl rfl rfl
 |map f j y g d=>exact a (.map f j y g d) rfl rfl rfl
 |nZ=>exact a .nZ rfl rfl rfl
structure Am(hp:af Obj)(μ:Mu)(L:Loc)(tZ:Bool)(fg:List T):Prop where
 row:∃arr t,hp[L.jc]? =some (.cells arr t (0,0))/\arr.size=L.cap*L.sz/\gU hp μ (fF fg) (arr.toList.take (fF fg).length)
 room:fg.length<=L.cap
 tZ:tZ=true->L.cap=fg.length
 size:∀v∈fg,v.cells.length=L.sz
 scalar:∀v∈fF fg,v.scalar=true
def acK(c:af Obj)(i:Mu)(j:Loc)(e:List T):Prop:=
 ∃a:af MapEntry,c[j.jc]? =some (.map a a.size)/\a.size=e.length/\
  ∀(d:Nat) h,e[d]? =some h->∃f g b,h= .tuple [f,g]/\a[d]? =some b/\b.born=d/\fI c i f b.key/\fI c i g b.val
def acL(c:af Obj)(i:Mu)(g:Loc)(h:List T):Prop:=
 ∃e d f b a,h=[.map e,.int .i64 (.ofNat f),.int .i64 (.ofNat b),.int .i64 (.ofNat a)]/\fI c i (.map e) (.map (some d))/\b<=a/\
  c[g.jc]? =some (.mapIter (some d) b (Array.range f) a)
structure ry(hp:af Obj)(μ:Mu)(L:Loc)(x:iY):Prop where
 ep:x.ep=L.ep
 sz:x.sz=L.sz
 plain:x.it=false->Am hp μ L x.exact x.fg
 iter:x.it=true->x.ep=0/\((∃s pos,x.fg=[.str s,.int .i64 (.ofNat pos)]/\(∀c∈s,c<256)/\hp[L.jc]? =some (.stringIter (bytesOf s) pos))\/acK hp μ L x.fg\/acL hp μ L x.fg)
structure St(cx:Ctx)(base:Nat)(hp:af Obj)(μ:Mu)(h:H):Prop where
 wf:h.fH.length=h.size
 fit:base<=hp.size
 box:∀b L,μ b=some L->∃x,h.get b=some x/\ry hp μ L x
 inj:∀b b' L L',μ b=some L->μ b'=some L'->L.jc=L'.jc->b=b'
 low:∀b L,μ b=some L->base<=L.jc
 apart:∀b L,μ b=some L->¬μ.py L.jc
 rm:∀i,μ.py i->i<hp.size
 zI:∀g cs,cx.gl g=some cs->fI hp μ (.jD cs) (.pointer (some ⟨g,0,none⟩))
def Am.ext{c d:af Obj}{g h:Mu}{b:Loc}{f:Bool}{e:List T}(a:Am c g b f e)(j:Ext c g d h)(n:d[b.jc]? =c[b.jc]?):Am d h b f e:=by
 have⟨i,o,k,l,m⟩:=a.row;exact⟨⟨i,o,n.trans k,l,m.ext j⟩,a.room,a.tZ,a.size,a.scalar⟩
def ry.ext{j k:af Obj}{n o:Mu}{b:Loc}{h:iY}(d:ry j n b h)(c:Ext j n k o)(i:k[b.jc]? =j[b.jc]?):ry k o b h:=
 ⟨d.ep,d.sz,λa=>(d.plain a).ext c i,λa=>by
   obtain⟨l,⟨E,m,e,f,g⟩|⟨q,e,f,g⟩|⟨A,z,m,C,p,e,f,g,w⟩⟩:=d.iter a
   ·grind
   ·refine⟨l,.inr (.inl ⟨q,i.trans e,f,λy h x=>?_⟩)⟩;have⟨a,D,B,r,s,t,u,v⟩:=g y h x;exact⟨a,D,B,r,s,t,u.ext c,v.ext c⟩
   ·exact⟨l,.inr (.inr ⟨A,z,m,C,p,e,f.ext c,g,i.trans w⟩)⟩⟩
def ry.lt{d:af Obj}{g:Mu}{a:Loc}{e:iY}(b:ry d g a e):a.jc<d.size:=by
 cases c:e.it with
 |false=>have⟨h,m,f,_⟩:=(b.plain c).row;grind
 |true=>
  obtain⟨_,⟨s,l,_,_,j⟩|⟨i,f,_⟩|⟨_,_,_,_,_,_,_,_,k⟩⟩:=b.iter c
  ·grind
  ·grind
  grind
def St.lt{cx:Ctx}{e:Nat}{c:af Obj}{d:Mu}{f:H}(s:St cx e c d f){b:Nat}{a:Loc}(g:d b=some a):a.jc<c.size:=by
 have⟨i,_,h⟩:=s.box b a g;exact h.lt
section
section
variable {P:ai}{cx:Ctx}
structure vm(P:ai)(t:ab)(ty:Ty):Prop where
 is:∃cmp,V4 P t cmp=some ty
def jJ{a:Nat}(b:a<256):(UInt8.ofNat a).toNat=a:=by
 simp_all
def N5(a:List UInt8):A1 a=some (a.map UInt8.toNat):=by
 induction a with
 |nil=>rfl
 |cons d a b=>
  show(dV (ir d.toNat) λe=>dV (A1 a) λc=>some (e::c))=_;rw[b];simp
def xZ(a:ByteArray):bytesOf (a.data.toList.map UInt8.toNat)=a:=by
 unfold bytesOf;rw[cI];have:(UInt8.ofNat∘UInt8.toNat)=id:=by funext b;simp
 rw[this];simp
theorem fI.oy{hp:af Obj}{μ:Mu}{d:ao}{b:T}(a:oy d=some b):fI hp μ b d/\b.scalar=true:=by
 unfold TI.oy at a;split at a
 ·simp at a;subst a;exact⟨.bool _,rfl⟩
 ·simp at a;subst a;exact⟨.int _ _,rfl⟩
 ·rename_i f;rw[N5]at a;simp at a;subst a;refine⟨?_,rfl⟩;have:=fI.str (hp:=hp) (μ:=μ) (f.data.toList.map UInt8.toNat) (by intro g c;simp at c;obtain⟨e,_,rfl⟩:=c;exact e.toNat_lt);rwa[xZ]at this
 ·simp at a;subst a;exact⟨.kH,rfl⟩
 ·simp at a;subst a;exact⟨.nZ,rfl⟩
 ·simp at a;subst a;exact⟨.nV _ _,rfl⟩
 ·simp at a;subst a;exact⟨.kS,rfl⟩
 ·simp at a;subst a;exact⟨.kR,rfl⟩
 grind
theorem gU.tq{hp:af Obj}{μ:Mu}{b:List ao}{e:List T}(j:fQ TI.oy b=some e):gU hp μ e b/\∀f∈e,f.scalar=true:=by
 have⟨hl,h⟩:=sk.1 j;refine⟨⟨hl.symm,λa f d=>?_⟩,λf d=>?_⟩
 ·have i:a<b.length:=by
   grind
  have⟨k,c,g⟩:=h a b[a] dy;rw[d]at c;grind [fI.oy,List.getD]
 ·obtain⟨a,i,rfl⟩:=List.getElem_of_mem d;have l:a<b.length:=J;have⟨k,c,g⟩:=h a b[a] dy;simp[i]at c;subst c;exact(fI.oy (hp:=hp) (μ:=μ) g).2
theorem fI.x7{e:af Obj}{f:Mu}{a:List T}{b:af ao}(d:gU e f a b.toList)(g:∀c∈a,c.scalar=true):fI e f (.agg a) (.agg b):=
 .agg a b (by simpa using d.1.symm) g λi c h=>by simpa[bP,List.getD]using d.2 i c h
def fI.zm{d:af Obj}{e:Mu}{a:ao}{b:T}(c:zm a=some b):fI d e b a:=by
 unfold TI.zm at c
 grind [fI.x7,gU.tq,dI,fI.oy]
def vm.unfold{e:ab}{c:Ty}(a:vm P e c):∃b d f,P.info? e=some b/\P.underlying e=some d/\b.zero=some f/\fQ oy f.cells.toList=some c.zero/\
 BH P d=some c.u/\t8 d f=true/\c.zero.length=b.size/\b.size=c.size/\b.bytes=c.bytes/\
 (c.cmp=true->P.stoodInHeld e=false/\P.eqGuardType P.depth e=false/\LJ d=true):=by
 have⟨p,a⟩:=a.is;unfold V4 at a;have⟨b,h,a⟩:=dI.1 a;have⟨d,i,a⟩:=dI.1 a;have⟨f,j,a⟩:=dI.1 a;have⟨r,k,a⟩:=dI.1 a;have⟨q,l,a⟩:=dI.1 a;have⟨m,a⟩:=dQ.1 a;have⟨n,a⟩:=dQ.1 a;have⟨o,a⟩:=dQ.1 a;simp at a;rw[<-a];refine⟨b,d,f,h,i,j,k,l,m,?_,rfl,rfl,?_⟩
 ·rw[jW]at n;simp_all
 ·intro g;simp only[]at g;rw[g]at o
  grind
def vm.run_sizeOf{a:ab}{b:Ty}(d:vm P a b)(c:World):(sizeOf a).run P c= .ok b.size c:=by
 have⟨h,g,i,e,_,_,_,_,_,_,f,_⟩:=d.unfold;simp[sizeOf,typeInfo,e,f]
def vm.run_typeInfo{c:ab}{b:Ty}(e:vm P c b)(d:World):∃a,(typeInfo c).run P d= .ok a d/\a.bytes=b.bytes/\a.size=b.size:=by
 have⟨a,i,j,f,_,_,_,_,_,_,g,h,_⟩:=e.unfold;exact⟨a,by simp[typeInfo,f],h,g⟩
def acz:TypeDesc->Bool
 | .struct _| .array _ _=>true
 |_=>false
def AH{b:TypeDesc}{c:Ty}(a:BH P b=some c.u):c.isAgg=acz b:=by
 unfold Ty.isAgg;cases b<;>simp only[BH]at a<;>first|(injection a with a;rw[<-a];rfl)|(split at a<;>simp at a;rw[<-a];rfl)
def vm.ug{a:ab}{b:Ty}(e:vm P a b)(c:World):(isAgg a).run P c= .ok b.isAgg c:=by
 have⟨h,d,i,_,f,_,_,g,_⟩:=e.unfold;rw[AH g];simp only[isAgg,Sem.run_bind,run_underlying f,Result.andThen_ok];cases d<;>rfl
def vm.zero{s:ab}{a:Ty}(e:vm P s a)(t:World):∃b,(zeroValue s).run P t= .ok b t/\(∀hp μ,fI hp μ a.ku b)/\(∀hp μ,gU hp μ a.zero b.cells.toList)/\
 (∀z∈a.zero,z.scalar=true)/\a.zero.length=a.size/\a.ku.cells=a.zero/\a.ku.iy=true/\b.cells.size=a.size:=by
 have⟨H,n,b,u,D,v,f,o,g,E,F,G,_⟩:=e.unfold;have h:=(gU.tq (hp:= #[]) (μ:=⟨λ_=>none,λ_=>False⟩) f).2;have k:a.zero.length=b.cells.size:=by
  have:=(gU.tq (hp:= #[]) (μ:=⟨λ_=>none,λ_=>False⟩) f).1.1;omega
 refine⟨b,by simp[zeroValue,typeInfo,u,v],?_,λhp μ=>(gU.tq f).1,h,J,?_⟩
 ·intro hp μ;have d:=(gU.tq (hp:=hp) (μ:=μ) f).1;unfold Ty.ku;rw[AH o];cases n with
  |struct C=>cases b with
   |agg m=>exact fI.x7 d h
   |_=>simp[t8]at g
  |array I B=>cases b with
   |agg m=>exact fI.x7 d h
   |_=>simp[t8]at g
  |_=>
   have i:b.cells= #[b]:=by cases b<;>simp[t8]at g<;>rfl
   rw[i]at d;obtain⟨hl,_⟩:=d;simp at hl
   match l:a.zero,hl with
   | [c],_=>
    have d:=(gU.tq (hp:=hp) (μ:=μ) f).1;rw[i,l]at d;have⟨A,m,q,x,_⟩:=d.mt;simp at q;show fI hp μ c b;rw[q.1];exact x
 ·have p:=AH o;have w:(a.isAgg=true/\a.ku= .agg a.zero)\/(a.isAgg=false/\∃c,a.zero=[c]/\a.ku=c/\c.scalar=true):=by
   cases j:a.isAgg with
   |true=>left;exact⟨rfl,by unfold Ty.ku;rw[j]⟩
   |false=>
    right;refine⟨rfl,?_⟩;have i:b.cells= #[b]:=by
     rw[j]at p;cases n<;>simp[acz]at p<;>cases b<;>simp[t8]at g<;>rfl
    rw[i]at k;simp at k
    match l:a.zero,k with
    | [c],_=>exact⟨c,rfl,by unfold Ty.ku;rw[j,l];rfl,h c (by grind)⟩
  rcases w with⟨_,e⟩|⟨_,c,y,e,r⟩
  ·rw[e];exact⟨rfl,rfl,J⟩
  ·rw[e,y];refine⟨?_,?_,J⟩
   ·cases c<;>simp[T.scalar]at r<;>rfl
   ·cases c<;>simp[T.scalar]at r<;>rfl
structure jg(P:ai)(cx:Ctx):Prop where
 ty:∀t ty,cx.ty t=some ty->vm P t ty
def kA(d:af Obj)(g:Mu)(e:Nat)(c:Env)(f:af ao):Prop:=
 ∀a b,c.get e a=some b->fI d g b (f.getD a Go.undef)
def kA.ext{b c:af Obj}{f g:Mu}{d:Nat}{a:Env}{e:af ao}(h:kA b f d a e)(l:Ext b f c g):kA c g d a e:=
 λj k i=>(h j k i).ext l
def gY{k:Nat}{c:af Obj}{e:Mu}{n:H}{j:Nat}{g:Env}{f:Act}(q:St cx k c e n)(p:kA c e j g f.tmps){d:ah}{a:T}
 (b:fO cx j g d=some a):fI c e a (f.eval d):=by
 cases d with
 |tmp r=>exact p r a b
 |const s=>exact fI.zm b
 |global m=>
  have⟨l,o,i⟩:=dI.1 b;simp at i;subst i;exact q.zI m l o
 |func h=>
  have:T.func h []=a:=by grind [fO]
  subst this;exact .func h [] #[] rfl λu a t=>by grind
def wz{i:Nat}{c:af Obj}{e:Mu}{j:H}{h:Nat}{g:Env}{f:Act}(o:St cx i c e j)(n:kA c e h g f.tmps){b:List ah}{d:List T}
 (a:qz cx h g b=some d):gU c e d (b.map f.eval):=by
 induction b generalizing d with
 |nil=>simp_all[qz,gU.nil]
 |cons p b m=>
  unfold qz at a;rw[jK]at a;have⟨r,k,a⟩:=dI.1 a;have⟨q,l,a⟩:=dI.1 a;simp at a;subst a;exact gU.cons (gY o n k) (m l)
end
end
section
section inv
variable {hp:af Obj}{μ:Mu}{c:ao}
def fI.qH{b:Bool}(h:fI hp μ (.bool b) c):c= .bool b:=by cases h;rfl
def fI.jX{b:ak}{d:Int}(h:fI hp μ (.int b d) c):c= .int b d:=by cases h;rfl
def fI.lU{b:List Nat}(h:fI hp μ (.str b) c):c= .string (bytesOf b)/\∀d∈b,d<256:=by cases h;grind
def fI.qG(h:fI hp μ .kH c):c= .pointer none:=by cases h;rfl
def fI.qf{f d g i:Nat}(h:fI hp μ (.ptr f d g i) c):∃b a,c= .pointer (some a)/\μ f=some b/\d<=b.ep/\(d=b.ep->a=⟨b.jc,g*b.sz+i,none⟩):=by
 cases h with|ptr _ _ _ _ b a k l j=>grind
def fI.mf{f:List T}(h:fI hp μ (.jD f) c):∃d off b i fz,c= .pointer (some ⟨d,off,none⟩)/\¬nN μ d/\hp[d]? =some (.cells b i fz)/\
 off+f.length<=b.size/\(∀g∈f,vM g)/\∀(j:Nat) g,f[j]? =some g->fI hp μ g (b.getD (off+j) Go.undef):=by
 cases h with|jD _ d off b i fz m l n k hr=>exact⟨d,off,b,i,fz,rfl,m,l,n,k,hr⟩
def fI.tH{j g o f:Nat}{i:Bool}(h:fI hp μ (.arr j g o f i) c):∃b a d,c= .slice a f d/\μ j=some b/\g<=b.ep/\f<=d/\
 (g=b.ep->(i=true->d=f)/\(i=false->o+d=b.cap)/\(d≠0->a=some ⟨b.jc,o*b.sz,none⟩)):=by
 cases h with|arr _ _ _ _ _ b a d k l hl h=>grind
def fI.AJ(h:fI hp μ .gX c):∃a b,c= .slice a 0 b:=by cases h;simp
def fI.uA{b:Bool}(h:fI hp μ (.dK [] b) c):∃a,c= .slice a 0 0:=by cases h;simp
def fI.uB{j:T}{b:List T}{m:Bool}(h:fI hp μ (.dK (j::b) m) c):∃g off i k f l fz,c= .slice (some ⟨g,off,none⟩) (b.length+1) i/\¬nN μ g/\
 hp[g]? =some (.cells f l fz)/\b.length+1<=i/\(m=true->i=b.length+1)/\(∀d∈j::b,d.cells.length=k)/\off+(fF (j::b)).length<=f.size/\
 (∀d∈fF (j::b),vM d)/\∀(n:Nat) d,(fF (j::b))[n]? =some d->fI hp μ d (f.getD (off+n) Go.undef):=by
 cases h with|dK _ _ _ g off i k f l fz s r hl q u t p hr=>exact⟨g,off,i,k,f,l,fz,rfl,s,r,hl,q,u,t,p,hr⟩
def fI.sw{f:aj}{d:List T}(h:fI hp μ (.func f d) c):∃b,c= .func (.func f) #[] b/\gU hp μ d b.toList:=by
 cases h with|func _ _ b g hr=>exact⟨b,rfl,by grind,λj k i=>by simp_all⟩
def fI.uD(h:fI hp μ .kS c):c= .nilFunc:=by cases h;rfl
def fI.uC(h:fI hp μ .kR c):c= .nilIface:=by cases h;rfl
def fI.xw{b:ab}{f:T}(h:fI hp μ (.iface b f) c):∃d,c= .iface b d:=by cases h;simp
def fI.QV{d:Nat}(h:fI hp μ (.iter d) c):∃b a,c= .pointer (some a)/\μ d=some b/\(b.ep=0->a=⟨b.jc,0,none⟩):=by
 cases h with|iter _ b a f h=>grind
def fI.qg{d:List T}(h:fI hp μ (.agg d) c):∃b,c= .agg b/\gU hp μ d b.toList/\∀f∈d,f.scalar=true:=by
 cases h with|agg _ b i g hr=>exact⟨b,rfl,⟨by grind,λk f j=>by simp_all⟩,g⟩
def fI.AI{d:List T}(h:fI hp μ (.tuple d) c):∃b,c= .tuple b/\gU hp μ d b.toList:=by
 cases h with|tuple _ b f hr=>exact⟨b,rfl,by grind,λi j g=>by simp_all⟩
end inv
section
variable {P:ai}{cx:Ctx}{base:Nat}{w:World}{μ:Mu}{h:H}{mask:Nat}{e:Env}{a:Act}{o:Oper}
def yJ(μ g:Mu)(d f:Nat):Prop:=d<=f/\(∀b,g b≠none->μ b≠none\/(d<=b/\b<f))/\∀b,d<=b->b<f->g b≠none
def yJ.refl(μ:Mu)(b:Nat):yJ μ μ b b:=⟨aw _,λ_ h=> .inl h,λf g d=>absurd d J⟩
def yJ.trans{hp s t:af Obj}{μ i j:Mu}{k g l:Nat}(h:yJ μ i k g)(d:yJ i j g l)(x:Ext s i t j):yJ μ j k l:=by
 have v:=h.1;have z:=d.1;refine⟨aT h.1 d.1,λb f=>?_,λb f q=>?_⟩
 ·rcases d.2.1 b f with x|x
  ·rcases h.2.1 b x with y|y
   ·grind
   omega
  omega
 ·by_cases r:b<g
  ·have⟨m,n⟩:=Option.ne_none_iff_exists'.1 (h.2.2 b f r);have⟨u,p,_⟩:=x.mu b m n;rw[p];simp
  ·exact d.2.2 b J q
def jp(cx:Ctx)(base:Nat)(w:World)(μ:Mu)(i:Nat)(g:Result Next)(j:T)(f:H):Prop:=
 ∃c b d,(g= .ok (.value c) b\/(g= .ok .skip b/\c=Go.undef))/\fI b.heap d j c/\St cx base b.heap d f/\p7 w μ b d/\yJ μ d i f.size
def jp.pure{b:Result Next}{d:T}{c:ao}(g:St cx base w.heap μ h)(hr:b= .ok (.value c) w)(f:fI w.heap μ d c):jp cx base w μ h.size b d h:=
 ⟨c,w,μ,.inl hr,f,g,p7.refl _ _,yJ.refl _ _⟩
theorem fT{h d:H}{b:aa T}{f:T}:val h b=some (.val f d)↔b=some f/\d=h:=by
 unfold val;cases b with
 |none=>simp
 |some g=>simp;grind
def A7{h:H}{b:aa T}{f:aj}{d:List T}:val h b≠some (.call f d):=by
 unfold val;cases b<;>simp
theorem Br{d:ah}(g:St cx base w.heap μ h)(l:kA w.heap μ mask e a.tmps)(b:o.op= .move d\/o.op= .assign d){i:T}{f:H}
 (j:DS d cx mask e h=some (.val i f)):jp cx base w μ h.size ((execOp a.eval o).run P w) i f:=by
 obtain⟨k,rfl⟩:=fT.1 j;refine jp.pure g ?_ (gY g l k);rcases b with b|b<;>simp[execOp,b]
theorem IK{c n p:ah}(d:St cx base w.heap μ h)(i:kA w.heap μ mask e a.tmps)(l:o.op= .pick c n p){m:T}{j:H}
 (b:FV c n p cx mask e h=some (.val m j)):jp cx base w μ h.size ((execOp a.eval o).run P w) m j:=by
 obtain⟨f,q,b⟩:=dI.1 b;have r:=gY d i q;cases f<;>simp at b;rename_i f;have k:=r.qH;cases f with
 |false=>
  obtain⟨g,rfl⟩:=fT.1 b;exact jp.pure d (by simp[execOp,l,k,asBool]) (gY d i g)
 |true=>
  obtain⟨g,rfl⟩:=fT.1 b;exact jp.pure d (by simp[execOp,l,k,asBool]) (gY d i g)
theorem BJ{l:ah}(g:St cx base w.heap μ h)(p:kA w.heap μ mask e a.tmps)(i:o.op= .nilCheck l){k:T}{j:H}
 (f:rQ l cx mask e h=some (.val k j)):jp cx base w μ h.size ((execOp a.eval o).run P w) k j:=by
 have⟨m,n,f⟩:=dI.1 f;have d:=gY g p n;cases m<;>simp at f
 ·obtain⟨rfl,rfl⟩:=f;have⟨q,r,b,_⟩:=d.qf;exact jp.pure g (by simp[execOp,i,b]) (b▸d)
 ·obtain⟨rfl,rfl⟩:=f;have⟨t,off,s,v,fz,b,_⟩:=d.mf;exact jp.pure g (by simp[execOp,i,b]) (b▸d)
 ·obtain⟨rfl,rfl⟩:=f;have⟨u,b,_⟩:=d.sw;exact jp.pure g (by simp[execOp,i,b]) (b▸d)
theorem GR(jq:jg P cx){d:ab}{g:ah}(p:St cx base w.heap μ h)(B:kA w.heap μ mask e a.tmps)(x:o.op= .makeInterface d g){f:T}{k:H}
 (b:AP d g cx mask e h=some (.val f k)):jp cx base w μ h.size ((execOp a.eval o).run P w) f k:=by
 have⟨q,y,b⟩:=dI.1 b;have⟨F,j,G,C,s,D,E,l,_⟩:=(jq.ty d q y).unfold;have A:∀{i:H},(dV (fO cx mask e g) λa=>gJ a.iy (val h (some (.iface d a))))=some (.val f i)->(∀n,j≠ .interface n)->jp cx base w μ h.size ((execOp a.eval o).run P w) f i:=by
  intro i b v;have⟨r,t,b⟩:=dI.1 b;have⟨_,b⟩:=dQ.1 b;obtain⟨m,rfl⟩:=fT.1 b;simp at m;subst m;refine jp.pure (c:= .iface d (a.eval g)) p ?_ (.iface d r _ (gY p B t));simp only[execOp,x,Instr.makeInterface,Sem.run_bind,run_underlying s,Result.andThen_ok];cases j<;>first|rfl|exact absurd rfl (v _)
 cases z:q.u<;>rw[z]at b l<;>first|(exact A b (by rintro n rfl;simp[BH]at l))|grind
theorem IQ{j:Fn}{first g:af ah}(m:St cx base w.heap μ h)(s:kA w.heap μ mask e a.tmps)(q:o.op= .makeFunc j first g){f:T}{k:H}
 (b:DT j first g cx mask e h=some (.val f k)):jp cx base w μ h.size ((execOp a.eval o).run P w) f k:=by
 unfold DT at b;split at b
 ·rename_i i;split at b
  ·rename_i t;obtain⟨n,p,b⟩:=dI.1 b;obtain⟨d,rfl⟩:=fT.1 b;simp at d;subst d;have l:=wz m s p;refine jp.pure (c:= .func (.func i) #[] (g.map a.eval)) m ?_ (.func i n _ (by simpa using l.1.symm) λr f d=>?_)
   ·have:first= #[]:=by grind
    simp[execOp,q,Instr.makeFunc,this]
   ·have:=l.2 r f d;simp_all
  grind
 grind
theorem DU{j:ah}{f:Nat}(g:St cx base w.heap μ h)(t:kA w.heap μ mask e a.tmps)(q:o.op= .extract j f){i:T}{d:H}
 (b:uE j f cx mask e h=some (.val i d)):jp cx base w μ h.size ((execOp a.eval o).run P w) i d:=by
 have⟨k,m,b⟩:=dI.1 b;have n:=gY g t m;cases k<;>simp at b;obtain⟨s,rfl⟩:=fT.1 b;have⟨u,r,l⟩:=n.AI;have⟨c,v,p⟩:=l.get s;exact jp.pure g (by simp only[execOp,q,r,Instr.extract];simp_all) p
end
end
section
section
variable {P:ai}{cx:Ctx}{base:Nat}{w:World}{μ:Mu}{h:H}{mask:Nat}{e:Env}{a:Act}{o:Oper}{hp:af Obj}
def u5{i j g:T}{f:ak->Int->Int->aa T}(h:xF i j f=some g):∃b c d,i= .int b c/\j= .int b d/\f b c d=some g:=by
 unfold xF at h;split at h
 ·rename_i b c;split at h
  ·rename_i m d;obtain⟨k,l⟩:=dQ.1 h;rw[yu]at k;grind
  grind
 grind
def v8{j k i:T}{f:ak->Int->Nat->aa T}(h:At j k f=some i):∃c d g b,j= .int c d/\k= .int g (.ofNat b)/\f c d (min b c.bits)=some i:=by
 unfold At at h;split at h
 ·rename_i c d;split at h
  ·rename_i g b;cases b with
   |ofNat b=>grind
   |negSucc b=>grind
  grind
 grind
def Hi{j k i:T}{l:Int->Int->Bool}{m:List Nat->List Nat->Bool}(h:KU j k l m=some i):
 (∃b c d,j= .int b c/\k= .int b d/\i= .bool (l c d))\/(∃f g,j= .str f/\k= .str g/\i= .bool (m f g)):=by
 unfold KU at h;split at h
 ·rename_i b c;split at h
  ·rename_i q d;obtain⟨n,p⟩:=dQ.1 h;rw[yu]at n;subst n;rw[r9]at p;grind
  grind
 ·rename_i f;split at h
  ·rename_i g;rw[r9]at h;grind
  grind
 grind
def oQ(b:List Nat):(bytesOf b).toList=b.map UInt8.ofNat:=by
 rw[ByteArray.toList_eq];rfl
def jV(b:List Nat):(bytesOf b).size=b.length:=by simp[bytesOf,ByteArray.size]
theorem ofNat_inj{b c:Nat}(d:b<256)(f:c<256)(h:UInt8.ofNat b=UInt8.ofNat c):b=c:=by
 have:=bE UInt8.toNat h;rwa[jJ d,jJ f]at this
theorem EW{c b:List Nat}(g:∀d∈c,d<256)(ht:∀d∈b,d<256)(h:c.map UInt8.ofNat=b.map UInt8.ofNat):c=b:=by
 induction c generalizing b with
 |nil=>simp_all
 |cons d c j=>cases b with
  |nil=>grind
  |cons k b=>
   simp only[aP,aL]at h;rw[ofNat_inj (g d dy) (ht k dy) h.1,j (λf i=>g f (by grind)) (λf i=>ht f (by grind)) h.2]
def zL{b c:List Nat}(f:∀d∈b,d<256)(ht:∀d∈c,d<256):((bytesOf b).toList==(bytesOf c).toList)=VF b c:=by
 rw[G6,oQ,oQ,bm,beq_iff_eq,beq_iff_eq]
 grind [EW]
def DB(b:Nat)(d:List Nat)(c:Nat)(f:List Nat):Sk (b::d) (c::f)=(decide (b<c)||(b==c&&Sk d f)):=by
 show @Bool.rec (λ_=>Bool) (@Bool.rec (λ_=>Bool) false (Sk d f) (Nat.beq b c)) true (Nat.blt b c)=_;have g:Nat.blt b c=decide (b<c):=by rw[bm,aJ];simp
 have i:Nat.beq b c=(b==c):=by rw[bm,Nat.beq_eq];simp
 rw[g,i];cases decide (b<c)<;>cases (b==c)<;>rfl
def zt{d c:List Nat}(i:∀b∈d,b<256)(ht:∀b∈c,b<256):Op.bytesLess (bytesOf d).toList (bytesOf c).toList=Sk d c:=by
 rw[oQ,oQ];induction d generalizing c with
 |nil=>cases c<;>rfl
 |cons b d p=>cases c with
  |nil=>rfl
  |cons f c=>
   have l:=i b dy;have m:=ht f dy;rw[DB];simp only[aP,Op.bytesLess];rw[p (λg n=>i g (by grind)) (λg n=>ht g (by grind))];have j:(decide (UInt8.ofNat b<UInt8.ofNat f))=decide (b<f):=by
    rw[bm,decide_eq_true_iff,decide_eq_true_iff,UInt8.lt_iff_toNat_lt,jJ l,jJ m]
   have k:(UInt8.ofNat b==UInt8.ofNat f)=(b==f):=by
    rw[bm,beq_iff_eq,beq_iff_eq]
    grind [ofNat_inj]
   rw[j,k]
def FN(c b:List Nat):(Sk c b||VF c b)= !Sk b c:=by
 induction c generalizing b with
 |nil=>cases b<;>rfl
 |cons f c d=>cases b with
  |nil=>rfl
  |cons g b=>
   rw[DB,DB,G6,List.cons_beq_cons,<-G6];have:=d b
   grind
def Eu(b c:List Nat):bytesOf (b++c)=bytesOf b++bytesOf c:=by
 apply ByteArray.ext;simp[bytesOf,ByteArray.data_append]
def Jg{p:BinOp}{i q l:T}{y A:ao}(x:ab)(S:p≠ .eql)(V:p≠ .neq)(u:fI hp μ i y)(v:fI hp μ q A)(b:binop p i q=some l):
 ∃j,(binOp p x y A).run P w= .ok j w/\fI hp μ l j:=by
 have ge:∀{t:ak->Int->Int->aa T},xF i q t=some l->
  (∀k d c,t k d c=some l->∃j,(binOp p x (.int k d) (.int k c)).run P w= .ok j w/\fI hp μ l j)->∃j,(binOp p x y A).run P w= .ok j w/\fI hp μ l j:=by
  intro t I R;obtain⟨k,d,c,rfl,rfl,m⟩:=u5 I;rw[u.jX,v.jX];exact R k d c m
 have z:∀{t:Int->Int->Bool} {G:List Nat->List Nat->Bool},KU i q t G=some l->
  (∀k d c,(binOp p x (.int k d) (.int k c)).run P w= .ok (.bool (t d c)) w)->
  (∀f g,(∀i∈f,i<256)->(∀i∈g,i<256)->(binOp p x (.string (bytesOf f)) (.string (bytesOf g))).run P w= .ok (.bool (G f g)) w)->∃j,(binOp p x y A).run P w= .ok j w/\fI hp μ l j:=by
  intro t G I B m;rcases Hi I with⟨k,d,c,rfl,rfl,rfl⟩|⟨f,g,rfl,rfl,rfl⟩
  ·rw[u.jX,v.jX];exact⟨_,B k d c,.bool _⟩
  ·have⟨E,C⟩:=u.lU;have⟨F,D⟩:=v.lU;rw[E,F];exact⟨_,m f g C D,.bool _⟩
 cases p with
 |eql=>exact absurd rfl S
 |neq=>exact absurd rfl V
 |add=>
  have b:Uu i q=some l:=b;by_cases M:∃f,i= .str f
  ·obtain⟨f,rfl⟩:=M;by_cases N:∃g,q= .str g
   ·obtain⟨g,rfl⟩:=N;have b:(dV (Fb f g) λL=>gJ (Nat.ble (kY L) 4294967296) (some (T.str L)))=some l:=b;have⟨L,B,b⟩:=dI.1 b;have⟨hl,b⟩:=dQ.1 b;simp at B b;subst B;subst b;have hl:=bh hl;rw[jW,bj]at hl;have⟨E,C⟩:=u.lU;have⟨F,D⟩:=v.lU;rw[E,F];refine⟨.string (bytesOf (f++g)),?_,.str _ (by intro j n;rcases List.mem_append.1 n with k|k;exact C j k;exact D j k)⟩;rw[Eu];have Q:¬(((bytesOf f).size+(bytesOf g).size:Nat):Int)>IntKind.i64.max:=by
     rw[jV,jV];have:IntKind.i64.max=9223372036854775807:=dB;rw[this];omega
    simp only[binOp,Op.stringOp,Q,bw,Sem.run_pure]
   ·exfalso;unfold Uu at b;cases q<;>first|(simp at b;done)|exact N ⟨_,rfl⟩
  ·have b:xF i q (λk a O=>qr k (a+O))=some l:=by
    unfold Uu at b;cases i<;>first|exact b|exact absurd ⟨_,rfl⟩ M
   refine ge b λk d c h=>?_;rw[yT]at h;simp at h;subst h;exact⟨_,by simp[binOp,Op.intArith],.int _ _⟩
 |sub=>
  refine ge b λk d c h=>?_;rw[yT]at h;simp at h;subst h;exact⟨_,by simp[binOp,Op.intArith],.int _ _⟩
 |mul=>
  refine ge b λk d c h=>?_;rw[yT]at h;simp at h;subst h;exact⟨_,by simp[binOp,Op.intArith],.int _ _⟩
 |quo=>
  refine ge b λk d c h=>?_;cases n:Sl c 0 with
  |true=>rw[n]at h;simp at h
  |false=>
   rw[n]at h;have K:¬c=0:=by rw[yA]at n;simpa using n
   simp only[yT]at h;simp at h;subst h;exact⟨_,by simp[binOp,Op.intDiv,K],.int _ _⟩
 |rem=>
  refine ge b λk d c h=>?_;cases n:Sl c 0 with
  |true=>rw[n]at h;grind
  |false=>
   rw[n]at h;have K:¬c=0:=by rw[yA]at n;grind
   simp only[oY]at h;simp at h;subst h;exact⟨_,by simp[binOp,Op.intDiv,K],.int _ _⟩
 |and=>
  refine ge b λk d c h=>?_;rw[oY]at h;simp only[au]at h;subst h;exact⟨_,by simp[binOp,Op.intBits],.int _ _⟩
 |or=>
  refine ge b λk d c h=>?_;rw[oY]at h;simp only[au]at h;subst h;exact⟨_,by simp[binOp,Op.intBits],.int _ _⟩
 |xor=>
  refine ge b λk d c h=>?_;rw[oY]at h;simp only[au]at h;subst h;exact⟨_,by simp[binOp,Op.intBits],.int _ _⟩
 |shl=>
  have b:At i q (λk a c=>yi k (k.wrap (a*2^c)))=some l:=b;obtain⟨k,d,W,c,rfl,rfl,m⟩:=v8 b;rw[u.jX,v.jX];rw[oY]at m;simp only[au]at m;subst m;have U:¬((c:Nat):Int)<0:=J;exact⟨_,by rfl,.int _ _⟩
 |shr=>
  have b:At i q (λk a c=>yi k (a.fdiv (2^c)))=some l:=b;obtain⟨k,d,W,c,rfl,rfl,m⟩:=v8 b;rw[u.jX,v.jX];rw[oY]at m;simp only[au]at m;subst m;have U:¬((c:Nat):Int)<0:=J;exact⟨_,by rfl,.int _ _⟩
 |lss=>exact z b (λk d c=>by simp[binOp,Op.intCmp,yq]) (λf g r s=>by simp only[binOp,Op.stringOp,zt r s,Sem.run_pure])
 |leq=>exact z b (λk d c=>by simp only[binOp,Op.intCmp,yq,ne_eq,not_true,bw,Sem.run_pure];congr 2;rw[bm];simp) (λf g r s=>by simp only[binOp,Op.stringOp,zt r s,zL r s,Sem.run_pure,FN])
 |gtr=>exact z b (λk d c=>by simp[binOp,Op.intCmp,yq]) (λf g r s=>by simp only[binOp,Op.stringOp,zt r s,zL r s,Sem.run_pure,FN,Bool.not_not])
 |geq=>exact z b (λk d c=>by simp only[binOp,Op.intCmp,yq,ne_eq,not_true,bw,Sem.run_pure];congr 2;rw[bm];simp) (λf g r s=>by simp only[binOp,Op.stringOp,zt r s,Sem.run_pure])
 |_=>grind [binop]
def E3{b:BinOp}{i:ab}{j k:ah}{c d:ao}(f:b≠ .eql)(g:b≠ .neq):(eqGuard b i j k c d).run P w= .ok () w:=by
 cases b<;>first|(exact absurd rfl f)|(exact absurd rfl g)|(simp[eqGuard])
def KD{c:BinOp}{k t:ab}{m n:ah}(g:c≠ .eql)(i:c≠ .neq)(d:St cx base w.heap μ h)(j:kA w.heap μ mask e a.tmps)(p:o.op= .binOp c k m n t){l:T}{f:H}
 (b:NR c m n cx mask e h=some (.val l f)):jp cx base w μ h.size ((execOp a.eval o).run P w) l f:=by
 have⟨u,hp,b⟩:=dI.1 b;have⟨v,q,b⟩:=dI.1 b;obtain⟨r,rfl⟩:=fT.1 b;have⟨x,s,hr⟩:=Jg (P:=P) (w:=w) k g i (gY d j hp) (gY d j q) r;refine jp.pure d ?_ hr;simp only[execOp,p,Sem.run_bind,E3 g i,Result.andThen_ok,s,Sem.run_pure]
theorem NO{d:UnOp}{r:ab}{m:ah}(f:St cx base w.heap μ h)(q:kA w.heap μ mask e a.tmps)(j:o.op= .unOp d r m){l:T}{g:H}
 (c:hUn d m cx mask e h=some (.val l g)):jp cx base w μ h.size ((execOp a.eval o).run P w) l g:=by
 obtain⟨k,hp,c⟩:=dI.1 c;obtain⟨b,rfl⟩:=fT.1 c;have i:=gY f q hp;cases d with
 |neg=>
  cases k<;>simp[unop]at b;subst b;exact jp.pure f (by simp[execOp,j,i.jX,Op.unary,Op.intArith]) (.int _ _)
 |not=>
  cases k<;>simp[unop]at b;rename_i n;have p:=i.qH;cases n<;>simp at b<;>subst b<;>exact jp.pure f (by simp[execOp,j,p,Op.unary]) (.bool _)
 |_=>simp[unop]at b
end
end
section
section
variable {P:ai}{cx:Ctx}{base:Nat}{w:World}{μ:Mu}{h:H}{mask:Nat}{e:Env}{a:Act}{o:Oper}{hp:af Obj}
def kM{c:ab}{d:Ty}(h:vm P c d):∃b,P.underlying c=some b/\BH P b=some d.u:=by
 have⟨i,b,j,_,f,_,_,g,_⟩:=h.unfold
 grind
def wY{b:TypeDesc}{c:ak}(h:BH P b=some (.int c)):b= .int c:=by
 cases b<;>simp only[BH]at h<;>first|(split at h<;>simp at h;done)|(simp at h;done)|grind
def Ox{b:TypeDesc}(h:BH P b=some .bool):b= .bool:=by
 cases b<;>simp only[BH]at h<;>first|rfl|(split at h<;>simp at h;done)|(simp at h;done)
theorem sW{b:TypeDesc}(h:BH P b=some .str):b= .string:=by
 cases b<;>simp only[BH]at h<;>first|rfl|(split at h<;>simp at h;done)|(simp at h;done)
def lV{b:TypeDesc}{e:ab}(h:BH P b=some (.slice e)):b= .slice e:=by
 cases b<;>simp only[BH]at h<;>first|(split at h<;>simp at h;done)|(simp at h;done)|grind
def rM{b:TypeDesc}{c:Nat}{e:ab}(h:BH P b=some (.array c e)):b= .array c e:=by
 cases b<;>simp only[BH]at h<;>first|(split at h<;>simp at h;done)|(simp at h;done)|grind
def Sw{b:TypeDesc}{e:ab}(h:BH P b=some (.ptr e)):b= .pointer e:=by
 cases b<;>simp only[BH]at h<;>first|(split at h<;>simp at h;done)|(simp at h;done)|grind
def Ow{b:TypeDesc}(h:BH P b=some .func):∃c d f,b= .func c d f:=by
 cases b<;>simp only[BH]at h<;>first|(split at h<;>simp at h;done)|(simp at h;done)|simp
def MN{b:TypeDesc}(h:BH P b=some .iface):∃c,b= .interface c:=by
 cases b<;>simp only[BH]at h<;>first|(split at h<;>simp at h;done)|(simp at h;done)|simp
def rY{d:TypeDesc}{g:List (Nat×ab)}(h:BH P d=some (.struct g)):
 ∃c,d= .struct c/\g=c.toList.map (λb=>(b.offset,b.type))/\∀b∈c.toList,∃f,P.info? b.type=some f/\f.size≠0:=by
 cases d<;>simp only[BH]at h<;>try (simp at h;done)
 rename_i c;split at h
 ·rename_i j;simp only[au,U.struct.injEq]at h;refine⟨c,rfl,h.symm,λb k=>?_⟩;have:=List.all_eq_true.1 j b k;cases i:P.info? b.type with
  |none=>rw[i]at this;grind
  |some f=>rw[i]at this;grind
 grind
def bytes_beq{b c:List Nat}(f:∀d∈b,d<256)(ht:∀d∈c,d<256):(bytesOf b==bytesOf c)=VF b c:=by
 rw[beq_toListBytes,zL f ht]
def u6{l:ab}{p:TypeDesc}{t:U}{j g:T}{n s:ao}{m:Bool}(d:P.underlying l=some p)(k:BH P p=some t)(i:fI hp μ j n)(f:fI hp μ g s)
 (b:sI t j g=some m) (F:Nat):(Op.equalIn (F+1) l n s).run P w= .ok m w:=by
 unfold sI at b;split at b
 ·have:=wY k;subst this;cases j<;>simp at b;cases g<;>simp at b;obtain⟨q,r⟩:=dQ.1 b;rw[yu]at q;subst q;simp at r;subst r;rw[i.jX,f.jX];simp[Op.equalIn,run_underlying d,yA]
 ·have:=Ox k;subst this;cases j<;>simp at b;cases g<;>simp at b;rename_i G I;rw[i.qH,f.qH];cases G<;>cases I<;>simp at b<;>subst b<;>simp[Op.equalIn,run_underlying d]
 ·have:=sW k;subst this;cases j<;>simp at b;cases g<;>simp at b;subst b;obtain⟨D,y⟩:=i.lU;obtain⟨E,z⟩:=f.lU;rw[D,E];simp[Op.equalIn,run_underlying d,bytes_beq y z]
 ·have:=Sw k;subst this;cases j<;>simp at b
  ·rw[i.qG];cases g<;>simp at b<;>subst b
   ·rw[f.qG];simp[Op.equalIn,run_underlying d]
   ·obtain⟨u,v,c,_⟩:=f.qf;rw[c];simp[Op.equalIn,run_underlying d]
   ·obtain⟨A,off,x,l,fz,c,_⟩:=f.mf;rw[c];simp[Op.equalIn,run_underlying d]
  ·obtain⟨u,v,c,_⟩:=i.qf;cases g<;>simp at b;subst b;rw[f.qG,c];simp[Op.equalIn,run_underlying d]
  ·obtain⟨A,off,x,l,fz,c,_⟩:=i.mf;cases g<;>simp at b;subst b;rw[f.qG,c];simp[Op.equalIn,run_underlying d]
 ·obtain⟨L,M,N,rfl⟩:=Ow k;cases j<;>simp at b
  ·obtain⟨B,c,_⟩:=i.sw;cases g<;>simp at b;subst b;rw[f.uD,c];simp[Op.equalIn,run_underlying d]
  ·rw[i.uD];cases g<;>simp at b<;>subst b
   ·obtain⟨B,c,_⟩:=f.sw;rw[c];simp[Op.equalIn,run_underlying d]
   ·rw[f.uD];simp[Op.equalIn,run_underlying d]
 ·obtain⟨K,rfl⟩:=MN k;cases j<;>simp at b
  ·rw[i.uC];cases g<;>simp at b<;>subst b
   ·rw[f.uC];simp[Op.equalIn,run_underlying d]
   ·obtain⟨C,c⟩:=f.xw;rw[c];simp[Op.equalIn,run_underlying d]
  ·obtain⟨C,c⟩:=i.xw;cases g<;>simp at b;subst b;rw[f.uC,c];simp[Op.equalIn,run_underlying d]
 grind
def E4(b:Nat×ab)(d:List (Nat×ab))(c:Nat)(j:T)(g:List T)(k:T)(f:List T):eqFields cx (b::d) c (j::g) (k::f)=
 gJ (Nat.beq b.1 c) (dV (cx.ty b.2) λi=>gJ i.u.plain (dV (sI i.u j k) λl=> @Bool.rec (λ_=>aa Bool) (some false) (eqFields cx d (c+1) g f) l)):=rfl
def run_part_plain{g:ab}{b:Ty}(h:vm P g b)(hp:b.u.plain=true){d:af ao}{f:Nat}{c:ao}(j:d[f]? =some c):(part g d f).run P w= .ok c w:=by
 have i:b.isAgg=false:=by
  unfold Ty.isAgg;cases k:b.u<;>simp[k,U.plain]at hp<;>rfl
 simp[part,h.ug,i,j]
def Eh(jq:jg P cx)(t:Nat):∀(m:List Field) (c:Nat) (g i:List T) (j l:af ao) (f:Bool),
 gU hp μ g (j.toList.drop c)->gU hp μ i (l.toList.drop c)->(∀d∈m,d.name≠ "_")->eqFields cx (m.map λd=>(d.offset,d.type)) c g i=some f->
 (Op.eqFields (t+1) j l m).run P w= .ok f w:=by
 intro m;induction m with
 |nil=>
  intro c g i j l f _ _ _ b;have:f=true:=by simpa[eqFields]using b.symm
  subst this;simp[Op.eqFields]
 |cons d m R=>
  intro c g i j l f r s q b;rw[aP]at b;cases g with
  |nil=>simp[eqFields]at b
  |cons U g=>cases i with
   |nil=>simp[eqFields]at b
   |cons V i=>
    rw[E4]at b;have⟨z,b⟩:=dQ.1 b;have⟨X,A,b⟩:=dI.1 b;have⟨p,b⟩:=dQ.1 b;have⟨S,B,b⟩:=dI.1 b;have M:d.offset=c:=aG z;have⟨u,C,O⟩:=r.get (k:=0) (v:=U) dy;have⟨x,E,Q⟩:=s.get (k:=0) (v:=V) dy;have D:j[c]? =some u:=by simpa using C
    have G:l[c]? =some x:=by simpa using E
    have n:=jq.ty _ _ A;have⟨W,F,N⟩:=kM n;have I:=u6 (P:=P) (w:=w) F N O Q B t;have L:d.name≠ "_" :=q d dy;simp only[Op.eqFields,L,ne_eq,not_false_eq_true,bA,Sem.run_bind,M,run_part_plain n p D,run_part_plain n p G,Result.andThen_ok,I];cases S with
    |false=>
     have:f=false:=by simpa using b.symm
     subst this;simp
    |true=>
     simp only[Bool.not_true,cr,bw];refine R (c+1) g i j l f ?_ ?_ (λy K=>q y (by simp[K])) b
     ·have:=r.drop 1;simpa[cS,Nat.add_comm]using this
     ·have:=s.drop 1;simpa[cS,Nat.add_comm]using this
def E5{e:ab}{l:Ty}(m:vm P e l)(n:l.u.plain=true)(r:Nat):∀(g d:List T) (f:Nat) (i j:af ao) (c:Bool),
 gU hp μ g (i.toList.drop f)->gU hp μ d (j.toList.drop f)->zO l.u g d=some c->(Op.eqItems (r+1) e 1 i j (List.range' f g.length)).run P w= .ok c w:=by
 intro g;induction g with
 |nil=>
  intro d f i j c _ _ b;have:c=true:=by
   cases d with
   |nil=>have b:some true=some c:=b;simpa using b.symm
   |cons=>simp[zO]at b
  subst this;simp[Op.eqItems]
 |cons s g L=>
  intro d f i j c p q b;cases d with
  |nil=>simp[zO]at b
  |cons t d=>
   have b:(dV (sI l.u s t) λN=> @Bool.rec (λ_=>aa Bool) (some false) (zO l.u g d) N)=some c:=b;have⟨M,z,b⟩:=dI.1 b;have⟨x,A,I⟩:=p.get (k:=0) (v:=s) dy;have⟨y,C,K⟩:=q.get (k:=0) (v:=t) dy;have B:i[f]? =some x:=by simpa using A
   have E:j[f]? =some y:=by simpa using C
   have⟨O,D,G⟩:=kM m;have F:=u6 (P:=P) (w:=w) D G I K z r;rw[aU,List.range'_succ];simp only[Op.eqItems,Sem.run_bind,Nat.mul_one,run_part_plain m n B,run_part_plain m n E,Result.andThen_ok,F];cases M with
   |false=>
    have:c=false:=by simpa using b.symm
    subst this;simp
   |true=>
    simp only[Bool.not_true,cr,bw];refine L d (f+1) i j c ?_ ?_ b
    ·have:=p.drop 1;simpa[cS,Nat.add_comm]using this
    ·have:=q.drop 1;simpa[cS,Nat.add_comm]using this
theorem IX{f:BinOp}{g:ab}{b c:ah}(d:(Region.isConst b||Region.isConst c)=true):(eqGuard f g b c .nilIface .nilIface).run P w= .ok () w:=by
 unfold eqGuard;cases b<;>cases c<;>simp[Region.isConst]at d<;>simp
def FW(jq:jg P cx){neg:Bool}{E:BinOp}{t u:ab}{D y:ah}(f:E=(if neg then BinOp.neq else BinOp.eql))(s:St cx base w.heap μ h)(r:kA w.heap μ mask e a.tmps)
 (cb:o.op= .binOp E t D y u) {v:T} {av:H} (B:Xp neg t D y cx mask e h=some (.val v av)):jp cx base w μ h.size ((execOp a.eval o).run P w) v av:=by
 obtain⟨eh,c7,B⟩:=dI.1 B;obtain⟨F,hp,B⟩:=dI.1 B;obtain⟨x,Q,B⟩:=dI.1 B;obtain⟨a7,B⟩:=dQ.1 B;obtain⟨A,b,B⟩:=dI.1 B;obtain⟨bi,rfl⟩:=fT.1 B;have q:=gY s r hp;have j:=gY s r Q;have c6:=jq.ty _ _ c7;have b7:v= .bool (if neg then !A else A):=by
  rw[r9]at bi;cases neg<;>simpa using bi.symm
 subst b7;have bn:(eqGuard E t D y (a.eval D) (a.eval y)).run P w= .ok () w/\(binOp E t (a.eval D) (a.eval y)).run P w= .ok (.bool (if neg then !A else A)) w:=by
  obtain⟨i,d,z,_,O,_,_,L,_,_,_,_,aA⟩:=c6.unfold;unfold Oo at b;split at b
  ·rename_i ds ae;rw[ae]at L;obtain⟨an,rfl,b8,_⟩:=rY L;cases F<;>simp at b;cases x<;>simp at b;obtain⟨Y,b⟩:=dQ.1 b;obtain⟨N,K,al⟩:=aA Y;obtain⟨p,g,U,_⟩:=q.qg;obtain⟨C,c,bH,_⟩:=j.qg;rw[g,c];refine⟨run_eqGuard_agg w E t D y p C K,?_⟩;have aN:P.fieldsOf t=an:=by simp[Program.fieldsOf,O]
   have m:(Op.equalIn 10000 t (.agg p) (.agg C)).run P w= .ok A w:=by
    rw[run_equalIn_struct w 9999 t p C (by rw[aN];exact O) N,aN];rw[b8]at b;refine Eh jq 9998 an.toList 0 _ _ p C A (by simpa using U) (by grind) ?_ b;intro V b6;have:=List.all_eq_true.1 al V b6
    grind
   cases neg with
   |false=>simp at f;subst f;rw[run_eql_struct,m];rfl
   |true=>simp at f;subst f;rw[run_neq_struct,m];rfl
  ·rename_i n e ae;rw[ae]at L;have bT:=rM L;subst bT;cases F<;>simp at b;cases x<;>simp at b;obtain⟨Y,b⟩:=dQ.1 b;obtain⟨ef,c4,b⟩:=dI.1 b;obtain⟨cL,b⟩:=dQ.1 b;obtain⟨c1,b⟩:=dQ.1 b;obtain⟨ca,b⟩:=dQ.1 b;obtain⟨N,K,al⟩:=aA Y;obtain⟨p,g,U,_⟩:=q.qg;obtain⟨C,c,bH,_⟩:=j.qg;rw[g,c];refine⟨run_eqGuard_agg w E t D y p C K,?_⟩;have a8:=jq.ty _ _ c4;have m:(Op.equalIn 10000 t (.agg p) (.agg C)).run P w= .ok A w:=by
    obtain⟨ec,dn,eo,a6,_,_,_,_,_,_,eb,_⟩:=a8.unfold;rw[run_equalIn_array w 9999 p C O a6,List.range_eq_range'];have cp:P.cellsOf e=1:=by
     have:=aG c1;simp only[Program.cellsOf,a6,cT,Option.getD_some];omega
    have b9:=aG ca;rw[cp,<-b9];exact E5 a8 cL 9998 _ _ 0 p C A (by simpa using U) (by grind) b
   cases neg with
   |false=>simp at f;subst f;rw[run_eql_struct,m];rfl
   |true=>simp at f;subst f;rw[run_neq_struct,m];rfl
  ·have m:=u6 (P:=P) (w:=w) O L q j b 9999;have aX:∀k l:ao,(k≠ .nilIface\/l≠ .nilIface)->((∀dk,k≠ .agg dk)\/∀dm,l≠ .agg dm)->(eqGuard E t D y k l).run P w= .ok () w:=by
    intro k l ap dv;cases neg with
    |false=>
     simp at f;subst f;cases k<;>cases l<;>first|(simp[eqGuard];done)|(simp at ap;done)|grind
    |true=>
     simp at f;subst f;cases k<;>cases l<;>first|(simp[eqGuard];done)|(simp at ap;done)|grind
   have ea:∀k l:ao,(∀R c9 S dd,(k,l)≠(.int R c9,.int S dd))->(∀de di,(k,l)≠(.string de,.string di))->(∀W G X I,(k,l)≠(.float W G,.float X I))->(∀W G N X I K,(k,l)≠(.complex W G N,.complex X I K))->
    (Op.equalIn 10000 t k l).run P w= .ok A w->(binOp E t k l).run P w= .ok (.bool (if neg then !A else A)) w:=by
    intro k l bs bu bB bC aE;cases neg with
    |false=>
     simp at f;subst f;cases k<;>cases l<;>first|(exact absurd rfl (bs _ _ _ _))|(exact absurd rfl (bu _ _))|(exact absurd rfl (bB _ _ _ _))|(exact absurd rfl (bC _ _ _ _ _ _))|(simp[binOp,Op.equal,Op.maxDepth,aE])
    |true=>
     simp at f;subst f;cases k<;>cases l<;>first|(exact absurd rfl (bs _ _ _ _))|(exact absurd rfl (bu _ _))|(exact absurd rfl (bB _ _ _ _))|(exact absurd rfl (bC _ _ _ _ _ _))|(simp[binOp,Op.equal,Op.maxDepth,aE])
   unfold sI at b;split at b
   ·cases F<;>simp at b;cases x<;>simp at b;obtain⟨R,S⟩:=dQ.1 b;rw[yu]at R;subst R;simp at S;subst S;rw[q.jX,j.jX];refine⟨aX _ _ (.inl dy) (.inl dy),?_⟩;cases neg<;>simp at f<;>subst f<;>simp[binOp,Op.intCmp,yA,bne]
   ·cases F<;>simp at b;cases x<;>simp at b;rw[q.qH,j.qH]at m|-
    grind
   ·cases F<;>simp at b;cases x<;>simp at b;subst b;obtain⟨g,G⟩:=q.lU;obtain⟨c,I⟩:=j.lU;rw[g,c];refine⟨aX _ _ (.inl dy) (.inl dy),?_⟩;cases neg<;>simp at f<;>subst f<;>simp[binOp,Op.stringOp,zL G I]
   ·cases F<;>simp at b
    ·have g:=q.qG;rw[g]at m|-;have c:∃M,a.eval y= .pointer M:=by
      cases x<;>simp at b
      ·exact⟨_,j.qG⟩
      ·obtain⟨_,M,Q,_⟩:=j.qf;grind
      ·obtain⟨_,_,_,_,_,Q,_⟩:=j.mf;grind
     obtain⟨M,c⟩:=c;rw[c]at m|-
     grind
    ·obtain⟨_,M,g,_⟩:=q.qf;cases x<;>simp at b;have c:=j.qG;rw[g,c]at m|-
     grind
    ·obtain⟨_,_,_,_,_,g,_⟩:=q.mf;cases x<;>simp at b;have c:=j.qG;rw[g,c]at m|-
     grind
   ·cases F<;>simp at b
    ·obtain⟨p,g,_⟩:=q.sw;cases x<;>simp at b;have c:=j.uD;rw[g,c]at m|-
     grind
    ·have g:=q.uD;have c:(∃V bN p,a.eval y= .func V bN p)\/a.eval y= .nilFunc:=by
      cases x<;>simp at b
      ·obtain⟨p,Q,_⟩:=j.sw;grind
      ·exact .inr j.uD
     grind
   ·cases F<;>simp at b
    ·have g:=q.uC;cases x<;>simp at b
     ·have c:=j.uC;rw[g,c]at m|-;have a7:(Region.isConst D||Region.isConst y)=true:=a7
      grind [IX]
     ·obtain⟨bS,c⟩:=j.xw;rw[g,c]at m|-
      grind
    ·obtain⟨bS,g⟩:=q.xw;cases x<;>simp at b;have c:=j.uC;rw[g,c]at m|-
     grind
   grind
 refine jp.pure s ?_ (.bool _);simp only[execOp,cb,Sem.run_bind,bn.1,Result.andThen_ok,bn.2,Sem.run_pure]
end
end
section
section
variable {P:ai}{cx:Ctx}{base:Nat}{w:World}{μ:Mu}{h:H}{mask:Nat}{e:Env}{a:Act}{o:Oper}{hp:af Obj}
def kL(b off c:Nat):(⟨b,off,none⟩:Addr).add c=⟨b,off+c,none⟩:=by
 unfold Addr.add;split<;>simp_all
theorem mg(c:T)(b:List T):fF (c::b)=c.cells++fF b:=by simp[fF]
def nl(a b:List T):fF (a++b)=fF a++fF b:=by simp[fF]
def iu{sz:Nat}{b:List T}(d:∀c∈b,c.cells.length=sz):(fF b).length=b.length*sz:=by
 induction b with
 |nil=>simp[fF]
 |cons g b f=>
  rw[mg,bj,f (λc i=>d c (by grind)),d g dy,aU,bW];omega
def pU{d:Nat}{b:List T}(g:∀f∈b,f.cells.length=d)(c:Nat):(fF b).drop (c*d)=fF (b.drop c):=by
 induction c generalizing b with
 |zero=>simp
 |succ c k=>cases b with
  |nil=>simp[fF]
  |cons i b=>
   have j:=g i dy;rw[mg,bW,Nat.add_comm,<-cS];have:(i.cells++fF b).drop d=fF b:=by rw[<-j];simp
   rw[this,k (λf l=>g f (by grind))];rfl
def rU{g:Nat}{b:List T}(f:∀d∈b,d.cells.length=g)(c:Nat):(fF b).take (c*g)=fF (b.take c):=by
 induction c generalizing b with
 |zero=>simp[fF]
 |succ c j=>cases b with
  |nil=>grind
  |cons k b=>
   have i:=f k dy;rw[mg,List.take_succ_cons,mg,<-j (λd l=>f d (by grind)),bW,List.take_append,i]
   grind
structure tN(hp:af Obj)(μ:Mu)(jc off:Nat)(cs:List T):Prop where
 row:∃arr t fz,hp[jc]? =some (.cells arr t fz)/\off+cs.length<=arr.size/\∀(k:Nat) v,cs[k]? =some v->fI hp μ v (arr.getD (off+k) Go.undef)
 scalar:∀v∈cs,v.scalar=true
def tN.cell{g off:Nat}{c:List T}(n:tN w.heap μ g off c){b:Nat}{d:T}(m:c[b]? =some d):∃i,w.cell? ⟨g,off+b,none⟩=some i/\fI w.heap μ d i:=by
 have⟨f,r,fz,j,p,k⟩:=n.row;have q:b<c.length:=by
  grind
 have l:off+b<f.size:=J;refine⟨f[off+b],by simp[World.cell?,j,l],?_⟩;have:=k b d m;simp_all
def tN.take{d off:Nat}{f:List T}(g:tN hp μ d off f)(m:Nat):tN hp μ d off (f.take m):=by
 have⟨i,n,fz,j,p,k⟩:=g.row;refine⟨⟨i,n,fz,j,by grind,λl c b=>k l c ?_⟩,λc b=>g.scalar c (bF b)⟩;rw[cu]at b
 grind
def tN.drop{g off:Nat}{d:List T}(i:tN hp μ g off d)(c:Nat)(q:c<=d.length):tN hp μ g (off+c) (d.drop c):=by
 have⟨j,n,fz,k,p,l⟩:=i.row;refine⟨⟨j,n,fz,k,by grind,λm f b=>?_⟩,λf b=>i.scalar f (bG b)⟩;rw[bL]at b;have:=l (c+m) f b;rwa[<-cJ]at this
def tN.run_loadCells{d off:Nat}{b:List T}(n:tN w.heap μ d off b):∃i:List ao,(loadCells ⟨d,off,none⟩ b.length).run P w= .ok i.toArray w/\gU w.heap μ b i:=by
 have⟨c,t,fz,k,p,l⟩:=n.row;refine⟨(c.toList.drop off).take b.length,?_,?_⟩
 ·have hl:((c.toList.drop off).take b.length).length=b.length:=by grind
  have:=Go.run_loadCells_list (P:=P) w ⟨d,off,none⟩ ((c.toList.drop off).take b.length) (λs j f=>by
   rw[kL];rw[cu]at f;split at f
   ·rw[bL]at f;simp only[World.cell?,k]
    grind
   grind)
  rwa[hl]at this
 ·refine⟨by grind,λg j m=>?_⟩;have q:g<b.length:=by
   grind
  have:=l g j m;have r:off+g<c.size:=J;simp_all
def yR{s:ab}{c:Ty}{l off:Nat}{f:List T}{k:T}(m:vm P s c)(j:tN w.heap μ l off f)(b:kw c f=some k):
 ∃d,(loadVar s ⟨l,off,none⟩).run P w= .ok d w/\fI w.heap μ k d:=by
 unfold kw at b;cases i:c.isAgg with
 |true=>
  rw[i]at b;have b:(dV (takeN c.size f) λj=>some (T.agg j))=some k:=b;obtain⟨y,g,n⟩:=dI.1 b;rw[nY]at g;split at g
  ·rename_i x;simp at g n;subst g;subst n;have r:=j.take c.size;obtain⟨t,q,v⟩:=tN.run_loadCells (P:=P) r;have u:(f.take c.size).length=c.size:=by grind
   rw[u]at q;refine⟨.agg t.toArray,?_,fI.x7 J r.scalar⟩;simp[loadVar,m.ug,i,m.run_sizeOf,q]
  grind
 |false=>
  rw[i]at b;have b:mI f 0=some k:=b;rw[kP]at b;obtain⟨d,p,hr⟩:=j.cell b;refine⟨d,?_,hr⟩;have p:w.cell? ⟨l,off,none⟩=some d:=J;simp[loadVar,m.ug,i,p]
def St.rowAt(I:St cx base hp μ h){j m c:Nat}{b:Loc}{d:T}(A:μ j=some b)(f:h.elem j m c=some d):tN hp μ b.jc (c*b.sz) d.cells/\d.cells.length=b.sz:=by
 have⟨u,C,G⟩:=I.box j b A;unfold H.elem at f;rw[C]at f;obtain⟨O,v,Q,M,r,g⟩:=u;have f:gJ (Nat.beq v m) (@Bool.rec (λ_=>aa T) (mI g c) none r)=some d:=f;have⟨_,f⟩:=dQ.1 f;cases r with
 |true=>grind
 |false=>
  have f:g[c]? =some d:=by rw[<-kP];exact f
  have i:=G.plain rfl;have⟨t,K,x,y,z⟩:=i.row;have q:d∈g:=ay f;have p:=i.size d q;have E:c<g.length:=by
   grind
  have N:=iu i.size;refine⟨⟨⟨t,K,(0,0),x,?_,λs l k=>?_⟩,λl k=>i.scalar l ?_⟩,p⟩
  ·rw[p,y];have:c+1<=b.cap:=by have:=i.room;grind
   calc c*b.sz+b.sz=(c+1)*b.sz:=by rw[bW]
    _<=b.cap*b.sz:=aW _ this
  ·have F:s<d.cells.length:=by
    grind
   have D:(fF g)[c*b.sz+s]? =some l:=by
    have n:=pU i.size c;have:g.drop c=d::g.drop (c+1):=by
     rw[aI E]
     grind
    rw[this,mg]at n;rw[<-bL,n,cK F];exact k
   have⟨L,B,hr⟩:=z.get D;rw[cu]at B;simp_all
  ·exact List.mem_flatMap.2 ⟨d,q,k⟩
def St.TO(s:St cx base hp μ h){d f g:Nat}{c:Loc}{i:T}(n:μ d=some c)(b:h.elem d f g=some i):f=c.ep:=by
 have⟨j,p,q⟩:=s.box d c n;unfold H.elem at b;rw[p]at b;obtain⟨u,l,v,t,r,k⟩:=j;have b:gJ (Nat.beq l f) (@Bool.rec (λ_=>aa T) (mI k g) none r)=some i:=b;have⟨m,_⟩:=dQ.1 b;have:=aG m;have:=q.ep
 grind
def DE{q:ab}{r:Ty}{i f:T}{j:ao}(n:vm P q r)(p:St cx base w.heap μ h)(l:fI w.heap μ i j)(b:h.load r i=some f):
 ∃g c,j= .pointer (some g)/\(loadVar q g).run P w= .ok c w/\fI w.heap μ f c:=by
 unfold H.load at b;cases i<;>simp at b
 ·rename_i G M S C;replace b:=dI.1 b;obtain⟨U,m,b⟩:=b;replace b:=dI.1 b;obtain⟨L,d,b⟩:=b;obtain⟨F,g,y,k,_,N⟩:=l.qf;have O:=p.TO k m;obtain⟨D,Q⟩:=p.rowAt k m;rw[mh]at d;split at d
  ·rename_i x;simp at d;subst d;obtain⟨c,t,u⟩:=yR n (D.drop C x) b
   grind
  grind
 ·rename_i K;obtain⟨I,off,s,E,fz,y,R,v,z,A,hr⟩:=l.mf;obtain⟨c,t,u⟩:=yR n ⟨⟨s,E,fz,v,z,hr⟩,(λf B=>(A f B).1)⟩ b
  grind
theorem IN(jq:jg P cx){f:ab}{i:ah}(c:St cx base w.heap μ h)(q:kA w.heap μ mask e a.tmps)(l:o.op= .load f i){g:T}{d:H}
 (b:IP f i cx mask e h=some (.val g d)):jp cx base w μ h.size ((execOp a.eval o).run P w) g d:=by
 replace b:=dI.1 b;obtain⟨u,n,b⟩:=b;replace b:=dI.1 b;obtain⟨t,hp,b⟩:=b;obtain⟨p,rfl⟩:=fT.1 b;have⟨r,s,m,j,k⟩:=DE (jq.ty _ _ n) c (gY c q hp) p;exact jp.pure c (by simp[execOp,l,Instr.loadAt,m,Instr.sureAddr,j]) k
def xU(jq:jg P cx){l:ab}{f:Nat}{g:Nat×ab}(b:xx cx l f=some g):∃d c,P.underlying l=some (.struct d)/\d[f]? =some c/\c.offset=g.1/\c.type=g.2/\
 ∃k,P.info? c.type=some k/\k.size≠0:=by
 replace b:=dI.1 b;obtain⟨s,q,b⟩:=b;have⟨t,m,j⟩:=kM (jq.ty _ _ q);cases r:s.u<;>rw[r]at b j<;>simp at b;obtain⟨d,rfl,p,n⟩:=rY j;subst p;rw[aS]at b;cases i:d.toList[f]? with
 |none=>rw[i]at b;grind
 |some c=>
  rw[i]at b;simp at b;refine⟨d,c,m,by grind,by rw[<-b],by rw[<-b],n c (ay i)⟩
theorem AQ(jq:jg P cx){t:ab}{n:ah}{p:Nat}(m:St cx base w.heap μ h)(V:kA w.heap μ mask e a.tmps)(O:o.op= .fieldAddr t n p){c:T}{q:H}
 (b:pT t n p cx mask e h=some (.val c q)):jp cx base w μ h.size ((execOp a.eval o).run P w) c q:=by
 replace b:=dI.1 b;obtain⟨l,L,b⟩:=b;replace b:=dI.1 b;obtain⟨U,hp,b⟩:=b;obtain⟨ae,al,A,B,C,an,i,D,E⟩:=xU jq L;have r:=gY m V hp;have s:∀d:Addr,a.eval n= .pointer (some d)->(execOp a.eval o).run P w= .ok (.value (.pointer (some (d.add l.1)))) w:=by
  intro d f;simp[execOp,O,Instr.fieldAt,run_underlying A,B,f,Instr.sureAddr,fieldPlace,sizeOf,typeInfo,D,E,C]
 cases U<;>simp at b
 ·rename_i x z R S;obtain⟨rfl,rfl⟩:=b;obtain⟨u,d,f,G,K,F⟩:=r.qf;refine jp.pure m (s d f) (.ptr x z R (S+l.1) u _ G K λI=>?_);rw[F I,kL,cJ]
 ·rename_i X;replace b:=dI.1 b;obtain⟨Y,g,b⟩:=b;simp at b;obtain⟨rfl,rfl⟩:=b;obtain⟨y,off,v,W,fz,f,N,M,av,Q,hr⟩:=r.mf;rw[mh]at g;split at g
  ·rename_i ap;simp at g;subst g;refine jp.pure m (s _ f) ?_;rw[kL];refine .jD _ y (off+l.1) v W fz N M (by grind) (λc j=>Q c (bG j)) λk c j=>?_;rw[bL]at j;have:=hr _ c j;rwa[<-cJ]at this
  grind
def Bd{r:ab}{c:Ty}{f:List T}{g:af ao}{off:Nat}{k:T}(l:vm P r c)(p:gU hp μ f (g.toList.drop off))(s:∀m∈f,m.scalar=true)(b:kw c f=some k):
 ∃d,(part r g off).run P w= .ok d w/\fI hp μ k d:=by
 unfold kw at b;cases j:c.isAgg with
 |true=>
  rw[j]at b;have b:(dV (takeN c.size f) λu=>some (T.agg u))=some k:=b;obtain⟨x,i,n⟩:=dI.1 b;rw[nY]at i;split at i
  ·rename_i v;simp at i n;subst i;subst n;refine⟨.agg (g.extract off (off+c.size)),by simp[part,l.ug,j,l.run_sizeOf],fI.x7 ?_ λm t=>s m (bF t)⟩;have:=p.take c.size;rw[Array.toList_extract]
   grind
  grind
 |false=>
  rw[j]at b;have b:mI f 0=some k:=b;rw[kP]at b;obtain⟨d,q,hr⟩:=p.get b;refine⟨d,?_,hr⟩;have q:g[off]? =some d:=by grind
  simp[part,l.ug,j,q]
theorem GS(jq:jg P cx){j:ab}{d:ah}{f:Nat}(i:St cx base w.heap μ h)(E:kA w.heap μ mask e a.tmps)(x:o.op= .field j d f){k:T}{g:H}
 (b:AR j d f cx mask e h=some (.val k g)):jp cx base w μ h.size ((execOp a.eval o).run P w) k g:=by
 replace b:=dI.1 b;obtain⟨l,v,b⟩:=b;replace b:=dI.1 b;obtain⟨M,A,b⟩:=b;replace b:=dI.1 b;obtain⟨D,hp,b⟩:=b;have⟨K,L,m,n,p,q,_⟩:=xU jq v;have s:=gY i E hp;cases D<;>simp at b;replace b:=dI.1 b;obtain⟨G,c,b⟩:=b;obtain⟨B,rfl⟩:=fT.1 b;have⟨I,y,r,z⟩:=s.qg;rw[mh]at c;split at c
 ·simp at c;subst c;have⟨F,t,u⟩:=Bd (P:=P) (w:=w) (jq.ty _ _ A) (r.drop l.1) (λd C=>z d (bG C)) B;refine jp.pure i ?_ u;simp[execOp,x,Instr.field,run_underlying m,n,y,asAgg,p,q,t]
 grind
def nW{c:T}{g:Nat}(d:qn c=some g):∃f,c= .int f (.ofNat g):=by
 unfold qn at d;cases c<;>simp at d;rename_i f b;cases b with
 |ofNat b=>simp_all
 |negSucc b=>grind
theorem GQ(jq:jg P cx){B:ab}{n D:ah}(m:St cx base w.heap μ h)(A:kA w.heap μ mask e a.tmps)(v:o.op= .index B n D){C:T}{s:H}
 (b:AO B n D cx mask e h=some (.val C s)):jp cx base w μ h.size ((execOp a.eval o).run P w) C s:=by
 replace b:=dI.1 b;obtain⟨al,W,b⟩:=b;replace b:=dI.1 b;obtain⟨z,hp,b⟩:=b;replace b:=dI.1 b;obtain⟨q,S,b⟩:=b;replace b:=dI.1 b;obtain⟨f,O,b⟩:=b;obtain⟨k,Q⟩:=nW O;obtain⟨d,t,r⟩:=kM (jq.ty _ _ W);have l:=gY m A hp;have y:=(Q▸gY m A S).jX;cases X:al.u<;>rw[X]at b r<;>simp at b
 ·
  have:=sW r;subst this;cases z<;>simp at b;rename_i g;replace b:=dI.1 b;obtain⟨c,aE,b⟩:=b;obtain⟨j,rfl⟩:=fT.1 b;simp at j;subst j;obtain⟨p,E⟩:=l.lU;refine jp.pure (c:= .int .u8 (c:Int)) m ?_ (.int _ _);have aN:f<g.length:=by
   grind
  have M:g[f]=c:=by grind
  have L:c<256:=E c (by rw[<-M];simp);have N:(bytesOf g)[f]? =some (UInt8.ofNat c):=by
   have U:f<(bytesOf g).size:=by rw[jV];omega
   rw[getElem?_pos (bytesOf g) f U];congr 1;show(bytesOf g).data[f]=_
   grind [bytesOf]
  simp[execOp,v,Instr.index,y,asIntOf,run_underlying t,p,N,jJ L]
 ·rename_i Y aA;have:=rM r;subst this;cases z<;>simp at b;rename_i an;replace b:=dI.1 b;obtain⟨ae,x,b⟩:=b;replace b:=dQ.1 b;obtain⟨G,b⟩:=b;replace b:=dI.1 b;obtain⟨ap,i,b⟩:=b;obtain⟨j,rfl⟩:=fT.1 b;obtain⟨av,p,F,V⟩:=l.qg;rw[mh]at i;split at i
  ·simp at i;subst i;obtain⟨c,I,K⟩:=Bd (P:=P) (w:=w) (jq.ty _ _ x) (F.drop (f*ae.size)) (λn l=>V n (bG l)) j;refine jp.pure m ?_ K;rw[aJ]at G;have R:¬Y<=f:=J;simp[execOp,v,Instr.index,y,asIntOf,run_underlying t,p,R,(jq.ty _ _ x).run_sizeOf,I]
  grind
end
end
section
section
variable {P:ai}{cx:Ctx}{base:Nat}{w:World}{μ:Mu}{h:H}{mask:Nat}{e:Env}{a:Act}{o:Oper}{hp:af Obj}
def St.Lo(k:St cx base hp μ h){c:Nat}{b:Loc}{d:iY}(j:μ c=some b)(f:h.get c=some d):d.sz=b.sz/\d.ep=b.ep:=by
 have⟨l,i,g⟩:=k.box c b j;rw[i]at f;simp at f;subst f;exact⟨g.sz,g.ep⟩
def flat_get{d:Nat}{es:List T}(g:∀v∈es,v.cells.length=d){i k:Nat}{v z:T}(j:es[i]? =some v)(m:v.cells[k]? =some z):(fF es)[i*d+k]? =some z:=by
 have c:i<es.length:=by
  grind
 have f:k<v.cells.length:=by
  grind
 have b:=pU g i;have l:es[i]=v:=by rw[az c]at j;grind
 rw[aI c,l,mg]at b;rw[<-bL,b,cK f];exact m
def MO{f:T}{d:List T}{j off c g:Nat}{i:af ao}{r:ab}{fz:Nat×Nat}{b:T}(y:¬nN μ j)(u:hp[j]? =some (.cells i r fz))
 (k:∀b∈f::d,b.cells.length=c) (z:off+(fF (f::d)).length<=i.size) (s:∀b∈fF (f::d),vM b)
 (hr:∀(m:Nat) b,(fF (f::d))[m]? =some b->fI hp μ b (i.getD (off+m) Go.undef)) (q:(f::d)[g]? =some b):
 fI hp μ (.jD b.cells) (.pointer (some ⟨j,off+g*c,none⟩)):=by
 have p:=ay q;have v:g<(f::d).length:=by
  grind
 have t:=iu k;have x:=k b p;refine .jD b.cells j (off+g*c) i r fz y u ?_ (λn l=>s n (List.mem_flatMap.2 ⟨b,p,l⟩)) λm n l=>?_
 ·rw[x];have:g*c+c<=(fF (f::d)).length:=by
   rw[t]
   calc g*c+c=(g+1)*c:=by rw[bW]
    _<=(f::d).length*c:=aW _ v
  omega
 ·have:=hr _ n (flat_get k q l);rwa[<-cJ]at this
theorem AN(jq:jg P cx){t:ab}{x y:ah}(i:St cx base w.heap μ h)(r:kA w.heap μ mask e a.tmps)(ap:o.op= .indexAddr t x y){s:T}{I:H}
 (b:pS t x y cx mask e h=some (.val s I)):jp cx base w μ h.size ((execOp a.eval o).run P w) s I:=by
 replace b:=dI.1 b;obtain⟨c9,c4,b⟩:=b;replace b:=dI.1 b;obtain⟨p,hp,b⟩:=b;replace b:=dI.1 b;obtain⟨q,av,b⟩:=b;replace b:=dI.1 b;obtain⟨f,ca,b⟩:=b;obtain⟨k,cb⟩:=nW ca;obtain⟨d,X,aN⟩:=kM (jq.ty _ _ c4);have Q:=gY i r hp;have aX:=(cb▸gY i r av).jX;cases c6:c9.u<;>rw[c6]at b aN<;>simp at b
 ·rename_i bS;have:=lV aN;subst this;replace b:=dI.1 b;obtain⟨m,aE,b⟩:=b;have N:=(jq.ty _ _ aE).run_sizeOf w;unfold kK at b;cases p<;>simp at b
  ·rename_i D bT;replace b:=dI.1 b;obtain⟨z,bB,b⟩:=b;replace b:=dQ.1 b;obtain⟨hl,b⟩:=b;simp at b;obtain⟨rfl,rfl⟩:=b;have hl:=aG hl;cases D with
   |nil=>grind
   |cons ef D=>
    obtain⟨a7,off,di,c7,a6,bC,fz,G,an,ae,dv,ds,bu,bs,b8,hr⟩:=Q.uB;have c1:c7=m.size:=by rw[<-bu z (ay bB)];exact hl
    have eb:f<D.length+1:=by
     grind
    have ec:¬((D.length:Int)+1<=(f:Int)):=J;refine jp.pure i ?_ (MO an ae bu bs b8 hr bB);rw[<-kL,c1];have F:¬D.length+1<=f:=J;simp[execOp,ap,Instr.indexAt,aX,asIntOf,run_underlying X,G,N,F]
  ·rename_i A B S l bT;replace b:=dQ.1 b;obtain⟨hl,b⟩:=b;replace b:=dI.1 b;obtain⟨a8,W,b⟩:=b;replace b:=dQ.1 b;obtain⟨V,b⟩:=b;replace b:=dQ.1 b;obtain⟨bi,b⟩:=b;simp at b;obtain⟨rfl,rfl⟩:=b;rw[aJ]at hl;have V:=aG V;have bi:=aG bi;obtain⟨g,v,bN,G,C,L,dn,b9⟩:=Q.tH;obtain⟨U,b6⟩:=i.Lo C W;obtain⟨dd,de,bH⟩:=b9 J;have cp:bN≠0:=J;rw[bH cp]at G;refine jp.pure (c:= .pointer (some ⟨g.jc,(S+f)*g.sz,none⟩)) i ?_ (.ptr A B (S+f) 0 g _ C L λ_=>by simp);have F:¬l<=f:=J;have b7:(⟨g.jc,S*g.sz,none⟩:Addr).add (f*m.size)=⟨g.jc,(S+f)*g.sz,none⟩:=by
    rw[kL,<-V,U,bX]
   simp[execOp,ap,Instr.indexAt,aX,asIntOf,run_underlying X,G,N,F,b7]
 ·rename_i n bS;have:=rM aN;subst this;replace b:=dI.1 b;obtain⟨m,aE,b⟩:=b;have N:=(jq.ty _ _ aE).run_sizeOf w;unfold pf at b;replace b:=dQ.1 b;obtain⟨hl,b⟩:=b;rw[aJ]at hl;have F:¬n<=f:=J;have aA:∀v:Addr,a.eval x= .pointer (some v)->(execOp a.eval o).run P w= .ok (.value (.pointer (some (v.add (f*m.size))))) w:=by
   intro v av;simp[execOp,ap,Instr.indexAt,aX,asIntOf,run_underlying X,av,Instr.sureAddr,N,F]
  cases p<;>simp at b
  ·rename_i A B R j;replace b:=dI.1 b;obtain⟨a8,W,b⟩:=b;obtain⟨g,v,M,C,L,bn⟩:=Q.qf;obtain⟨U,b6⟩:=i.Lo C W;cases E:Nat.beq a8.sz m.size with
   |false=>
    rw[E]at b;have b:some (lP.val (T.ptr A B R (j+f*m.size)) h)=some (.val s I):=b;simp only[au,lP.val.injEq]at b;obtain⟨rfl,rfl⟩:=b;refine jp.pure i (aA v M) (.ptr A B R (j+f*m.size) g _ C L λY=>?_);rw[bn Y,kL,cJ]
   |true=>
    rw[E]at b;have b:gJ (Nat.beq j 0) (some (lP.val (T.ptr A B (R+f) 0) h))=some (.val s I):=b;replace b:=dQ.1 b;obtain⟨al,b⟩:=b;have al:=aG al;subst al;simp only[au]at b;obtain⟨rfl,rfl⟩:=b;have E:=aG E;refine jp.pure i (aA v M) (.ptr A B (R+f) 0 g _ C L λY=>?_);rw[bn Y,kL,<-E,U,bX];simp
  ·rename_i dk;replace b:=dI.1 b;obtain⟨dm,K,b⟩:=b;simp at b;obtain⟨rfl,rfl⟩:=b;obtain⟨a7,off,a6,bC,fz,M,an,ae,bs,cL,hr⟩:=Q.mf;rw[mh]at K;split at K
   ·rename_i ea;simp at K;subst K;refine jp.pure i (aA _ M) ?_;rw[kL];refine .jD _ a7 (off+f*m.size) a6 bC fz an ae (by grind) (λs O=>cL s (bG O)) λk s O=>?_;rw[bL]at O;have:=hr _ s O;rwa[<-cJ]at this
   grind
end
end
section
section
variable {P:ai}{cx:Ctx}{base:Nat}{w:World}{μ:Mu}{h:H}{mask:Nat}{e:Env}{a:Act}{o:Oper}{hp:af Obj}
theorem Bt(jq:jg P cx){q j:ab}{s:ah}(g:St cx base w.heap μ h)(A:kA w.heap μ mask e a.tmps)(n:o.op= .convert q j s){r:T}{k:H}{c:T}
 (d:∃i,cx.ty q=some i) (hp:fO cx mask e s=some c) (b:conv cx j c=some r) (x:k=h):jp cx base w μ h.size ((execOp a.eval o).run P w) r k:=by
 subst x;obtain⟨D,d⟩:=d;have⟨C,m,_⟩:=kM (jq.ty _ _ d);replace b:=dI.1 b;obtain⟨i,y,b⟩:=b;have⟨B,l,f⟩:=kM (jq.ty _ _ y);have p:=gY g A hp;cases z:i.u<;>rw[z]at b f<;>simp at b
 ·have:=wY f;subst this;cases c<;>simp at b;subst b;exact jp.pure g (by simp[execOp,n,convert,run_underlying m,run_underlying l,p.jX,Conv.intToInt]) (.int _ _)
 ·have:=sW f;subst this;cases c<;>simp at b;subst b;have⟨v,t⟩:=p.lU;exact jp.pure g (by simp[execOp,n,convert,run_underlying m,run_underlying l,v]) (.str _ t)
def uT{g:aa ah}{c:aa Nat}(p:St cx base w.heap μ h)(n:kA w.heap μ mask e a.tmps)(b:jT cx mask e g=some c):
 (g=none/\c=none)\/∃d i f,g=some d/\c=some f/\a.eval d= .int i (f:Nat):=by
 cases g with
 |none=>left;simp[jT]at b;grind
 |some d=>
  right;have b:(dV (fO cx mask e d) λj=>dV (qn j) λc=>some (some c))=some c:=b;replace b:=dI.1 b;obtain⟨j,m,b⟩:=b;replace b:=dI.1 b;obtain⟨f,l,b⟩:=b;simp at b;subst b;have⟨i,k⟩:=nW l;exact⟨d,i,f,rfl,rfl,(k▸gY p n m).jX⟩
def run_sliceBound{d:ao}{j:ak}{b:Nat}(i:d= .int j (b:Nat)){c:Nat}(k:b<=c)(f:BoundsCode):(Instr.sliceBound d c f).run P w= .ok b w:=by
 subst i;have g:0<=((b:Nat):Int)/\((b:Nat):Int)<=(c:Int):=⟨J,J⟩;simp only[Instr.sliceBound,asIntOf,Sem.run_bind,Sem.run_pure,Result.andThen_ok,g,and_self,bA];simp
def qU{isS:Bool}{len cap:Nat}{q p r:aa ah}{l d m:aa Nat}
 (n:(q=none/\l=none)\/∃c i b,q=some c/\l=some b/\a.eval c= .int i (b:Nat)) (t:(p=none/\d=none)\/∃c i b,p=some c/\d=some b/\a.eval c= .int i (b:Nat))
 (B:(r=none/\m=none)\/∃c i b,r=some c/\m=some b/\a.eval c= .int i (b:Nat)) (C:∀b,m=some b->b<=cap/\d=some b) (hl:gH l 0<=gH d len) (u:gH d len<=len) (G:len<=cap):
 (Instr.sliceBounds isS len cap (q.map a.eval) (p.map a.eval) (r.map a.eval)).run P w= .ok (gH l 0,gH d len,gH m cap) w:=by
 rcases B with⟨rfl,rfl⟩|⟨K,I,E,rfl,rfl,s⟩
 ·rcases t with⟨rfl,rfl⟩|⟨F,D,k,rfl,rfl,g⟩
  ·rcases n with⟨rfl,rfl⟩|⟨A,z,j,rfl,rfl,f⟩
   ·rfl
   ·have hl:j<=len:=hl;simp[Instr.sliceBounds,gH,run_sliceBound f hl]
  ·have u:k<=len:=u;have v:k<=cap:=J;rcases n with⟨rfl,rfl⟩|⟨A,z,j,rfl,rfl,f⟩
   ·simp[Instr.sliceBounds,gH,run_sliceBound g v]
   ·have hl:j<=k:=hl;simp[Instr.sliceBounds,gH,run_sliceBound g v,run_sliceBound f hl]
 ·have⟨x,y⟩:=C E rfl;rcases t with⟨rfl,rfl⟩|⟨F,D,k,rfl,rfl,g⟩
  ·grind
  ·simp at y;subst y;rcases n with⟨rfl,rfl⟩|⟨A,z,j,rfl,rfl,f⟩
   ·simp[Instr.sliceBounds,gH,run_sliceBound g (aw _),run_sliceBound s x]
   ·have hl:j<=k:=hl;simp[Instr.sliceBounds,gH,run_sliceBound g (aw _),run_sliceBound s x,run_sliceBound f hl]
def Fw(b:Nat):gH none b=b:=rfl
def zW{j:Type}{d g:List j}{c b:Nat}(l:c<=b)(f:KS d c b=some g):b<=d.length/\g=(d.drop c).take (b-c):=by
 unfold KS at f;have⟨m,i,k⟩:=dI.1 f;rw[mh]at i
 grind [nY]
def Eb{c:Nat}{b:List T}(f:∀d∈b,d.cells.length=c)(g i:Nat):fF ((b.drop g).take i)=((fF b).drop (g*c)).take (i*c):=by
 rw[pU f,rU (λd j=>f d (bG j))]
def HK{g:T}{f:List T}{m off i:Nat}{l:af ao}{t:ab}{fz:Nat×Nat}{b d:Nat}{p:T}{k:List T}{full:Bool}{cap:Nat}(A:¬nN μ m)(x:hp[m]? =some (.cells l t fz))
 (r:∀c∈g::f,c.cells.length=i) (F:off+(fF (g::f)).length<=l.size) (B:∀c∈fF (g::f),vM c)
 (hr:∀(n:Nat) c,(fF (g::f))[n]? =some c->fI hp μ c (l.getD (off+n) Go.undef)) (E:b<=d) (D:d<=(g::f).length) (s:p::k=((g::f).drop b).take (d-b))
 (C:d-b<=cap) (u:full=true->cap=d-b):fI hp μ (.dK (p::k) full) (.slice (some ⟨m,off+b*i,none⟩) (d-b) cap):=by
 have y:k.length+1=d-b:=by
  have:=bE List.length s
  grind
 have v:=iu r;have q:=Eb r b (d-b);rw[<-s]at q;have z:∀c∈p::k,c∈g::f:=λc j=>bG (bF (s▸j));rw[<-y];refine .dK p k full m (off+b*i) cap i l t fz A x J (λn=>by rw[u n];omega) (λc j=>r c (z c j)) ?_ ?_ ?_
 ·rw[q];simp only[List.length_take,List.length_drop];have:b*i+(d-b)*i<=(fF (g::f)).length:=by
   rw[v,<-bX];simp_all[aW]
  omega
 ·intro c j;rw[q]at j
  grind
 grind
def Ca(d:List Nat)(b c:Nat):(bytesOf d).extract b c=bytesOf ((d.drop b).take (c-b)):=by
 apply ByteArray.ext;have:((bytesOf d).extract b c).data.toList=((bytesOf d).data.toList.drop b).take (c-b):=Lib.extract_data _ _ _;apply cv;rw[this];simp[bytesOf,List.map_take,List.map_drop]
def HN(jq:jg P cx){t:ab}{x:ah}{N E O:aa ah}(Q:St cx base w.heap μ h)(bn:o.op= .slice t x N E O){d:Nat}{v:ab}(a6:P.underlying t=some (.array d v)){s:T}
 (bC:fI w.heap μ s (a.eval x)) {g f k:aa Nat}
 (bS:(N=none/\g=none)\/∃l p c,N=some l/\g=some c/\a.eval l= .int p (c:Nat)) (bT:(E=none/\f=none)\/∃l p c,E=some l/\f=some c/\a.eval l= .int p (c:Nat))
 (b6:(O=none/\k=none)\/∃l p c,O=some l/\k=some c/\a.eval l= .int p (c:Nat)) (cL:AG f k=true) (j:jG cx h (.array d v) s=true) {u:T}
 (b:pH (asSlice (.array d v) s) g f k=some u):jp cx base w μ h.size ((execOp a.eval o).run P w) u h:=by
 unfold jG at j;simp only at j;cases G:cx.ty v with
 |none=>rw[G]at j;grind
 |some al=>
  rw[G]at j;have bB:=(jq.ty _ _ G).run_sizeOf w;have hp:∃m q X Y,s= .ptr m q X Y:=by cases s<;>first|exact⟨_,_,_,_,rfl⟩|(simp at j)
  obtain⟨m,q,X,Y,rfl⟩:=hp;simp only at j;cases D:h.get m with
  |none=>rw[D]at j;grind
  |some R=>
   rw[D]at j;obtain⟨b7,av,c4,cb,c1,ap⟩:=R;simp only[aB,cg]at j;obtain⟨⟨⟨⟨⟨⟨I,ae⟩,K⟩,L⟩,bH⟩,bN⟩,M⟩:=j;have I:=aG I;have ae:=aG ae;have K:=aG K;have L:=aG L;have M:=aG M;rw[jW]at M;subst K L bH bN;have⟨i,b8,bu,r,U,aN⟩:=bC.qf;have⟨R,C,B⟩:=Q.box m i r;rw[D]at C;simp only[au]at C;subst C;have b9:av=i.ep:=B.ep;have an:b7=i.sz:=B.sz;have ca:i.cap=ap.length:=(B.plain rfl).tZ rfl;have S:=aN J;simp at S;subst S;have b:v7 m q 0 d false (gH g 0) (gH f d) k=some u:=b;unfold v7 at b;replace b:=dQ.1 b;obtain⟨F,b⟩:=b;replace b:=dQ.1 b;obtain⟨y,b⟩:=b;have F:=bh F;have y:=bh y;simp only[iO,ed,Nat.add_eq,cA,Nat.sub_eq]at b;have W:(∀c,k=some c->c=gH f d)->
    (execOp a.eval o).run P w= .ok (.value (.slice (some (if gH k d=gH g 0 then⟨i.jc,0,none⟩else(⟨i.jc,0,none⟩:Addr).add (gH g 0*al.size))) (gH f d-gH g 0) (gH k d-gH g 0))) w:=by
    intro aE;have r:=qU (P:=P) (w:=w) (isS:=false) (len:=d) (cap:=d) bS bT b6 (by
     intro c a8;have n:=aE c a8;cases f with
     |none=>simp_all[AG]
     |some p=>
      have n:c=p:=n;subst n;have cp:c<=d:=y
      grind) F y (aw _)
    simp[execOp,bn,Instr.sliceAt,run_underlying a6,bu,Instr.sureAddr,r,bB]
   have aX:∀A:Nat,(⟨i.jc,0,none⟩:Addr).add (A*al.size)=⟨i.jc,A*i.sz,none⟩:=by
    intro A;rw[kL,<-I,an];simp
   cases V:k with
   |none=>
    subst V;have z:=W dy;have b:some (T.arr m q (gH g 0) (gH f d-gH g 0) false)=some u:=b;simp only[au]at b;subst b;refine jp.pure Q z (.arr _ _ _ _ _ i _ _ r U ?_ λa7=>⟨dy,λ_=>?_,λbi=>?_⟩)
    ·grind [gH]
    ·grind [gH]
    grind
   |some c=>
    subst V;have b:gJ (Nat.beq c (gH f d)) (some (T.arr m q (gH g 0) (gH f d-gH g 0) true))=some u:=b;replace b:=dQ.1 b;obtain⟨n,b⟩:=b;have n:=aG n;simp only[au]at b;subst b;have z:=W (by grind);have bs:gH (some c) d=gH f d:=n;rw[bs]at z;refine jp.pure Q z (.arr _ _ _ _ _ i _ _ r U (aw _) λa7=>⟨λ_=>rfl,dy,λbi=>?_⟩);have aA:¬gH f d=gH g 0:=J;rw[aq aA,aX]
theorem GL(jq:jg P cx){t:ab}{x:ah}{dv de cb:aa ah}(v:St cx base w.heap μ h)(r:kA w.heap μ mask e a.tmps)(bS:o.op= .slice t x dv de cb){s:T}{bu:H}
 (j:DQ t x dv de cb cx mask e h=some (.val s bu)):jp cx base w μ h.size ((execOp a.eval o).run P w) s bu:=by
 replace j:=dI.1 j;obtain⟨ea,eF,j⟩:=j;replace j:=dI.1 j;obtain⟨p,hp,j⟩:=j;replace j:=dQ.1 j;obtain⟨m,j⟩:=j;replace j:=dI.1 j;obtain⟨g,et,j⟩:=j;replace j:=dI.1 j;obtain⟨i,er,j⟩:=j;replace j:=dI.1 j;obtain⟨I,eA,j⟩:=j;replace j:=dQ.1 j;obtain⟨dn,j⟩:=j;obtain⟨f,rfl⟩:=fT.1 j;have cp:=uT v r et;have cL:=uT v r er;have bs:=uT v r eA;obtain⟨d,bC,aE⟩:=kM (jq.ty _ _ eF);have Y:=gY v r hp;by_cases ef:∃n aN,ea.u= .array n aN
 ·obtain⟨n,aN,b8⟩:=ef;rw[b8]at m aE f;have:=rM aE;subst this;exact HN jq v bS bC Y cp cL bs dn m f
 unfold jG at m;cases b8:ea.u<;>rw[b8]at m aE f<;>(try simp at m)
 ·
  have:=sW aE;subst this;replace f:pH p g i I=some s:=f;cases p<;>simp at m;rename_i V;obtain⟨K,eb⟩:=Y.lU;unfold pH at f;cases G:I with
  |some k=>rw[G]at f;simp at f
  |none=>
   subst G;have f:gJ (Nat.ble (gH g 0) (gH i (kY V))) (dV (KS V (gH g 0) (gH i (kY V))) λr=>some (T.str r))=some s:=f;rw[jW]at f;replace f:=dQ.1 f;obtain⟨A,f⟩:=f;have A:=bh A;replace f:=dI.1 f;obtain⟨q,b6,f⟩:=f;obtain⟨a7,rfl⟩:=zW A b6;simp at f;subst f;have ey:cb=none:=by rcases bs with⟨N,_⟩|⟨_,_,_,_,N,_⟩;exact N;simp at N
   subst ey;have F:=qU (P:=P) (w:=w) (isS:=false) (len:=V.length) (cap:=V.length) cp cL bs dy A a7 (aw _);simp only[Option.map_none]at F;refine jp.pure (c:= .string ((bytesOf V).extract (gH g 0) (gH i V.length))) v ?_ ?_
   ·simp[execOp,bS,Instr.sliceAt,Instr.slice,run_underlying bC,K,jV,F]
   ·rw[Ca];exact .str _ λc X=>eb c (bG (bF X))
 ·rename_i aN;have:=lV aE;subst this;replace f:pH p g i I=some s:=f;cases b7:cx.ty aN with
  |none=>rw[b7]at m;simp at m
  |some al=>
   rw[b7]at m;have eE:=(jq.ty _ _ b7).run_sizeOf w;have eB:∀k,I=some k->i.isSome=true:=by
    intro k bi;subst bi;cases i with
    |none=>simp[AG]at dn
    |some N=>rfl
   have S:∀(D:aa Addr) (len cap:Nat),a.eval x= .slice D len cap->len<=cap->gH g 0<=gH i len->gH i len<=len->(∀k,I=some k->k=gH i len)->
    (execOp a.eval o).run P w= .ok (.value (.slice (if gH I cap=gH g 0 then D else D.map (·.add (gH g 0*al.size))) (gH i len-gH g 0) (gH I cap-gH g 0))) w:=by
    intro D len cap M X W R av;have F:=qU (P:=P) (w:=w) (isS:=true) (len:=len) (cap:=cap) cp cL bs (by
     intro k bi;have bn:=eB k bi;have B:=av k bi;cases i with
     |none=>simp at bn
     |some N=>
      have B:k=N:=B;subst B;have R:k<=len:=R;exact⟨J,rfl⟩) W R X
    simp[execOp,bS,Instr.sliceAt,Instr.slice,run_underlying bC,M,F,eE]
   unfold pH at f;cases p<;>simp at m
   ·rename_i l full;have f:ue l full (gH g 0) (gH i l.length) I=some s:=by rw[<-jW];exact f
    unfold ue at f;replace f:=dQ.1 f;obtain⟨A,f⟩:=f;have A:=bh A;replace f:=dI.1 f;obtain⟨q,b6,f⟩:=f;obtain⟨a7,U⟩:=zW A b6;cases l with
    |nil=>
     obtain⟨D,K⟩:=Y.uA;have eD:q=[]:=by rw[U];simp
     rw[eD]at f;have dd:gH i 0=0:=by simpa using a7
     have dk:gH g 0=0:=by simp only[cM]at A;omega
     cases G:I with
     |none=>
      subst G;have f:some (T.dK [] false)=some s:=f;simp at f;subst f;have:=S D 0 0 K (aw _) J J dy;refine jp.pure v this ?_;rw[dk,dd,Fw];exact .nV _ _
     |some k=>
      subst G;have f:gJ (Nat.beq k (gH i 0)) (some (T.dK [] false))=some s:=f;replace f:=dQ.1 f;obtain⟨B,f⟩:=f;have B:=aG B;simp at f;subst f;have:=S D 0 0 K (aw _) J J (by intro N aA;simp at aA;omega);refine jp.pure v this ?_;have eu:gH (some k) 0=0:=by show k=0;omega
      rw[dk,dd,eu];exact .nV _ _
    |cons O l=>
     obtain⟨eL,off,cap,eH,eI,eM,fz,K,dm,c9,di,eo,b9,bn,X,hr⟩:=Y.uB;have ds:eH=al.size:=by
      have m:Nat.beq (kY O.cells) al.size=true:=m;have:=aG m;rw[jW]at this;rw[<-this];exact(b9 O dy).symm
     have a8:gH i (l.length+1)<=l.length+1:=by simpa using a7
     have a6:gH g 0<=gH i (l.length+1):=by simpa using A
     cases G:I with
     |none=>
      subst G;have z:=S _ _ _ K di a6 a8 dy;cases q with
      |nil=>
       have f:some T.gX=some s:=f;simp at f;subst f;have ca:gH i (l.length+1)-gH g 0=0:=by
        have:=bE List.length U;simp only[cM,List.length_take,List.length_drop,aU]at this;omega
       rw[ca]at z;exact jp.pure v z (.gX _ _)
      |cons y c1=>
       have f:some (T.dK (y::c1) (@Bool.rec (λ_=>Bool) false (Nat.beq (gH i (O::l).length) (kY (O::l))) full))=some s:=f;have eC:gH g 0<gH i (l.length+1):=by
        have:=bE List.length U;simp only[aU,List.length_take,List.length_drop]at this;omega
       have L:¬cap=gH g 0:=J;simp only[Fw,L,bw,cT,kL]at z;refine jp.pure v z ?_;simp only[au]at f;rw[<-f,<-ds];have:=HK (full:= @Bool.rec (λ_=>Bool) false (Nat.beq (gH i (O::l).length) (kY (O::l))) full) (cap:=cap-gH g 0) dm c9 b9 bn X hr a6 (by simpa using a8) U J (by
        intro F;cases full with
        |false=>simp at F
        |true=>
         have F:Nat.beq (gH i (O::l).length) (kY (O::l))=true:=F;have:=aG F;rw[jW]at this;simp only[aU]at this;rw[eo rfl,this])
       exact this
     |some k=>
      subst G;have f:gJ (Nat.beq k (gH i (O::l).length)) (@List.rec T (λ_=>aa T) (some (T.dK [] false)) (λ_ _ _=>some (T.dK q true)) q)=some s:=f;replace f:=dQ.1 f;obtain⟨B,f⟩:=f;have B:=aG B;simp only[aU]at B;have z:=S _ _ _ K di a6 a8 (by intro N aA;simp at aA;omega);have bT:gH (some k) cap=gH i (l.length+1):=B;rw[bT]at z;cases q with
      |nil=>
       have f:some (T.dK [] false)=some s:=f;simp at f;subst f;have ca:gH i (l.length+1)-gH g 0=0:=by
        have:=bE List.length U;simp only[cM,List.length_take,List.length_drop,aU]at this;omega
       rw[ca]at z;exact jp.pure v z (.nV _ _)
      |cons y c1=>
       have f:some (T.dK (y::c1) true)=some s:=f;have eC:gH g 0<gH i (l.length+1):=by
        have:=bE List.length U;simp only[aU,List.length_take,List.length_drop]at this;omega
       have L:¬gH i (l.length+1)=gH g 0:=J;simp only[L,bw,cT,kL]at z;refine jp.pure v z ?_;simp only[au]at f;rw[<-f,<-ds];exact HK dm c9 b9 bn X hr a6 (by simpa using a8) U (aw _) (λ_=>rfl)
   ·
    obtain⟨D,cap,K⟩:=Y.AJ;have f:gJ (Nat.beq (gH g 0) 0) (gJ (Nat.beq (gH i 0) 0) (@Option.rec Nat (λ_=>aa T) (some T.gX) (λk=>gJ (Nat.beq k 0) (some (T.dK [] false))) I))=some s:=f;replace f:=dQ.1 f;obtain⟨W,f⟩:=f;replace f:=dQ.1 f;obtain⟨R,f⟩:=f;have W:=aG W;have R:=aG R;cases G:I with
    |none=>
     subst G;have f:some T.gX=some s:=f;simp at f;subst f;have:=S D 0 cap K (ax _) J J dy;rw[W,R]at this;exact jp.pure v this (.gX _ _)
    |some k=>
     subst G;have f:gJ (Nat.beq k 0) (some (T.dK [] false))=some s:=f;replace f:=dQ.1 f;obtain⟨av,f⟩:=f;have av:=aG av;simp at f;subst f;subst av;have:=S D 0 cap K (ax _) J J (by intro N aA;simp at aA;omega);rw[W,R]at this;exact jp.pure v this (.nV _ _)
   ·rename_i b an ae C full;obtain⟨Q,D,E,K,F,bH,c6,bB⟩:=Y.tH;have f:v7 b an ae C full (gH g 0) (gH i C) I=some s:=f;unfold v7 at f;replace f:=dQ.1 f;obtain⟨A,f⟩:=f;replace f:=dQ.1 f;obtain⟨aX,f⟩:=f;have A:=bh A;have aX:=bh aX;simp only[iO,ed]at f;have eh:Q.sz=al.size:=by
     cases bN:bu.get b with
     |none=>rw[bN]at m;simp at m
     |some ec=>
      rw[bN]at m;have m:Nat.beq ec.sz al.size=true:=m;rw[<-aG m];exact(v.Lo F bN).1.symm
    have c4:∀c:Nat,E≠0->an=Q.ep->D.map (·.add (c*al.size))=some ⟨Q.jc,(ae+c)*Q.sz,none⟩:=by
     intro c L M;rw[(bB M).2.2 L,<-eh];simp[kL,bX]
    cases G:I with
    |none=>
     subst G;have z:=S D C E K c6 A aX dy;have f:(@Bool.rec (λ_=>aa T) (some (T.arr b an (ae+gH g 0) (gH i C-gH g 0) false)) (gJ (Nat.beq (gH i C) C) (some (T.arr b an (ae+gH g 0) (gH i C-gH g 0) true))) full)=some s:=f;cases full with
     |false=>
      simp at f;subst f;refine jp.pure v z (.arr _ _ _ _ _ Q _ _ F bH ?_ λM=>⟨dy,λ_=>?_,λL=>?_⟩)
      ·show gH i C-gH g 0<=E-gH g 0;omega
      ·have:=(bB M).2.1 rfl;show ae+gH g 0+(E-gH g 0)=Q.cap;omega
      ·have L:E-gH g 0≠0:=L;have ap:¬gH none E=gH g 0:=by show¬E=gH g 0;omega
       rw[aq ap];exact c4 _ J M
     |true=>
      replace f:=dQ.1 f;obtain⟨c7,f⟩:=f;have c7:=aG c7;simp at f;subst f;refine jp.pure v z (.arr _ _ _ _ _ Q _ _ F bH ?_ λM=>⟨λ_=>?_,dy,λL=>?_⟩)
      ·show gH i C-gH g 0<=E-gH g 0;omega
      ·have:=(bB M).1 rfl;show E-gH g 0=gH i C-gH g 0;omega
      ·have L:E-gH g 0≠0:=L;have ap:¬gH none E=gH g 0:=by show¬E=gH g 0;omega
       rw[aq ap];exact c4 _ J M
    |some k=>
     subst G;have f:gJ (Nat.beq k (gH i C)) (some (T.arr b an (ae+gH g 0) (gH i C-gH g 0) true))=some s:=f;replace f:=dQ.1 f;obtain⟨B,f⟩:=f;have B:=aG B;simp at f;subst f;have z:=S D C E K c6 A aX (by grind);have bT:gH (some k) E=gH i C:=B;rw[bT]at z;refine jp.pure v z (.arr _ _ _ _ _ Q _ _ F bH (aw _) λM=>⟨λ_=>rfl,dy,λL=>?_⟩);have ap:¬gH i C=gH g 0:=J;rw[aq ap]
     grind
 grind
end
end
section
section
variable {P:ai}{cx:Ctx}{base:Nat}{w:World}{μ:Mu}{h h':H}{mask:Nat}{e:Env}{a:Act}{o:Oper}{hp hp':af Obj}
def St.fh(g:St cx base hp μ h){b:Nat}{c:Loc}(f:μ b=some c):b<h.size:=by
 have⟨i,d,_⟩:=g.box b c f;rw[H.get_eq]at d
 grind
def St.QI(c:St cx base hp μ h):μ h.size=none:=by
 cases b:μ h.size with
 |none=>rfl
 |some d=>exact absurd (c.fh b) (Nat.lt_irrefl _)
def rj(μ:Mu)(d:Nat)(c:Loc):Mu:=⟨λb=>if b=d then some c else μ b,μ.py⟩
theorem jz(μ:Mu)(c:Nat)(b:Loc):rj μ c b c=some b:=by simp[rj]
theorem iV(μ:Mu){c b:Nat}(d:Loc)(h:b≠c):rj μ c d b=μ b:=by simp[rj,h]
def H.cons(h:H)(b:iY):H:=⟨h.size+1,h.low,b::h.fH⟩
def H.ly(b:Nat->T)(h:H)(c:iY):h.new b c=some (b h.size,h.cons c):=H.QJ b h c
def H.tV(c:h.fH.length=h.size)(b:iY):(h.cons b).get h.size=some b:=by
 rw[H.get_eq];simp[H.cons]
theorem H.nj{b:Nat}(f:b<h.size)(c:iY):(h.cons c).get b=h.get b:=by
 rw[H.get_eq,H.get_eq];have d:b<(h.cons c).size:=by show b<h.size+1;omega
 rw[ar d,ar f];show(c::h.fH)[h.size+1-1-b]? =_;have:h.size+1-1-b=(h.size-1-b)+1:=J;rw[this];simp
def St.new(d:St cx base hp μ h)(n:Obj)(l:Loc)(m:iY)(z:l.jc=hp.size)(E:Ext hp μ (hp.push n) (rj μ h.size l)->ry (hp.push n) (rj μ h.size l) l m):
 St cx base (hp.push n) (rj μ h.size l) (h.cons m)/\Ext hp μ (hp.push n) (rj μ h.size l)/\yJ μ (rj μ h.size l) h.size (h.cons m).size:=by
 have D:=d.QI;have p:Ext hp μ (hp.push n) (rj μ h.size l):=by
  refine⟨dy,λr C t=>⟨?_,?_⟩,λc k b=>?_,rfl,λr C _=>?_⟩
  rotate_right
  ·rw[Array.getElem?_push];grind
  ·rw[Array.getElem?_push];grind
  ·rintro(⟨c,k,b,rfl⟩|hr)
   ·by_cases i:c=h.size
    ·subst i;rw[jz]at b;grind
    ·rw[iV _ _ i]at b;exact t (.inl ⟨c,k,b,rfl⟩)
   ·exact t (.inr hr)
  ·have:c≠h.size:=by rintro rfl;rw[D]at b;grind
   exact⟨k,by rw[iV _ _ this];exact b,.inl rfl⟩
 refine⟨⟨?_,?_,?_,?_,?_,?_,?_,?_⟩,p,?_⟩
 ·show(m::h.fH).length=h.size+1;simp[d.wf]
 ·simp;have:=d.fit;omega
 ·intro c k b;by_cases i:c=h.size
  ·subst i;rw[jz]at b;simp at b;subst b;exact⟨m,H.tV d.wf m,E p⟩
  ·rw[iV _ _ i]at b;have⟨F,j,g⟩:=d.box c k b;refine⟨F,by rw[H.nj (d.fh b)];exact j,g.ext p ?_⟩;have:=d.lt b;rw[Array.getElem?_push];grind
 ·intro c s u v j g A;by_cases b:c=h.size<;>by_cases q:s=h.size
  ·omega
  ·subst b;rw[jz]at j;simp at j;subst j;rw[iV _ _ q]at g;have:=d.lt g;omega
  ·subst q;rw[jz]at g;simp at g;subst g;rw[iV _ _ b]at j;have:=d.lt j;omega
  ·rw[iV _ _ b]at j;rw[iV _ _ q]at g;exact d.inj c s u v j g A
 ·intro c k b;by_cases i:c=h.size
  ·subst i;rw[jz]at b;simp at b;subst b;rw[z];exact d.fit
  ·rw[iV _ _ i]at b;exact d.low c k b
 ·intro c k b hr;by_cases i:c=h.size
  ·subst i;rw[jz]at b;simp at b;subst b;have:=d.rm _ hr;omega
  ·rw[iV _ _ i]at b;exact d.apart c k b hr
 ·intro r hr;have:=d.rm r hr
  grind
 ·intro y x B;exact(d.zI y x B).ext p
 ·refine⟨by show h.size<=h.size+1;omega,λc b=>?_,λc j g=>?_⟩
  ·by_cases i:c=h.size
   ·right;exact⟨J,by show c<h.size+1;omega⟩
   grind [iV]
  ·have:c=h.size:=by have g:c<h.size+1:=g;omega
   subst this;rw[jz];simp
def Cm{c:Nat}{d:iY}(f:h.put c d=some h')(k:h.fH.length=h.size):
 h'.size=h.size/\h'.fH.length=h'.size/\h'.get c=some d/\∀b,b≠c->h'.get b=h.get b:=by
 obtain⟨g,i,rfl⟩:=H.wx.1 f;refine⟨rfl,by grind,?_,λb j=>?_⟩
 ·rw[H.get_eq];grind
 ·rw[H.get_eq,H.get_eq]
  grind
def St.change(d:St cx base hp μ h){f:Nat}{i L':Loc}{B:iY}(p:μ f=some i)(G:h.put f B=some h')(A:hp.size<=hp'.size)(x:∀n,n<hp.size->n≠i.jc->hp'[n]? =hp[n]?)
 (K:L'=i\/(i.ep<L'.ep/\(L'.jc=i.jc\/hp.size<=L'.jc))) (L:Ext hp μ hp' (rj μ f L')->ry hp' (rj μ f L') L' B):
 St cx base hp' (rj μ f L') h'/\Ext hp μ hp' (rj μ f L')/\yJ μ (rj μ f L') h.size h'.size:=by
 have⟨p1,p2,p3,p4⟩:=Cm G d.wf;have q:L'.jc=i.jc\/hp.size<=L'.jc:=by
  grind
 have u:Ext hp μ hp' (rj μ f L'):=by
  refine⟨A,λn v t=>⟨x n v λk=>t (.inl ⟨f,i,p,k.symm⟩),?_⟩,λc m b=>?_,rfl,λn v hr=>x n v λk=>d.apart f i p (k▸hr)⟩
  ·rintro(⟨c,m,b,rfl⟩|hr)
   ·by_cases g:c=f
    ·subst g;rw[jz]at b;simp at b;subst b;rcases q with k|k
     ·exact t (.inl ⟨c,i,p,k.symm⟩)
     ·omega
    ·rw[iV _ _ g]at b;exact t (.inl ⟨c,m,b,rfl⟩)
   ·exact t (.inr hr)
  ·by_cases g:c=f
   ·subst g;rw[p]at b;grind [jz]
   ·exact⟨m,by rw[iV _ _ g];exact b,.inl rfl⟩
 refine⟨⟨p2,by have:=d.fit;omega,?_,?_,?_,?_,λn hr=>bD (d.rm n hr) A,?_⟩,u,⟨J,λc b=>?_,λc j l=>by omega⟩⟩
 ·intro c m b;by_cases g:c=f
  ·subst g;rw[jz]at b;grind
  ·rw[iV _ _ g]at b;have⟨I,j,l⟩:=d.box c m b;refine⟨I,by rw[p4 c g];exact j,l.ext u (x _ (d.lt b) λk=>g (d.inj c f m i b p k))⟩
 ·intro c r y z j l E;by_cases b:c=f<;>by_cases s:r=f
  ·omega
  ·subst b;rw[jz]at j;simp at j;subst j;rw[iV _ _ s]at l;rcases q with k|k
   ·exact absurd (d.inj r c z i l p J) s
   ·have:=d.lt l;omega
  ·subst s;rw[jz]at l;simp at l;subst l;rw[iV _ _ b]at j;rcases q with k|k
   ·exact absurd (d.inj c r y i j p J) b
   ·have:=d.lt j;omega
  ·rw[iV _ _ b]at j;rw[iV _ _ s]at l;exact d.inj c r y z j l E
 ·intro c m b;by_cases g:c=f
  ·subst g;rw[jz]at b;simp at b;subst b;rcases q with k|k
   ·rw[k];exact d.low _ _ p
   ·have:=d.fit;omega
  ·rw[iV _ _ g]at b;exact d.low c m b
 ·intro c m b hr;by_cases g:c=f
  ·subst g;rw[jz]at b;simp at b;subst b;rcases q with k|k
   ·exact d.apart c i p (by rw[<-k];exact hr)
   ·have:=d.rm _ hr;omega
  ·rw[iV _ _ g]at b;exact d.apart c m b hr
 ·intro D C F;exact(d.zI D C F).ext u
 grind [iV]
end
end
section
section
variable {P:ai}{cx:Ctx}{base:Nat}{w:World}{μ:Mu}{h h':H}{mask:Nat}{e:Env}{a:Act}{o:Oper}{hp hp':af Obj}
theorem ju{b:aa (T×H)}{c:T}{h':H}:jI b=some (.val c h')↔b=some (c,h'):=by
 unfold jI;cases b with
 |none=>simp
 |some d=>obtain⟨g,f⟩:=d;simp
def xq(r:St cx base w.heap μ h)(b:ab){arr:af ao}{cap sz:Nat}{ex:Bool}{es:List T}(k:arr.size=cap*sz)(n:es.length<=cap)(l:ex=true->cap=es.length)
 (q:∀d∈es,d.cells.length=sz) (p:∀d∈fF es,d.scalar=true) (j:gU w.heap μ (fF es) (arr.toList.take (fF es).length)):
 ∃c,St cx base (w.heap.push (.cells arr b)) c (h.cons (lJ sz ex es))/\p7 w μ {w with heap:=w.heap.push (.cells arr b)} c/\yJ μ c h.size (h.cons (lJ sz ex es)).size/\
  c h.size=some ⟨0,w.heap.size,cap,sz⟩:=by
 have⟨f,g,i⟩:=r.new (.cells arr b) ⟨0,w.heap.size,cap,sz⟩ (lJ sz ex es) rfl (by
  intro m;refine⟨rfl,rfl,λ_=>⟨⟨arr,b,dy,k,j.ext m⟩,n,l,q,p⟩,λs=>by grind [lJ]⟩)
 exact⟨_,f,⟨g,rfl,rfl,rfl⟩,i,jz _ _ _⟩
def yP{b:T}(h:b.scalar=true):b.cells=[b]:=by
 cases b<;>first|rfl|grind [T.scalar]
def zJ{b:List T}(h:∀c∈b,c.scalar=true):fF b=b:=by
 induction b with
 |nil=>rfl
 |cons c b g=>
  have f:=yP (h c dy);have d:=g λi j=>h i (by grind);unfold fF at d|-;rw[cN,f,d];rfl
theorem GU(jq:jg P cx){g:ab}(x:St cx base w.heap μ h)(t:o.op= .alloc g){i:T}
 (b:DW g cx mask e h=some (.val i h')):jp cx base w μ h.size ((execOp a.eval o).run P w) i h':=by
 replace b:=dI.1 b;obtain⟨c,y,b⟩:=b;have⟨f,u,_,z,k,B,v,A,C⟩:=(jq.ty _ _ y).zero w;cases s:xv cx c with
 |false=>
  rw[s]at b;have b:jI (h.new (λj=>T.ptr j 0 0 0) (lJ c.size true [c.ku]))=some (.val i h'):=b;rw[ju,H.ly]at b;simp only[au,aD]at b;obtain⟨rfl,rfl⟩:=b;have⟨r,l,m,n,p⟩:=xq x g (arr:=f.cells) (cap:=1) (sz:=c.size) (ex:=true) (es:=[c.ku]) J dy dy
   (by intro q d;simp at d;subst d;rw[v];omega) (by intro q d;simp[fF]at d;rw[v]at d;grind)
   (by
     have:fF [c.ku]=c.zero:=by grind [fF]
     rw[this];have hl:f.cells.toList.take c.zero.length=f.cells.toList:=by grind [bJ]
     rw[hl];grind)
  refine⟨.pointer (some ⟨w.heap.size,0,none⟩),_,r,.inl ?_,.ptr _ 0 0 0 _ _ p (aw _) (λ_=>by simp),l,m,n⟩;simp[execOp,t,Instr.alloc,u,newVar,newRow]
 |true=>
  rw[s]at b;have b:jI (h.new (λj=>T.ptr j 0 0 0) (lJ 1 true c.zero))=some (.val i h'):=b;rw[ju,H.ly]at b;simp only[au,aD]at b;obtain⟨rfl,rfl⟩:=b;have⟨r,l,m,n,p⟩:=xq x g (arr:=f.cells) (cap:=c.zero.length) (sz:=1) (ex:=true) (es:=c.zero) J (aw _) (λ_=>rfl)
   (by intro q d;rw[yP (k q d)];rfl) (by rw[zJ k];omega)
   (by
     rw[zJ k];have hl:f.cells.toList.take c.zero.length=f.cells.toList:=by grind [bJ]
     rw[hl];grind)
  refine⟨.pointer (some ⟨w.heap.size,0,none⟩),_,r,.inl ?_,.ptr _ 0 0 0 _ _ p (aw _) (λ_=>by simp),l,m,n⟩;simp[execOp,t,Instr.alloc,u,newVar,newRow]
theorem KC{i:ab}{d:ah}(g:St cx base w.heap μ h)(s:kA w.heap μ mask e a.tmps)(m:o.op= .box i d){j:T}
 (b:NQ d cx mask e h=some (.val j h')):jp cx base w μ h.size ((execOp a.eval o).run P w) j h':=by
 replace b:=dI.1 b;obtain⟨c,hp,b⟩:=b;replace b:=dQ.1 b;obtain⟨k,b⟩:=b;rw[ju,H.ly]at b;simp only[au,aD]at b;obtain⟨rfl,rfl⟩:=b;have⟨f,u,_⟩:=(gY g s hp).cells k;have l:=f.1;have⟨t,n,p,q,r⟩:=xq g i (arr:=(a.eval d).cells) (cap:=1) (sz:=c.cells.length) (ex:=true) (es:=[c]) (by grind) dy dy
  dy (by grind [fF])
  (by
    have:fF [c]=c.cells:=by simp[fF]
    rw[this,l,aK];exact f)
 rw[jW];refine⟨.pointer (some ⟨w.heap.size,0,none⟩),_,t,.inl ?_,.ptr _ 0 0 0 _ _ r (aw _) (λ_=>by simp),n,p,q⟩;simp[execOp,m,Instr.box,newVar,newRow]
def SW(b c:List T):over b c=if c.length<=b.length then some (c++b.drop c.length)else none:=by
 induction c generalizing b with
 |nil=>rfl
 |cons i c f=>cases b with
  |nil=>rfl
  |cons j b=>
   show(dV (over b c) λg=>some (i::g))=_;rw[f];by_cases d:c.length<=b.length<;>simp[d]
def ud(b:List T)(c:Nat)(d:List T):kX b c d=if c+d.length<=b.length then some (b.take c++d++b.drop (c+d.length))else none:=by
 induction c generalizing b with
 |zero=>show over b d=_;rw[SW];simp
 |succ c j=>cases b with
  |nil=>show none=_;simp
  |cons f b=>
   show(dV (kX b c d) λk=>some (f::k))=_;rw[j];have g:c+1+d.length=(c+d.length)+1:=J;by_cases i:c+d.length<=b.length
   ·rw[ar i,ar (by grind),g];simp
   simp_all[aq]
def oR{b d f:List T}{c:Nat}(g:kX b c d=some f):c+d.length<=b.length/\f=b.take c++d++b.drop (c+d.length):=by
 rw[ud]at g
 grind
def Kn{d g f:List T}{j:Nat}(i:kX d j g=some f){c:T->Prop}(k:∀b∈d,c b)(l:∀b∈g,c b):∀b∈f,c b:=by
 obtain⟨_,rfl⟩:=oR i
 grind
def FZ{cells:af ao}{c:ao}{off:Nat}(k:off+c.cells.size<=cells.size):
 (c.cells.zipIdx.foldl (λd (b:ao×Nat)=>d.setIfInBounds (off+b.2) b.1) cells).toList=cells.toList.take off++c.cells.toList++cells.toList.drop (off+c.cells.size):=by
 have g:c.cells.zipIdx.foldl (λd (b:ao×Nat)=>d.setIfInBounds (off+b.2) b.1) cells=(c.cells.toList.zipIdx 0).foldl (λd (b:ao×Nat)=>d.setIfInBounds (off+b.2) b.1) cells:=by
  rw[<-Array.foldl_toList,Array.toList_zipIdx]
 rw[g];have⟨j,f⟩:=Great.foldl_set off c.cells.toList 0 cells;apply cB;intro i;have:=f i;rw[<-Array.getElem?_toList]at this;rw[this]
 grind
def Ee(place:Nat->aa (Nat×Nat))(b:Nat×T)(d:List (Nat×T))(c:List T):
 mP place (b::d) c=dV (place b.1) λf=>gJ (Nat.beq (kY b.2.cells) f.2) (dV (kX c f.1 b.2.cells) λg=>mP place d g):=rfl
def Oc(hp:af Obj)(μ:Mu)(g:List (Nat×T))(qs:List (Nat×ao)):Prop:=
 g.length=qs.length/\∀(f:Nat) d b,g[f]? =some (d,b)->∃c,qs[f]? =some (d,c)/\fI hp μ b c/\b.iy=true
def Oc.mt{b:Nat×T}{g:List (Nat×T)}{qs:List (Nat×ao)}(h:Oc hp μ (b::g) qs):∃c i,qs=(b.1,c)::i/\fI hp μ b.2 c/\b.2.iy=true/\Oc hp μ g i:=by
 obtain⟨hl,f⟩:=h;cases qs with
 |nil=>grind
 |cons p qs=>
  have⟨c,d,hr,j⟩:=f 0 b.1 b.2 dy;simp at d;subst d;exact⟨c,qs,rfl,hr,j,by grind,λl k m n=>by simpa using f (l+1) k m (by grind)⟩
def xN(v:St cx base w.heap μ h)(u:kA w.heap μ mask e a.tmps){c:List (Nat×ah)}{l:List (Nat×T)}(i:partsOf cx mask e c=some l):
 Oc w.heap μ l (c.map λk=>(k.1,a.eval k.2)):=by
 unfold partsOf at i;have⟨hl,n⟩:=sk.1 i;refine⟨by grind,λd s f q=>?_⟩;have x:d<c.length:=by
  grind
 have⟨y,g,b⟩:=n d c[d] dy;rw[q]at g;simp at g;subst g;rcases p:c[d]with⟨t,j⟩;rw[p]at b;have b:(dV (fO cx mask e j) λf=>gJ f.iy (some (t,f)))=some (s,f):=b;have⟨z,r,b⟩:=dI.1 b;have⟨m,b⟩:=dQ.1 b;simp at b;obtain⟨rfl,rfl⟩:=b;exact⟨a.eval j,by grind,gY v u r,m⟩
def vz{place place':Nat->aa (Nat×Nat)}(G:∀t f,place t=some f->place' t=some f):∀(k:List (Nat×T)) (qs:List (Nat×ao)) (d g:List T) (cells:af ao),
 Oc hp μ k qs->gU hp μ d cells.toList->(∀n∈d,n.scalar=true)->mP place k d=some g->
 ∃j,Instr.fill place' cells qs=some j/\gU hp μ g j.toList/\(∀n∈g,n.scalar=true)/\j.size=cells.size:=by
 intro k;induction k with
 |nil=>
  intro qs d g cells hp i m b;have:qs=[]:=bg hp.1.symm;subst this;have:g=d:=by grind [mP]
  subst this;exact⟨cells,rfl,i,m,rfl⟩
 |cons S k K=>
  intro qs d g cells z i m b;obtain⟨c,Q,rfl,hr,D,A⟩:=z.mt;rw[Ee]at b;have⟨f,I,b⟩:=dI.1 b;have⟨hl,b⟩:=dQ.1 b;have⟨q,r,b⟩:=dI.1 b;have⟨p,v,_⟩:=hr.cells D;have F:=aG hl;rw[jW]at F;have⟨R,C⟩:=oR r;have x:=i.1;have l:=p.1;simp only[cC]at x l;have E:f.1+c.cells.size<=cells.size:=J;have s:=FZ (cells:=cells) (c:=c) E;have y:gU hp μ q (c.cells.zipIdx.foldl (λd (u:ao×Nat)=>d.setIfInBounds (f.1+u.2) u.1) cells).toList:=by
   rw[s,C,<-l];exact((i.take f.1).append p).append (by rw[l];exact i.drop _)
  have⟨j,L,M,N,O⟩:=K Q q g _ A y (Kn r m v) b;refine⟨j,?_,M,N,?_⟩
  ·simp only[Instr.fill,G _ _ I];have B:¬(c.cells.size≠f.2||decide (f.1+c.cells.size>cells.size))=true:=by grind
   rw[aq B];exact L
  ·rw[O];have:=bE List.length s
   grind
