/- TiBase -/
import Derived.Test.YtmoiekepclmgbaaGreatDoorA0
import Derived.IntWalk
import Derived.Calls
import Derived.Laws.CopyRow
import Derived.Laws.Cells
import Derived.Laws.Entries
import Derived.WalkCall
import Derived.Laws.Strings
import Derived.Lib.Strings
import Derived.Laws.StructEq
import Derived.ChangeKeysEq
import Derived.Great.FillDense
set_option linter.all false
namespace Go.TI
abbrev G(n:Int):T:=.int .i64 n
abbrev dR:T:=.ed [] false
abbrev dS(s v:Nat)(e:List T):jv:=⟨s,0,v,true,false,e⟩
@[simp] abbrev dT(v:iz)(n:Nat)(t:T):Prop:=TI.d8 v n=some t
end Go.TI
namespace Go.TI
noncomputable section
section
@[simp]theorem eJ {α β:Type} (a:α) (b:α->aa β):Z (some a) b=b a:=rfl
@[simp]theorem ae1 {α β:Type} (a:α->aa β):Z (none:aa α) a=none:=rfl
theorem dX{α β:Type}{a:aa α}{c:α->aa β}{d:β}:Z a c=some d↔∃b,a=some b/\c b=some d:=by
 cases a<;>simp
@[simp]theorem iR {α:Type} (a:aa α):iG true a=a:=rfl
@[simp]theorem Qx {α:Type} (a:aa α):iG false a=none:=rfl
theorem ew{α:Type}{a:Bool}{b:aa α}{c:α}:iG a b=some c↔a=true/\b=some c:=by
 cases a<;>simp
@[simp]theorem lQ {α β d:Type} (a:α) (b:β) (c:α->β->d):two (a,b) c=c a b:=rfl
@[simp]theorem mW {e:Type} (d:Ex) (a:Env) (c:H) (b:Ex->Env->H->e):three (d,a,c) b=b d a c:=rfl
section lists
variable {α β:Type}
@[simp]def lI (b:List α) (a:Nat):nJ b a=b[a]? :=by
 induction b generalizing a with
 |nil=>rfl
 |cons e d c=>cases a with
  |zero=>rfl
  |succ a=>exact(c a).trans Y 
def lZ(b:List α)(a:Nat)(c:α):lU b a c=if a<b.length then some (b.set a c)else none:=by
 induction b generalizing a with
 |nil=>rfl
 |cons h d f=>cases a with
  |zero=>rfl
  |succ a=>
   show(Z (lU d a c) λg=>some (h::g))=_;rw[f];by_cases e:a<d.length<;>simp[e]
theorem pj(a:Nat)(b:List α):takeN a b=if a<=b.length then some (b.take a)else none:=by
 induction a generalizing b with
 |zero=>rfl
 |succ a e=>cases b with
  |nil=>rfl
  |cons g c=>
   show(Z (takeN a c) λf=>some (g::f))=_;rw[e];by_cases d:a<=c.length<;>simp[d]
def nd(a:Nat)(b:List α):kH a b=if a<=b.length then some (b.drop a)else none:=by
 induction a generalizing b with
 |zero=>rfl
 |succ a e=>cases b with
  |nil=>rfl
  |cons f c=>
   show kH a c=_;rw[e];by_cases d:a<=c.length<;>simp[d]
@[simp]theorem kq (a:List α):ml a=a.length:=by
 induction a with
 |nil=>rfl
 |cons d c b=>show Nat.succ (ml c)=_;rw[b];rfl
@[simp]theorem qz (a b:List α):GA a b=some (a++b):=by
 induction a with
 |nil=>rfl
 |cons f d c=>show(Z (GA d b) λe=>some (f::e))=_;rw[c];rfl
theorem kl(a:α->aa β)(c:α)(b:List α):iu a (c::b)=Z (a c) λe=>Z (iu a b) λd=>some (e::d):=rfl
@[simp]theorem Z8 (a:α->aa β):iu a []=some []:=rfl
def ul{e:α->aa β}{b:List α}{a:List β}:iu e b=some a↔b.length=a.length/\∀(c:Nat) d,b[c]? =some d->∃f,a[c]? =some f/\e d=some f:=by
 induction b generalizing a with
 |nil=>
  constructor
  ·simp_all
  ·rintro⟨g,_⟩;simp at g;simp[aW g.symm]
 |cons d b k=>
  rw[kl];constructor
  ·grind [dX]
  ·rintro⟨hl,h⟩;cases a with
   |nil=>grind
   |cons f a=>
    have⟨n,i,j⟩:=h 0 d Y;simp at i;subst i;have:iu e b=some a:=k.2 ⟨by grind,λc l m=>by simpa using h (c+1) l (by grind)⟩;rw[j,this];rfl
@[simp]theorem rx (b:α) (a:Nat):qS b a=List.replicate a b:=by
 induction a with
 |zero=>rfl
 |succ a c=>show b::qS b a=_;rw[c];rfl
@[simp]def BD (a:α->Bool) (b:List α):y8 a b=b.all a:=by
 induction b with
 |nil=>rfl
 |cons c b e=>
  show @Bool.rec (λ_=>Bool) false (y8 a b) (a c)=_;rw[e];cases d:a c<;>simp[d]
end lists
@[simp]theorem jd (a:Nat):iQ a=some a:=by cases a<;>rfl
@[simp]theorem Z3 (b:Int):NS b=some b:=by
 cases b with
 |ofNat a=>cases a<;>rfl
 |negSucc a=>cases a<;>rfl
@[simp]def qg (a:ak) (b:Int):zU a b=some (.int a b):=by simp[zU]
@[simp]theorem uf (a:Bool):zf a=some (.bool a):=by cases a<;>rfl
@[simp]def Ak (a b:ak):(F8 a b=true)↔a=b:=by cases a<;>cases b<;>decide
def Ah(c b:Int):NY c b=decide (c<b):=by
 cases c with
 |ofNat d=>cases b with
  |ofNat a=>
   show Nat.blt d a=_;rw[bE,aJ];simp
  |negSucc a=>rfl
 |negSucc d=>cases b with
  |ofNat a=>show true=_;grind
  |negSucc a=>
   show Nat.blt a d=_;rw[bE,aJ];grind
def An(c b:Int):U7 c b=(c==b):=by
 cases c with
 |ofNat d=>cases b with
  |ofNat a=>
   show Nat.beq d a=_;rw[bE,Nat.beq_eq];grind
  |negSucc a=>rfl
 |negSucc d=>cases b with
  |ofNat a=>rfl
  |negSucc a=>
   show Nat.beq d a=_;rw[bE,Nat.beq_eq];simp
def kh(c:ak)(d:Int):No c d=c.wrap d:=by
 cases c<;>try rfl
 cases d with
 |ofNat a=>
  show @Bool.rec (λ_=>Int) (IntKind.i64.wrap (.ofNat a)) (Int.ofNat a) (Nat.ble a 9223372036854775807)=_;cases b:Nat.ble a 9223372036854775807
  ·rfl
  ·have:=aY b;show Int.ofNat a=_;exact(IntWalk.i64_in _ (by grind)).symm
 |negSucc a=>
  show @Bool.rec (λ_=>Int) (IntKind.i64.wrap (.negSucc a)) (Int.negSucc a) (Nat.ble a 9223372036854775807)=_;cases b:Nat.ble a 9223372036854775807
  ·rfl
  ·have:=aY b;show Int.negSucc a=_;exact(IntWalk.i64_in _ D).symm
@[simp]def AJ (a:ak) (b:Int):rS a b=some (.int a (a.wrap b)):=by simp[rS,kh]
def IA(b a:List Nat):YG b a=(b==a):=by
 induction b generalizing a with
 |nil=>cases a<;>rfl
 |cons c b f=>cases a with
  |nil=>rfl
  |cons d a=>
   show @Bool.rec (λ_=>Bool) false (YG b a) (Nat.beq c d)=_;rw[f];rw[List.cons_beq_cons];cases e:Nat.beq c d
   ·have:(c==d)=false:=by rw[<-Bool.not_eq_true,beq_iff_eq,<-Nat.beq_eq];simp[e]
    grind
   simp_all
theorem H.get_eq(b:H)(a:Nat):b.get a=if a<b.size then b.gU[b.size-1-a]? else none:=by
 obtain⟨d,f,e⟩:=b;show iG (Nat.blt a d) (nJ e _)=_;by_cases c:a<d
 ·have:Nat.blt a d=true:=by rw[aJ];exact c
  simp[this,c]
 ·have:Nat.blt a d=false:=by rw[<-Bool.not_eq_true,aJ];exact c
  simp[this,c]
def H.Tg(b:Nat->T)(a:H)(c:jv):a.new b c=some (b a.size,⟨a.size+1,a.low,c::a.gU⟩):=by
 obtain⟨d,f,e⟩:=a;show(Z (iQ (Nat.succ d)) λg=>some (b d,(⟨g,f,c::e⟩:H)))=_;simp
def H.x8{b j:H}{a:Nat}{i:jv}:b.put a i=some j↔
 a<b.size/\b.size-1-a<b.gU.length/\j=⟨b.size,if a<b.low then a else b.low,b.gU.set (b.size-1-a) i⟩:=by
 obtain⟨d,c,l⟩:=b;show iG (Nat.blt a d) (Z (lU l (d-1-a) i) λe=> @Bool.rec (λ_=>aa H) (some (⟨d,c,e⟩:H)) (some ⟨d,a,e⟩) (Nat.blt a c))=_↔_;rw[ew,aJ,lZ];constructor
 ·rintro⟨g,m⟩;obtain⟨e,f,k⟩:=dX.1 m;split at f
  ·rename_i hl;simp at f;subst f;refine⟨g,hl,?_⟩;by_cases h:a<c
   ·have:Nat.blt a c=true:=by rw[aJ];omega
    rw[this]at k;grind
   ·have:Nat.blt a c=false:=by rw[<-Bool.not_eq_true,aJ];omega
    rw[this]at k;grind
  grind
 ·rintro⟨g,hl,rfl⟩;refine⟨g,?_⟩;simp only[]at hl;rw[aq hl];by_cases h:a<c
  ·have:Nat.blt a c=true:=by rw[aJ];omega
   simp[this,h]
  ·have:Nat.blt a c=false:=by rw[<-Bool.not_eq_true,aJ];omega
   simp[this,h]
end
structure Loc where
 ep:Nat
 jz:Nat
 cap:Nat
 sz:Nat
structure Mu where
 loc:Nat->aa Loc
 qD:Nat->Prop
instance :CoeFun Mu (λ_=>Nat->aa Loc):=⟨Mu.loc⟩
def oU(c:Mu)(b:Nat):Prop:=(∃d a,c d=some a/\a.jz=b)\/c.qD b
def T.scalar:T->Bool
 | .undef| .agg _| .tuple _=>false
 |_=>true
inductive ll:T->Prop where
 |bool (b:Bool):ll (.bool b)
 |int (k:ak) (n:Int):ll (.int k n)
 |str (s:List Nat):ll (.str s)
 |lr:ll .lr
 |j9 (cs:List T) (h:∀v∈cs,ll v):ll (.j9 cs)
 |ed (es:List T) (full:Bool) (h:∀v∈es,ll v):ll (.ed es full)
 |iO:ll .iO
 |lV:ll .lV
 |ma:ll .ma
 |agg (cs:List T) (h:∀v∈cs,ll v):ll (.agg cs)
def xE(a:T):Prop:=a.scalar=true/\ll a
def gH(a:List T):List T:=a.flatMap T.cells
def bytesOf(a:List Nat):ByteArray:=⟨(a.map UInt8.ofNat).toArray⟩
inductive gW (hp:af Obj) (μ:Mu):T->am->Prop where
 |undef:gW hp μ .undef (.tuple #[])
 |bool (b:Bool):gW hp μ (.bool b) (.bool b)
 |int (k:ak) (n:Int):gW hp μ (.int k n) (.int k n)
 |str (s:List Nat) (h:∀c∈s,c<256):gW hp μ (.str s) (.string (bytesOf s))
 |lr:gW hp μ .lr (.pointer none)
 |ptr (b ep i j:Nat) (L:Loc) (a:Addr) (hb:μ b=some L) (he:ep<=L.ep) (ha:ep=L.ep->a=⟨L.jz,i*L.sz+j,none⟩):
  gW hp μ (.ptr b ep i j) (.pointer (some a))
 |j9 (cells:List T) (jz off:Nat) (arr:af am) (t:ab) (fz:Nat×Nat) (hn:¬oU μ jz) (hh:hp[jz]? =some (.cells arr t fz))
  (hs:off+cells.length<=arr.size) (hc:∀v∈cells,xE v)
  (hr:∀(k:Nat) v,cells[k]? =some v->gW hp μ v (arr.getD (off+k) Go.undef)):gW hp μ (.j9 cells) (.pointer (some ⟨jz,off,none⟩))
 |ph (full:Bool) (a:aa Addr):gW hp μ (.ed [] full) (.slice a 0 0)
 |ed (e:T) (es:List T) (full:Bool) (jz off cap sz:Nat) (arr:af am) (t:ab) (fz:Nat×Nat) (hn:¬oU μ jz)
  (hh:hp[jz]? =some (.cells arr t fz)) (hl:es.length+1<=cap) (hf:full=true->cap=es.length+1)
  (hu:∀v∈e::es,v.cells.length=sz) (hs:off+(gH (e::es)).length<=arr.size) (hc:∀v∈gH (e::es),xE v)
  (hr:∀(k:Nat) v,(gH (e::es))[k]? =some v->gW hp μ v (arr.getD (off+k) Go.undef)):
  gW hp μ (.ed (e::es) full) (.slice (some ⟨jz,off,none⟩) (es.length+1) cap)
 |iO (a:aa Addr) (cap:Nat):gW hp μ .iO (.slice a 0 cap)
 |arr (b ep o l:Nat) (full:Bool) (L:Loc) (a:aa Addr) (cp:Nat) (hb:μ b=some L) (he:ep<=L.ep) (hl:l<=cp)
  (h:ep=L.ep->(full=true->cp=l)/\(full=false->o+cp=L.cap)/\(cp≠0->a=some ⟨L.jz,o*L.sz,none⟩)):
  gW hp μ (.arr b ep o l full) (.slice a l cp)
 |func (f:aj) (caps:List T) (cs:af am) (hs:cs.size=caps.length)
  (hr:∀(k:Nat) v,caps[k]? =some v->gW hp μ v (cs.getD k Go.undef)):gW hp μ (.func f caps) (.func (.func f) #[] cs)
 |lV:gW hp μ .lV .nilFunc
 |ma:gW hp μ .ma .nilIface
 |iface (t:ab) (v:T) (c:am) (h:gW hp μ v c):gW hp μ (.iface t v) (.iface t c)
 |iter (b:Nat) (L:Loc) (a:Addr) (hb:μ b=some L) (h:L.ep=0->a=⟨L.jz,0,none⟩):gW hp μ (.iter b) (.pointer (some a))
 |map (b:Nat) (L:Loc) (i:Nat) (hb:μ b=some L) (h:L.ep=0->i=L.jz):gW hp μ (.map b) (.map (some i))
 |po:gW hp μ .po (.map none)
 |agg (cells:List T) (cs:af am) (hs:cs.size=cells.length) (hc:∀v∈cells,v.scalar=true)
  (hr:∀(k:Nat) v,cells[k]? =some v->gW hp μ v (cs.getD k Go.undef)):gW hp μ (.agg cells) (.agg cs)
 |tuple (vs:List T) (cs:af am) (hs:cs.size=vs.length)
  (hr:∀(k:Nat) v,vs[k]? =some v->gW hp μ v (cs.getD k Go.undef)):gW hp μ (.tuple vs) (.tuple cs)
structure Ext(hp:af Obj)(μ:Mu)(hp':af Obj)(μ':Mu):Prop where
 size:hp.size<=hp'.size
 o7:∀i,i<hp.size->¬oU μ i->hp'[i]? =hp[i]? /\¬oU μ' i
 mu:∀b L,μ b=some L->∃L',μ' b=some L'/\(L'=L\/L.ep<L'.ep)
 qD:μ'.qD=μ.qD
 kept:∀i,i<hp.size->μ.qD i->hp'[i]? =hp[i]?
structure rk(w:World)(μ:Mu)(w':World)(μ':Mu):Prop where
 ext:Ext w.heap μ w'.heap μ'
 os:w'.os=w.os
 tape:w'.tape=w.tape
 output:w'.output=w.output
def Ext.refl(b:af Obj)(c:Mu):Ext b c b c:=⟨au _,λ_ _ a=>⟨rfl,a⟩,λ_ d a=>⟨d,a,.inl rfl⟩,rfl,λ_ _ _=>rfl⟩
def Ext.trans{hp f g:af Obj}{h i j:Mu}(a:Ext hp h f i)(d:Ext f i g j):Ext hp h g j:=by
 refine⟨aQ a.size d.size,λc b o=>?_,λe k n=>?_,d.qD.trans a.qD,λc b hr=>?_⟩
 rotate_right
 ·rw[d.kept c (bF b a.size) (by rw[a.qD];exact hr),a.kept c b hr]
 ·have⟨r,p⟩:=a.o7 c b o;have⟨s,u⟩:=d.o7 c (bF b a.size) p
  grind
 ·have⟨l,m,r1⟩:=a.mu e k n;have⟨q,t,r2⟩:=d.mu e l m
  grind
def rk.refl(a:World)(b:Mu):rk a b a b:=⟨Ext.refl _ _,rfl,rfl,rfl⟩
def rk.trans{c w1 d:World}{e f g:Mu}(a:rk c e w1 f)(b:rk w1 f d g):rk c e d g:=
 ⟨a.ext.trans b.ext,b.os.trans a.os,b.tape.trans a.tape,b.output.trans a.output⟩
def EU{a:af Obj}{b:Nat}{c:Obj}(d:a[b]? =some c):b<a.size:=by
 grind
def gW.ext{A B:af Obj}{C E:Mu}{t:T}{s:am}(i:gW A C t s)(j:Ext A C B E):gW B E t s:=by
 induction i with
 |undef=>exact .undef
 |bool a=>exact .bool a
 |int O p=>exact .int O p
 |str S i=>exact .str S i
 |lr=>exact .lr
 |ptr a x z N e c g K W=>
  have⟨f,h,r⟩:=j.mu a e g;refine .ptr a x z N f c h ?_ ?_
  ·rcases r with rfl|r<;>omega
  grind
 |j9 v k off arr q fz y o d n _ b=>
  have⟨w,p⟩:=j.o7 k (EU o) y;exact .j9 v k off arr q fz p (w.trans o) d n b
 |ph m c=>exact .ph m c
 |ed w I m k off u U arr q fz y o hl L M d n _ b=>
  have⟨R,p⟩:=j.o7 k (EU o) y;exact .ed w I m k off u U arr q fz p (R.trans o) hl L M d n b
 |iO c u=>exact .iO c u
 |arr a x Q P m e c H g K hl i=>
  have⟨f,h,r⟩:=j.mu a e g;refine .arr a x Q P m f c H h ?_ hl ?_
  ·rcases r with rfl|r<;>omega
  grind
 |func J F l d _ b=>exact .func J F l d b
 |lV=>exact .lV
 |ma=>exact .ma
 |iface q t s _ b=>exact .iface q t s b
 |iter a e c g i=>
  have⟨f,h,r⟩:=j.mu a e g;refine .iter a f c h ?_
  grind
 |map a e z g i=>
  have⟨f,h,r⟩:=j.mu a e g;refine .map a f z h ?_
  grind
 |po=>exact .po
 |agg v l d n _ b=>exact .agg v l d n b
 |tuple V l d _ b=>exact .tuple V l d b
def iJ(e:af Obj)(f:Mu)(d:List T)(a:List am):Prop:=
 d.length=a.length/\∀(b:Nat) c,d[b]? =some c->gW e f c (a.getD b Go.undef)
def iJ.ext{c d:af Obj}{f g:Mu}{e:List T}{a:List am}(b:iJ c f e a)(k:Ext c f d g):iJ d g e a:=
 ⟨b.1,λi j h=>(b.2 i j h).ext k⟩
theorem iJ.nil{a:af Obj}{b:Mu}:iJ a b [] []:=⟨rfl,λd e c=>by grind⟩
theorem iJ.cons{a:af Obj}{c:Mu}{h:T}{d:am}{i:List T}{e:List am}(k:gW a c h d)(f:iJ a c i e):iJ a c (h::i) (d::e):=by
 refine⟨by simp[f.1],λb j g=>?_⟩;cases b with
 |zero=>grind
 |succ b=>simp at g;simpa using f.2 b j g
def iJ.nl{d:af Obj}{f:Mu}{e:T}{g:List T}{c:List am}(h:iJ d f (e::g) c):∃a b,c=a::b/\gW d f e a/\iJ d f g b:=by
 obtain⟨hl,hr⟩:=h;cases c with
 |nil=>grind
 |cons a b=>exact⟨a,b,rfl,by simpa using hr 0 e Y,by grind,λi j k=>by simpa using hr (i+1) j (by grind)⟩
theorem iJ.append{c:af Obj}{d:Mu}{a g:List T}{b e:List am}(f:iJ c d a b)(j:iJ c d g e):iJ c d (a++g) (b++e):=by
 induction a generalizing b with
 |nil=>obtain⟨hl,_⟩:=f;simp at hl;rw[aW hl.symm];grind
 |cons n a m=>obtain⟨h,i,rfl,l,k⟩:=f.nl;grind [iJ.cons]
def iJ.take{e:af Obj}{f:Mu}{a:List T}{c:List am}(d:iJ e f a c)(b:Nat):iJ e f (a.take b) (c.take b):=by
 induction b generalizing a c with
 |zero=>simp[iJ.nil]
 |succ b k=>cases a with
  |nil=>obtain⟨hl,_⟩:=d;simp at hl;rw[aW hl.symm];simp[iJ.nil]
  |cons l a=>obtain⟨g,h,rfl,j,i⟩:=d.nl;grind [iJ.cons]
def iJ.drop{e:af Obj}{f:Mu}{a:List T}{c:List am}(d:iJ e f a c)(b:Nat):iJ e f (a.drop b) (c.drop b):=by
 induction b generalizing a c with
 |zero=>grind
 |succ b j=>cases a with
  |nil=>obtain⟨hl,_⟩:=d;simp at hl;rw[aW hl.symm];simp[iJ.nil]
  |cons k a=>obtain⟨g,h,rfl,_,i⟩:=d.nl;grind
def iJ.get{d:af Obj}{f:Mu}{e:List T}{a:List am}(c:iJ d f e a){k:Nat}{v:T}(h:e[k]? =some v):∃b,a[k]? =some b/\gW d f v b:=by
 have g:k<a.length:=by
  rw[<-c.1]
  grind
 refine⟨a[k],Y,?_⟩;simpa[List.getD,g]using c.2 k v h
theorem t7{d:af Obj}{f:Mu}{b:T}{a:am}(c:gW d f b a)(e:b.scalar=true):a.oneCell'=true:=by
 cases c<;>first|rfl|(simp[T.scalar]at e)
theorem gW.cells{o:af Obj}{q:Mu}{b:T}{c:am}(d:gW o q b c)(W:b.iN=true):
 iJ o q b.cells c.cells.toList/\(∀h∈b.cells,h.scalar=true)/\∀h∈c.cells.toList,h.oneCell'=true:=by
 have a:∀{b:T} {c:am},gW o q b c->b.scalar=true->b.cells=[b]->c.cells= #[c]->
  iJ o q b.cells c.cells.toList/\(∀h∈b.cells,h.scalar=true)/\∀h∈c.cells.toList,h.oneCell'=true:=by
  intro b c d k z i;rw[z,i]
  grind [iJ.nil,iJ.cons,t7]
 cases d with
 |agg m r k i hr=>
  have H:iJ o q m r.toList:=⟨by grind,λl b z=>by simp_all⟩;refine⟨H,i,?_⟩;intro h N;have M:h∈r.toList:=N;obtain⟨l,X,rfl⟩:=dy M;have K:l<m.length:=by grind
  have:=hr l m[l] Y;have V:=t7 this (i _ (aC K));simp_all
 |undef=>grind [T.iN]
 |tuple=>grind [T.iN]
 |bool f=>exact a (.bool f) rfl rfl rfl
 |int l Q=>exact a (.int l Q) rfl rfl rfl
 |str S g=>exact a (.str S g) rfl rfl rfl
 |lr=>exact a .lr rfl rfl rfl
 |ptr f u y O j e g v I=>exact a (.ptr f u y O j e g v I) rfl rfl rfl
 |j9 m s off arr p fz x w k i hr=>exact a (.j9 m s off arr p fz x w k i hr) rfl rfl rfl
 |ph n e=>exact a (.ph n e) rfl rfl rfl
 |ed C E n s off t U arr p fz x w hl J L k i hr=>exact a (.ed C E n s off t U arr p fz x w hl J L k i hr) rfl rfl rfl
 |iO e t=>exact a (.iO e t) rfl rfl rfl
 |arr f u R P n j e B g v hl d=>exact a (.arr f u R P n j e B g v hl d) rfl rfl rfl
 |func F A r k hr=>exact a (.func F A r k hr) rfl rfl rfl
 |lV=>exact a .lV rfl rfl rfl
 |ma=>exact a .ma rfl rfl rfl
 |iface p b c d=>exact a (.iface p b c d) rfl rfl rfl
 |iter f j e g d=>exact a (.iter f j e g d) rfl rfl rfl
 |map f j y g d=>exact a (.map f j y g d) rfl rfl rfl
 |po=>exact a .po rfl rfl rfl
structure BK(hp:af Obj)(μ:Mu)(L:Loc)(vC:Bool)(fR:List T):Prop where
 row:∃arr t,hp[L.jz]? =some (.cells arr t (0,0))/\arr.size=L.cap*L.sz/\iJ hp μ (gH fR) (arr.toList.take (gH fR).length)
 room:fR.length<=L.cap
 vC:vC=true->L.cap=fR.length
 size:∀v∈fR,v.cells.length=L.sz
 scalar:∀v∈gH fR,v.scalar=true
def afj(c:af Obj)(i:Mu)(j:Loc)(e:List T):Prop:=
 ∃a:af MapEntry,c[j.jz]? =some (.map a a.size)/\a.size=e.length/\
  ∀(d:Nat) h,e[d]? =some h->∃f g b,h= .tuple [f,g]/\a[d]? =some b/\b.born=d/\gW c i f b.key/\gW c i g b.val
def afk(c:af Obj)(i:Mu)(g:Loc)(h:List T):Prop:=
 ∃e d f b a,h=[.map e,.int .i64 (.ofNat f),.int .i64 (.ofNat b),.int .i64 (.ofNat a)]/\gW c i (.map e) (.map (some d))/\b<=a/\
  c[g.jz]? =some (.mapIter (some d) b (Array.range f) a)
structure s7(hp:af Obj)(μ:Mu)(L:Loc)(x:jv):Prop where
 ep:x.ep=L.ep
 sz:x.sz=L.sz
 plain:x.it=false->BK hp μ L x.exact x.fR
 iter:x.it=true->x.ep=0/\((∃s pos,x.fR=[.str s,.int .i64 (.ofNat pos)]/\(∀c∈s,c<256)/\hp[L.jz]? =some (.stringIter (bytesOf s) pos))\/afj hp μ L x.fR\/afk hp μ L x.fR)
structure St(cx:Ctx)(base:Nat)(hp:af Obj)(μ:Mu)(h:H):Prop where
 wf:h.gU.length=h.size
 fit:base<=hp.size
 box:∀b L,μ b=some L->∃x,h.get b=some x/\s7 hp μ L x
 inj:∀b b' L L',μ b=some L->μ b'=some L'->L.jz=L'.jz->b=b'
 low:∀b L,μ b=some L->base<=L.jz
 apart:∀b L,μ b=some L->¬μ.qD L.jz
 sY:∀i,μ.qD i->i<hp.size
 Bl:∀g cs,cx.gl g=some cs->gW hp μ (.j9 cs) (.pointer (some ⟨g,0,none⟩))
def BK.ext{c d:af Obj}{g h:Mu}{b:Loc}{f:Bool}{e:List T}(a:BK c g b f e)(j:Ext c g d h)(n:d[b.jz]? =c[b.jz]?):BK d h b f e:=by
 have⟨i,o,k,l,m⟩:=a.row;exact⟨⟨i,o,n.trans k,l,m.ext j⟩,a.room,a.vC,a.size,a.scalar⟩
def s7.ext{j k:af Obj}{n o:Mu}{b:Loc}{h:jv}(d:s7 j n b h)(c:Ext j n k o)(i:k[b.jz]? =j[b.jz]?):s7 k o b h:=
 ⟨d.ep,d.sz,λa=>(d.plain a).ext c i,λa=>by
   obtain⟨l,⟨F,m,e,f,g⟩|⟨q,e,f,g⟩|⟨A,z,m,C,p,e,f,g,w⟩⟩:=d.iter a
   ·grind
   ·refine⟨l,.inr (.inl ⟨q,i.trans e,f,λy h x=>?_⟩)⟩;have⟨a,E,B,r,s,t,u,v⟩:=g y h x;exact⟨a,E,B,r,s,t,u.ext c,v.ext c⟩
   ·exact⟨l,.inr (.inr ⟨A,z,m,C,p,e,f.ext c,g,i.trans w⟩)⟩⟩
def s7.lt{d:af Obj}{g:Mu}{a:Loc}{e:jv}(b:s7 d g a e):a.jz<d.size:=by
 cases c:e.it with
 |false=>have⟨h,m,f,_⟩:=(b.plain c).row;grind
 |true=>
  obtain⟨_,⟨s,l,_,_,j⟩|⟨i,f,_⟩|⟨_,_,_,_,_,_,_,_,k⟩⟩:=b.iter c
  ·grind
  ·grind
  grind
def St.lt{cx:Ctx}{e:Nat}{c:af Obj}{d:Mu}{f:H}(s:St cx e c d f){b:Nat}{a:Loc}(g:d b=some a):a.jz<c.size:=by
 have⟨i,_,h⟩:=s.box b a g;exact h.lt
section
section
variable {P:ai}{cx:Ctx}
structure xm(P:ai)(t:ab)(ty:Ty):Prop where
 is:∃cmp,Y5 P t cmp=some ty
def kj{a:Nat}(b:a<256):(UInt8.ofNat a).toNat=a:=by
 simp_all
def QC(a:List UInt8):Cv a=some (a.map UInt8.toNat):=by
 induction a with
 |nil=>rfl
 |cons d a b=>
  show(Z (iQ d.toNat) λe=>Z (Cv a) λc=>some (e::c))=_;rw[b];simp
def zH(a:ByteArray):bytesOf (a.data.toList.map UInt8.toNat)=a:=by
 unfold bytesOf;rw[List.map_map];have:(UInt8.ofNat∘UInt8.toNat)=id:=by funext b;simp
 rw[this];simp
theorem gW.pK{hp:af Obj}{μ:Mu}{d:am}{b:T}(a:pK d=some b):gW hp μ b d/\b.scalar=true:=by
 unfold TI.pK at a;split at a
 ·simp at a;subst a;exact⟨.bool _,rfl⟩
 ·simp at a;subst a;exact⟨.int _ _,rfl⟩
 ·rename_i f;rw[QC]at a;simp at a;subst a;refine⟨?_,rfl⟩;have:=gW.str (hp:=hp) (μ:=μ) (f.data.toList.map UInt8.toNat) (by intro g c;simp at c;obtain⟨e,_,rfl⟩:=c;exact e.toNat_lt);rwa[zH]at this
 ·simp at a;subst a;exact⟨.lr,rfl⟩
 ·simp at a;subst a;exact⟨.po,rfl⟩
 ·simp at a;subst a;exact⟨.ph _ _,rfl⟩
 ·simp at a;subst a;exact⟨.lV,rfl⟩
 ·simp at a;subst a;exact⟨.ma,rfl⟩
 grind
theorem iJ.uX{hp:af Obj}{μ:Mu}{b:List am}{e:List T}(j:iu TI.pK b=some e):iJ hp μ e b/\∀f∈e,f.scalar=true:=by
 have⟨hl,h⟩:=ul.1 j;refine⟨⟨hl.symm,λa f d=>?_⟩,λf d=>?_⟩
 ·have i:a<b.length:=by
   grind
  have⟨k,c,g⟩:=h a b[a] Y;rw[d]at c;grind [gW.pK,List.getD]
 ·obtain⟨a,i,rfl⟩:=dy d;have l:a<b.length:=D;have⟨k,c,g⟩:=h a b[a] Y;simp[i]at c;subst c;exact(gW.pK (hp:=hp) (μ:=μ) g).2
theorem gW.zJ{e:af Obj}{f:Mu}{a:List T}{b:af am}(d:iJ e f a b.toList)(g:∀c∈a,c.scalar=true):gW e f (.agg a) (.agg b):=
 .agg a b (by simpa using d.1.symm) g λi c h=>by simpa[cd,List.getD]using d.2 i c h
def gW.A5{d:af Obj}{e:Mu}{a:am}{b:T}(c:A5 a=some b):gW d e b a:=by
 unfold TI.A5 at c
 grind [gW.zJ,iJ.uX,dX,gW.pK]
def xm.unfold{e:ab}{c:Ty}(a:xm P e c):∃b d f,P.info? e=some b/\P.underlying e=some d/\b.zero=some f/\iu pK f.cells.toList=some c.zero/\
 C7 P d=some c.u/\vJ d f=true/\c.zero.length=b.size/\b.size=c.size/\b.bytes=c.bytes/\
 (c.cmp=true->P.stoodInHeld e=false/\P.eqGuardType P.depth e=false/\NV d=true):=by
 have⟨p,a⟩:=a.is;unfold Y5 at a;have⟨b,h,a⟩:=dX.1 a;have⟨d,i,a⟩:=dX.1 a;have⟨f,j,a⟩:=dX.1 a;have⟨r,k,a⟩:=dX.1 a;have⟨q,l,a⟩:=dX.1 a;have⟨m,a⟩:=ew.1 a;have⟨n,a⟩:=ew.1 a;have⟨o,a⟩:=ew.1 a;simp at a;rw[<-a];refine⟨b,d,f,h,i,j,k,l,m,?_,rfl,rfl,?_⟩
 ·rw[kq]at n;simp_all
 ·intro g;simp only[]at g;rw[g]at o
  grind
def xm.run_sizeOf{a:ab}{b:Ty}(d:xm P a b)(c:World):(sizeOf a).run P c= .ok b.size c:=by
 have⟨h,g,i,e,_,_,_,_,_,_,f,_⟩:=d.unfold;simp[sizeOf,typeInfo,e,f]
def xm.run_typeInfo{c:ab}{b:Ty}(e:xm P c b)(d:World):∃a,(typeInfo c).run P d= .ok a d/\a.bytes=b.bytes/\a.size=b.size:=by
 have⟨a,i,j,f,_,_,_,_,_,_,g,h,_⟩:=e.unfold;exact⟨a,by simp[typeInfo,f],h,g⟩
def ae7:TypeDesc->Bool
 | .struct _| .array _ _=>true
 |_=>false
def Cb{b:TypeDesc}{c:Ty}(a:C7 P b=some c.u):c.isAgg=ae7 b:=by
 unfold Ty.isAgg;cases b<;>simp only[C7]at a<;>first|(injection a with a;rw[<-a];rfl)|(split at a<;>simp at a;rw[<-a];rfl)
def xm.vQ{a:ab}{b:Ty}(e:xm P a b)(c:World):(isAgg a).run P c= .ok b.isAgg c:=by
 have⟨h,d,i,_,f,_,_,g,_⟩:=e.unfold;rw[Cb g];simp only[isAgg,Sem.run_bind,run_underlying f,Result.andThen_ok];cases d<;>rfl
def xm.zero{s:ab}{a:Ty}(e:xm P s a)(t:World):∃b,(zeroValue s).run P t= .ok b t/\(∀hp μ,gW hp μ a.kR b)/\(∀hp μ,iJ hp μ a.zero b.cells.toList)/\
 (∀z∈a.zero,z.scalar=true)/\a.zero.length=a.size/\a.kR.cells=a.zero/\a.kR.iN=true/\b.cells.size=a.size:=by
 have⟨J,n,b,u,E,v,f,o,g,F,H,I,_⟩:=e.unfold;have h:=(iJ.uX (hp:= #[]) (μ:=⟨λ_=>none,λ_=>False⟩) f).2;have k:a.zero.length=b.cells.size:=by
  have:=(iJ.uX (hp:= #[]) (μ:=⟨λ_=>none,λ_=>False⟩) f).1.1;omega
 refine⟨b,by simp[zeroValue,typeInfo,u,v],?_,λhp μ=>(iJ.uX f).1,h,D,?_⟩
 ·intro hp μ;have d:=(iJ.uX (hp:=hp) (μ:=μ) f).1;unfold Ty.kR;rw[Cb o];cases n with
  |struct C=>cases b with
   |agg m=>exact gW.zJ d h
   |_=>simp[vJ]at g
  |array K B=>cases b with
   |agg m=>exact gW.zJ d h
   |_=>simp[vJ]at g
  |_=>
   have i:b.cells= #[b]:=by cases b<;>simp[vJ]at g<;>rfl
   rw[i]at d;obtain⟨hl,_⟩:=d;simp at hl
   match l:a.zero,hl with
   | [c],_=>
    have d:=(iJ.uX (hp:=hp) (μ:=μ) f).1;rw[i,l]at d;have⟨A,m,q,x,_⟩:=d.nl;simp at q;show gW hp μ c b;rw[q.1];exact x
 ·have p:=Cb o;have w:(a.isAgg=true/\a.kR= .agg a.zero)\/(a.isAgg=false/\∃c,a.zero=[c]/\a.kR=c/\c.scalar=true):=by
   cases j:a.isAgg with
   |true=>left;exact⟨rfl,by unfold Ty.kR;rw[j]⟩
   |false=>
    right;refine⟨rfl,?_⟩;have i:b.cells= #[b]:=by
     rw[j]at p;cases n<;>simp[ae7]at p<;>cases b<;>simp[vJ]at g<;>rfl
    rw[i]at k;simp at k
    match l:a.zero,k with
    | [c],_=>exact⟨c,rfl,by unfold Ty.kR;rw[j,l];rfl,h c (by grind)⟩
  rcases w with⟨_,e⟩|⟨_,c,y,e,r⟩
  ·rw[e];exact⟨rfl,rfl,D⟩
  ·rw[e,y];refine⟨?_,?_,D⟩
   ·cases c<;>simp[T.scalar]at r<;>rfl
   ·cases c<;>simp[T.scalar]at r<;>rfl
structure jF(P:ai)(cx:Ctx):Prop where
 ty:∀t ty,cx.ty t=some ty->xm P t ty
def lj(d:af Obj)(g:Mu)(e:Nat)(c:Env)(f:af am):Prop:=
 ∀a b,c.get e a=some b->gW d g b (f.getD a Go.undef)
def lj.ext{b c:af Obj}{f g:Mu}{d:Nat}{a:Env}{e:af am}(h:lj b f d a e)(l:Ext b f c g):lj c g d a e:=
 λj k i=>(h j k i).ext l
def iL{k:Nat}{c:af Obj}{e:Mu}{n:H}{j:Nat}{g:Env}{f:Act}(q:St cx k c e n)(p:lj c e j g f.tmps){d:ah}{a:T}
 (b:ir cx j g d=some a):gW c e a (f.eval d):=by
 cases d with
 |tmp r=>exact p r a b
 |const s=>exact gW.A5 b
 |global m=>
  have⟨l,o,i⟩:=dX.1 b;simp at i;subst i;exact q.Bl m l o
 |func h=>
  have:T.func h []=a:=by grind [ir]
  subst this;exact .func h [] #[] rfl λu a t=>by grind
def yd{i:Nat}{c:af Obj}{e:Mu}{j:H}{h:Nat}{g:Env}{f:Act}(o:St cx i c e j)(n:lj c e h g f.tmps){b:List ah}{d:List T}
 (a:r7 cx h g b=some d):iJ c e d (b.map f.eval):=by
 induction b generalizing d with
 |nil=>simp_all[r7,iJ.nil]
 |cons p b m=>
  unfold r7 at a;rw[kl]at a;have⟨r,k,a⟩:=dX.1 a;have⟨q,l,a⟩:=dX.1 a;simp at a;subst a;exact iJ.cons (iL o n k) (m l)
end
end
section
section inv
variable {hp:af Obj}{μ:Mu}{c:am}
def gW.sk{b:Bool}(h:gW hp μ (.bool b) c):c= .bool b:=by cases h;rfl
def gW.kA{b:ak}{d:Int}(h:gW hp μ (.int b d) c):c= .int b d:=by cases h;rfl
def gW.mU{b:List Nat}(h:gW hp μ (.str b) c):c= .string (bytesOf b)/\∀d∈b,d<256:=by cases h;grind
def gW.sj(h:gW hp μ .lr c):c= .pointer none:=by cases h;rfl
def gW.rH{f d g i:Nat}(h:gW hp μ (.ptr f d g i) c):∃b a,c= .pointer (some a)/\μ f=some b/\d<=b.ep/\(d=b.ep->a=⟨b.jz,g*b.sz+i,none⟩):=by
 cases h with|ptr _ _ _ _ b a k l j=>grind
def gW.m9{f:List T}(h:gW hp μ (.j9 f) c):∃d off b i fz,c= .pointer (some ⟨d,off,none⟩)/\¬oU μ d/\hp[d]? =some (.cells b i fz)/\
 off+f.length<=b.size/\(∀g∈f,xE g)/\∀(j:Nat) g,f[j]? =some g->gW hp μ g (b.getD (off+j) Go.undef):=by
 cases h with|j9 _ d off b i fz m l n k hr=>exact⟨d,off,b,i,fz,rfl,m,l,n,k,hr⟩
def gW.u5{j g o f:Nat}{i:Bool}(h:gW hp μ (.arr j g o f i) c):∃b a d,c= .slice a f d/\μ j=some b/\g<=b.ep/\f<=d/\
 (g=b.ep->(i=true->d=f)/\(i=false->o+d=b.cap)/\(d≠0->a=some ⟨b.jz,o*b.sz,none⟩)):=by
 cases h with|arr _ _ _ _ _ b a d k l hl h=>grind
def gW.Ce(h:gW hp μ .iO c):∃a b,c= .slice a 0 b:=by cases h;simp
def gW.wj{b:Bool}(h:gW hp μ (.ed [] b) c):∃a,c= .slice a 0 0:=by cases h;simp
def gW.wm{j:T}{b:List T}{m:Bool}(h:gW hp μ (.ed (j::b) m) c):∃g off i k f l fz,c= .slice (some ⟨g,off,none⟩) (b.length+1) i/\¬oU μ g/\
 hp[g]? =some (.cells f l fz)/\b.length+1<=i/\(m=true->i=b.length+1)/\(∀d∈j::b,d.cells.length=k)/\off+(gH (j::b)).length<=f.size/\
 (∀d∈gH (j::b),xE d)/\∀(n:Nat) d,(gH (j::b))[n]? =some d->gW hp μ d (f.getD (off+n) Go.undef):=by
 cases h with|ed _ _ _ g off i k f l fz s r hl q u t p hr=>exact⟨g,off,i,k,f,l,fz,rfl,s,r,hl,q,u,t,p,hr⟩
def gW.uq{f:aj}{d:List T}(h:gW hp μ (.func f d) c):∃b,c= .func (.func f) #[] b/\iJ hp μ d b.toList:=by
 cases h with|func _ _ b g hr=>exact⟨b,rfl,by grind,λj k i=>by simp_all⟩
def gW.wq(h:gW hp μ .lV c):c= .nilFunc:=by cases h;rfl
def gW.wn(h:gW hp μ .ma c):c= .nilIface:=by cases h;rfl
def gW.yQ{b:ab}{f:T}(h:gW hp μ (.iface b f) c):∃d,c= .iface b d:=by cases h;simp
def gW.TA{d:Nat}(h:gW hp μ (.iter d) c):∃b a,c= .pointer (some a)/\μ d=some b/\(b.ep=0->a=⟨b.jz,0,none⟩):=by
 cases h with|iter _ b a f h=>grind
def gW.rI{d:List T}(h:gW hp μ (.agg d) c):∃b,c= .agg b/\iJ hp μ d b.toList/\∀f∈d,f.scalar=true:=by
 cases h with|agg _ b i g hr=>exact⟨b,rfl,⟨by grind,λk f j=>by simp_all⟩,g⟩
def gW.Cc{d:List T}(h:gW hp μ (.tuple d) c):∃b,c= .tuple b/\iJ hp μ d b.toList:=by
 cases h with|tuple _ b f hr=>exact⟨b,rfl,by grind,λi j g=>by simp_all⟩
end inv
section
variable {P:ai}{cx:Ctx}{base:Nat}{w:World}{μ:Mu}{h:H}{J:Nat}{e:Env}{a:Act}{o:Oper}
def Ax(μ g:Mu)(d f:Nat):Prop:=d<=f/\(∀b,g b≠none->μ b≠none\/(d<=b/\b<f))/\∀b,d<=b->b<f->g b≠none
def Ax.refl(μ:Mu)(b:Nat):Ax μ μ b b:=⟨au _,λ_ h=> .inl h,λf g d=>absurd d D⟩
def Ax.trans{hp s t:af Obj}{μ i j:Mu}{k g l:Nat}(h:Ax μ i k g)(d:Ax i j g l)(x:Ext s i t j):Ax μ j k l:=by
 have v:=h.1;have z:=d.1;refine⟨aQ h.1 d.1,λb f=>?_,λb f q=>?_⟩
 ·rcases d.2.1 b f with x|x
  ·rcases h.2.1 b x with y|y
   ·grind
   omega
  omega
 ·by_cases r:b<g
  ·have⟨m,n⟩:=Option.ne_none_iff_exists'.1 (h.2.2 b f r);have⟨u,p,_⟩:=x.mu b m n;rw[p];simp
  ·exact d.2.2 b D q
def jP(cx:Ctx)(base:Nat)(w:World)(μ:Mu)(i:Nat)(g:Result Next)(j:T)(f:H):Prop:=
 ∃c b d,(g= .ok (.value c) b\/(g= .ok .skip b/\c=Go.undef))/\gW b.heap d j c/\St cx base b.heap d f/\rk w μ b d/\Ax μ d i f.size
def jP.pure{b:Result Next}{d:T}{c:am}(g:St cx base w.heap μ h)(hr:b= .ok (.value c) w)(f:gW w.heap μ d c):jP cx base w μ h.size b d h:=
 ⟨c,w,μ,.inl hr,f,g,rk.refl _ _,Ax.refl _ _⟩
theorem iv{h d:H}{b:aa T}{f:T}:val h b=some (.val f d)↔b=some f/\d=h:=by
 unfold val;cases b with
 |none=>simp
 |some g=>simp;grind
def CB{h:H}{b:aa T}{f:aj}{d:List T}:val h b≠some (.call f d):=by
 unfold val;cases b<;>simp
theorem CW{d:ah}(g:St cx base w.heap μ h)(l:lj w.heap μ J e a.tmps)(b:o.op= .move d\/o.op= .assign d){i:T}{f:H}
 (j:Fc d cx J e h=some (.val i f)):jP cx base w μ h.size ((execOp a.eval o).run P w) i f:=by
 obtain⟨k,rfl⟩:=iv.1 j;refine jP.pure g ?_ (iL g l k);rcases b with b|b<;>simp[execOp,b]
theorem Kw{c n p:ah}(d:St cx base w.heap μ h)(i:lj w.heap μ J e a.tmps)(l:o.op= .pick c n p){m:T}{j:H}
 (b:Ho c n p cx J e h=some (.val m j)):jP cx base w μ h.size ((execOp a.eval o).run P w) m j:=by
 obtain⟨f,q,b⟩:=dX.1 b;have r:=iL d i q;cases f<;>simp at b;rename_i f;have k:=r.sk;cases f with
 |false=>
  obtain⟨g,rfl⟩:=iv.1 b;exact jP.pure d (by simp[execOp,l,k,asBool]) (iL d i g)
 |true=>
  obtain⟨g,rfl⟩:=iv.1 b;exact jP.pure d (by simp[execOp,l,k,asBool]) (iL d i g)
theorem Dc{l:ah}(g:St cx base w.heap μ h)(p:lj w.heap μ J e a.tmps)(i:o.op= .nilCheck l){k:T}{j:H}
 (f:tM l cx J e h=some (.val k j)):jP cx base w μ h.size ((execOp a.eval o).run P w) k j:=by
 have⟨m,n,f⟩:=dX.1 f;have d:=iL g p n;cases m<;>simp at f
 ·obtain⟨rfl,rfl⟩:=f;have⟨q,r,b,_⟩:=d.rH;exact jP.pure g (by simp[execOp,i,b]) (b▸d)
 ·obtain⟨rfl,rfl⟩:=f;have⟨t,off,s,v,fz,b,_⟩:=d.m9;exact jP.pure g (by simp[execOp,i,b]) (b▸d)
 ·obtain⟨rfl,rfl⟩:=f;have⟨u,b,_⟩:=d.uq;exact jP.pure g (by simp[execOp,i,b]) (b▸d)
theorem Io(jQ:jF P cx){d:ab}{g:ah}(p:St cx base w.heap μ h)(B:lj w.heap μ J e a.tmps)(x:o.op= .makeInterface d g){f:T}{k:H}
 (b:Ck d g cx J e h=some (.val f k)):jP cx base w μ h.size ((execOp a.eval o).run P w) f k:=by
 have⟨q,y,b⟩:=dX.1 b;have⟨I,j,K,C,s,E,F,l,_⟩:=(jQ.ty d q y).unfold;have A:∀{i:H},(Z (ir cx J e g) λa=>iG a.iN (val h (some (.iface d a))))=some (.val f i)->(∀n,j≠ .interface n)->jP cx base w μ h.size ((execOp a.eval o).run P w) f i:=by
  intro i b v;have⟨r,t,b⟩:=dX.1 b;have⟨_,b⟩:=ew.1 b;obtain⟨m,rfl⟩:=iv.1 b;simp at m;subst m;refine jP.pure (c:= .iface d (a.eval g)) p ?_ (.iface d r _ (iL p B t));simp only[execOp,x,Instr.makeInterface,Sem.run_bind,run_underlying s,Result.andThen_ok];cases j<;>first|rfl|exact absurd rfl (v _)
 cases z:q.u<;>rw[z]at b l<;>first|(exact A b (by rintro n rfl;simp[C7]at l))|grind
theorem KB{j:Fn}{first g:af ah}(m:St cx base w.heap μ h)(s:lj w.heap μ J e a.tmps)(q:o.op= .makeFunc j first g){f:T}{k:H}
 (b:Fd j first g cx J e h=some (.val f k)):jP cx base w μ h.size ((execOp a.eval o).run P w) f k:=by
 unfold Fd at b;split at b
 ·rename_i i;split at b
  ·rename_i t;obtain⟨n,p,b⟩:=dX.1 b;obtain⟨d,rfl⟩:=iv.1 b;simp at d;subst d;have l:=yd m s p;refine jP.pure (c:= .func (.func i) #[] (g.map a.eval)) m ?_ (.func i n _ (by simpa using l.1.symm) λr f d=>?_)
   ·have:first= #[]:=by grind
    simp[execOp,q,Instr.makeFunc,this]
   ·have:=l.2 r f d;simp_all
  grind
 grind
theorem Fe{j:ah}{f:Nat}(g:St cx base w.heap μ h)(t:lj w.heap μ J e a.tmps)(q:o.op= .extract j f){i:T}{d:H}
 (b:wt j f cx J e h=some (.val i d)):jP cx base w μ h.size ((execOp a.eval o).run P w) i d:=by
 have⟨k,m,b⟩:=dX.1 b;have n:=iL g t m;cases k<;>simp at b;obtain⟨s,rfl⟩:=iv.1 b;have⟨u,r,l⟩:=n.Cc;have⟨c,v,p⟩:=l.get s;exact jP.pure g (by simp only[execOp,q,r,Instr.extract];simp_all) p
end
end
section
section
variable {P:ai}{cx:Ctx}{base:Nat}{w:World}{μ:Mu}{h:H}{J:Nat}{e:Env}{a:Act}{o:Oper}{hp:af Obj}
def wX{i j g:T}{f:ak->Int->Int->aa T}(h:yX i j f=some g):∃b c d,i= .int b c/\j= .int b d/\f b c d=some g:=by
 unfold yX at h;split at h
 ·rename_i b c;split at h
  ·rename_i m d;obtain⟨k,l⟩:=ew.1 h;rw[Ak]at k;grind
  grind
 grind
def xO{j k i:T}{f:ak->Int->Nat->aa T}(h:BT j k f=some i):∃c d g b,j= .int c d/\k= .int g (.ofNat b)/\f c d (min b c.bits)=some i:=by
 unfold BT at h;split at h
 ·rename_i c d;split at h
  ·rename_i g b;cases b with
   |ofNat b=>grind
   |negSucc b=>grind
  grind
 grind
def IQ{j k i:T}{l:Int->Int->Bool}{m:List Nat->List Nat->Bool}(h:MZ j k l m=some i):
 (∃b c d,j= .int b c/\k= .int b d/\i= .bool (l c d))\/(∃f g,j= .str f/\k= .str g/\i= .bool (m f g)):=by
 unfold MZ at h;split at h
 ·rename_i b c;split at h
  ·rename_i q d;obtain⟨n,p⟩:=ew.1 h;rw[Ak]at n;subst n;rw[uf]at p;grind
  grind
 ·rename_i f;split at h
  ·rename_i g;rw[uf]at h;grind
  grind
 grind
def p8(b:List Nat):(bytesOf b).toList=b.map UInt8.ofNat:=by
 rw[ByteArray.toList_eq];rfl
def kz(b:List Nat):(bytesOf b).size=b.length:=by simp[bytesOf,ByteArray.size]
theorem ofNat_inj{b c:Nat}(d:b<256)(f:c<256)(h:UInt8.ofNat b=UInt8.ofNat c):b=c:=by
 have:=bO UInt8.toNat h;rwa[kj d,kj f]at this
theorem Gi{c b:List Nat}(g:∀d∈c,d<256)(ht:∀d∈b,d<256)(h:c.map UInt8.ofNat=b.map UInt8.ofNat):c=b:=by
 induction c generalizing b with
 |nil=>simp_all
 |cons d c j=>cases b with
  |nil=>grind
  |cons k b=>
   simp only[aL,bV]at h;rw[ofNat_inj (g d Y) (ht k Y) h.1,j (λf i=>g f (by grind)) (λf i=>ht f (by grind)) h.2]
def Bp{b c:List Nat}(f:∀d∈b,d<256)(ht:∀d∈c,d<256):((bytesOf b).toList==(bytesOf c).toList)=YG b c:=by
 rw[IA,p8,p8,bE,beq_iff_eq,beq_iff_eq]
 grind [Gi]
def EV(b:Nat)(d:List Nat)(c:Nat)(f:List Nat):U6 (b::d) (c::f)=(decide (b<c)||(b==c&&U6 d f)):=by
 show @Bool.rec (λ_=>Bool) (@Bool.rec (λ_=>Bool) false (U6 d f) (Nat.beq b c)) true (Nat.blt b c)=_;have g:Nat.blt b c=decide (b<c):=by rw[bE,aJ];simp
 have i:Nat.beq b c=(b==c):=by rw[bE,Nat.beq_eq];simp
 rw[g,i];cases decide (b<c)<;>cases (b==c)<;>rfl
def Bc{d c:List Nat}(i:∀b∈d,b<256)(ht:∀b∈c,b<256):Op.bytesLess (bytesOf d).toList (bytesOf c).toList=U6 d c:=by
 rw[p8,p8];induction d generalizing c with
 |nil=>cases c<;>rfl
 |cons b d p=>cases c with
  |nil=>rfl
  |cons f c=>
   have l:=i b Y;have m:=ht f Y;rw[EV];simp only[aL,Op.bytesLess];rw[p (λg n=>i g (by grind)) (λg n=>ht g (by grind))];have j:(decide (UInt8.ofNat b<UInt8.ofNat f))=decide (b<f):=by
    rw[bE,decide_eq_true_iff,decide_eq_true_iff,UInt8.lt_iff_toNat_lt,kj l,kj m]
   have k:(UInt8.ofNat b==UInt8.ofNat f)=(b==f):=by
    rw[bE,beq_iff_eq,beq_iff_eq]
    grind [ofNat_inj]
   rw[j,k]
def Hh(c b:List Nat):(U6 c b||YG c b)= !U6 b c:=by
 induction c generalizing b with
 |nil=>cases b<;>rfl
 |cons f c d=>cases b with
  |nil=>rfl
  |cons g b=>
   rw[EV,EV,IA,List.cons_beq_cons,<-IA];have:=d b
   grind
def FU(b c:List Nat):bytesOf (b++c)=bytesOf b++bytesOf c:=by
 apply ByteArray.ext;simp[bytesOf,ByteArray.data_append]
def K7{p:BinOp}{i q l:T}{y A:am}(x:ab)(U:p≠ .eql)(W:p≠ .neq)(u:gW hp μ i y)(v:gW hp μ q A)(b:binop p i q=some l):
 ∃j,(binOp p x y A).run P w= .ok j w/\gW hp μ l j:=by
 have ij:∀{t:ak->Int->Int->aa T},yX i q t=some l->
  (∀k d c,t k d c=some l->∃j,(binOp p x (.int k d) (.int k c)).run P w= .ok j w/\gW hp μ l j)->∃j,(binOp p x y A).run P w= .ok j w/\gW hp μ l j:=by
  intro t K S;obtain⟨k,d,c,rfl,rfl,m⟩:=wX K;rw[u.kA,v.kA];exact S k d c m
 have z:∀{t:Int->Int->Bool} {J:List Nat->List Nat->Bool},MZ i q t J=some l->
  (∀k d c,(binOp p x (.int k d) (.int k c)).run P w= .ok (.bool (t d c)) w)->
  (∀f g,(∀i∈f,i<256)->(∀i∈g,i<256)->(binOp p x (.string (bytesOf f)) (.string (bytesOf g))).run P w= .ok (.bool (J f g)) w)->∃j,(binOp p x y A).run P w= .ok j w/\gW hp μ l j:=by
  intro t J K B m;rcases IQ K with⟨k,d,c,rfl,rfl,rfl⟩|⟨f,g,rfl,rfl,rfl⟩
  ·rw[u.kA,v.kA];exact⟨_,B k d c,.bool _⟩
  ·have⟨F,C⟩:=u.mU;have⟨I,E⟩:=v.mU;rw[F,I];exact⟨_,m f g C E,.bool _⟩
 cases p with
 |eql=>exact absurd rfl U
 |neq=>exact absurd rfl W
 |add=>
  have b:Xo i q=some l:=b;by_cases N:∃f,i= .str f
  ·obtain⟨f,rfl⟩:=N;by_cases O:∃g,q= .str g
   ·obtain⟨g,rfl⟩:=O;have b:(Z (GA f g) λM=>iG (Nat.ble (ml M) 4294967296) (some (T.str M)))=some l:=b;have⟨M,B,b⟩:=dX.1 b;have⟨hl,b⟩:=ew.1 b;simp at B b;subst B;subst b;have hl:=aY hl;rw[kq,aT]at hl;have⟨F,C⟩:=u.mU;have⟨I,E⟩:=v.mU;rw[F,I];refine⟨.string (bytesOf (f++g)),?_,.str _ (by intro j n;rcases List.mem_append.1 n with k|k;exact C j k;exact E j k)⟩;rw[FU];have R:¬(((bytesOf f).size+(bytesOf g).size:Nat):Int)>IntKind.i64.max:=by
     rw[kz,kz];have:IntKind.i64.max=9223372036854775807:=dP;rw[this];omega
    simp only[binOp,Op.stringOp,R,bh,Sem.run_pure]
   ·exfalso;unfold Xo at b;cases q<;>first|(simp at b;done)|exact O ⟨_,rfl⟩
  ·have b:yX i q (λk a Q=>rS k (a+Q))=some l:=by
    unfold Xo at b;cases i<;>first|exact b|exact absurd ⟨_,rfl⟩ N
   refine ij b λk d c h=>?_;rw[AJ]at h;simp at h;subst h;exact⟨_,by simp[binOp,Op.intArith],.int _ _⟩
 |sub=>
  refine ij b λk d c h=>?_;rw[AJ]at h;simp at h;subst h;exact⟨_,by simp[binOp,Op.intArith],.int _ _⟩
 |mul=>
  refine ij b λk d c h=>?_;rw[AJ]at h;simp at h;subst h;exact⟨_,by simp[binOp,Op.intArith],.int _ _⟩
 |quo=>
  refine ij b λk d c h=>?_;cases n:U7 c 0 with
  |true=>rw[n]at h;simp at h
  |false=>
   rw[n]at h;have L:¬c=0:=by rw[An]at n;simpa using n
   simp only[AJ]at h;simp at h;subst h;exact⟨_,by simp[binOp,Op.intDiv,L],.int _ _⟩
 |rem=>
  refine ij b λk d c h=>?_;cases n:U7 c 0 with
  |true=>rw[n]at h;grind
  |false=>
   rw[n]at h;have L:¬c=0:=by rw[An]at n;grind
   simp only[qg]at h;simp at h;subst h;exact⟨_,by simp[binOp,Op.intDiv,L],.int _ _⟩
 |and=>
  refine ij b λk d c h=>?_;rw[qg]at h;simp only[ar]at h;subst h;exact⟨_,by simp[binOp,Op.intBits],.int _ _⟩
 |or=>
  refine ij b λk d c h=>?_;rw[qg]at h;simp only[ar]at h;subst h;exact⟨_,by simp[binOp,Op.intBits],.int _ _⟩
 |xor=>
  refine ij b λk d c h=>?_;rw[qg]at h;simp only[ar]at h;subst h;exact⟨_,by simp[binOp,Op.intBits],.int _ _⟩
 |shl=>
  have b:BT i q (λk a c=>zU k (k.wrap (a*2^c)))=some l:=b;obtain⟨k,d,X,c,rfl,rfl,m⟩:=xO b;rw[u.kA,v.kA];rw[qg]at m;simp only[ar]at m;subst m;have V:¬((c:Nat):Int)<0:=D;exact⟨_,by rfl,.int _ _⟩
 |shr=>
  have b:BT i q (λk a c=>zU k (a.fdiv (2^c)))=some l:=b;obtain⟨k,d,X,c,rfl,rfl,m⟩:=xO b;rw[u.kA,v.kA];rw[qg]at m;simp only[ar]at m;subst m;have V:¬((c:Nat):Int)<0:=D;exact⟨_,by rfl,.int _ _⟩
 |lss=>exact z b (λk d c=>by simp[binOp,Op.intCmp,Ah]) (λf g r s=>by simp only[binOp,Op.stringOp,Bc r s,Sem.run_pure])
 |leq=>exact z b (λk d c=>by simp only[binOp,Op.intCmp,Ah,ne_eq,not_true,bh,Sem.run_pure];congr 2;rw[bE];simp) (λf g r s=>by simp only[binOp,Op.stringOp,Bc r s,Bp r s,Sem.run_pure,Hh])
 |gtr=>exact z b (λk d c=>by simp[binOp,Op.intCmp,Ah]) (λf g r s=>by simp only[binOp,Op.stringOp,Bc r s,Bp r s,Sem.run_pure,Hh,Bool.not_not])
 |geq=>exact z b (λk d c=>by simp only[binOp,Op.intCmp,Ah,ne_eq,not_true,bh,Sem.run_pure];congr 2;rw[bE];simp) (λf g r s=>by simp only[binOp,Op.stringOp,Bc r s,Sem.run_pure])
 |_=>grind [binop]
def Gu{b:BinOp}{i:ab}{j k:ah}{c d:am}(f:b≠ .eql)(g:b≠ .neq):(eqGuard b i j k c d).run P w= .ok () w:=by
 cases b<;>first|(exact absurd rfl f)|(exact absurd rfl g)|(simp[eqGuard])
def MD{c:BinOp}{k t:ab}{m n:ah}(g:c≠ .eql)(i:c≠ .neq)(d:St cx base w.heap μ h)(j:lj w.heap μ J e a.tmps)(p:o.op= .binOp c k m n t){l:T}{f:H}
 (b:Qo c m n cx J e h=some (.val l f)):jP cx base w μ h.size ((execOp a.eval o).run P w) l f:=by
 have⟨u,hp,b⟩:=dX.1 b;have⟨v,q,b⟩:=dX.1 b;obtain⟨r,rfl⟩:=iv.1 b;have⟨x,s,hr⟩:=K7 (P:=P) (w:=w) k g i (iL d j hp) (iL d j q) r;refine jP.pure d ?_ hr;simp only[execOp,p,Sem.run_bind,Gu g i,Result.andThen_ok,s,Sem.run_pure]
theorem Ql{d:UnOp}{r:ab}{m:ah}(f:St cx base w.heap μ h)(q:lj w.heap μ J e a.tmps)(j:o.op= .unOp d r m){l:T}{g:H}
 (c:hUn d m cx J e h=some (.val l g)):jP cx base w μ h.size ((execOp a.eval o).run P w) l g:=by
 obtain⟨k,hp,c⟩:=dX.1 c;obtain⟨b,rfl⟩:=iv.1 c;have i:=iL f q hp;cases d with
 |neg=>
  cases k<;>simp[unop]at b;subst b;exact jP.pure f (by simp[execOp,j,i.kA,Op.unary,Op.intArith]) (.int _ _)
 |not=>
  cases k<;>simp[unop]at b;rename_i n;have p:=i.sk;cases n<;>simp at b<;>subst b<;>exact jP.pure f (by simp[execOp,j,p,Op.unary]) (.bool _)
 |_=>simp[unop]at b
end
end
section
section
variable {P:ai}{cx:Ctx}{base:Nat}{w:World}{μ:Mu}{h:H}{J:Nat}{e:Env}{a:Act}{o:Oper}{hp:af Obj}
def lP{c:ab}{d:Ty}(h:xm P c d):∃b,P.underlying c=some b/\C7 P b=some d.u:=by
 have⟨i,b,j,_,f,_,_,g,_⟩:=h.unfold
 grind
def yx{b:TypeDesc}{c:ak}(h:C7 P b=some (.int c)):b= .int c:=by
 cases b<;>simp only[C7]at h<;>first|(split at h<;>simp at h;done)|(simp at h;done)|grind
def Q5{b:TypeDesc}(h:C7 P b=some .bool):b= .bool:=by
 cases b<;>simp only[C7]at h<;>first|rfl|(split at h<;>simp at h;done)|(simp at h;done)
theorem uJ{b:TypeDesc}(h:C7 P b=some .str):b= .string:=by
 cases b<;>simp only[C7]at h<;>first|rfl|(split at h<;>simp at h;done)|(simp at h;done)
def mV{b:TypeDesc}{e:ab}(h:C7 P b=some (.slice e)):b= .slice e:=by
 cases b<;>simp only[C7]at h<;>first|(split at h<;>simp at h;done)|(simp at h;done)|grind
def tH{b:TypeDesc}{c:Nat}{e:ab}(h:C7 P b=some (.array c e)):b= .array c e:=by
 cases b<;>simp only[C7]at h<;>first|(split at h<;>simp at h;done)|(simp at h;done)|grind
def Vd{b:TypeDesc}{e:ab}(h:C7 P b=some (.ptr e)):b= .pointer e:=by
 cases b<;>simp only[C7]at h<;>first|(split at h<;>simp at h;done)|(simp at h;done)|grind
def Q4{b:TypeDesc}(h:C7 P b=some .func):∃c d f,b= .func c d f:=by
 cases b<;>simp only[C7]at h<;>first|(split at h<;>simp at h;done)|(simp at h;done)|simp
def O8{b:TypeDesc}(h:C7 P b=some .iface):∃c,b= .interface c:=by
 cases b<;>simp only[C7]at h<;>first|(split at h<;>simp at h;done)|(simp at h;done)|simp
def tU{d:TypeDesc}{g:List (Nat×ab)}(h:C7 P d=some (.struct g)):
 ∃c,d= .struct c/\g=c.toList.map (λb=>(b.offset,b.type))/\∀b∈c.toList,∃f,P.info? b.type=some f/\f.size≠0:=by
 cases d<;>simp only[C7]at h<;>try (simp at h;done)
 rename_i c;split at h
 ·rename_i j;simp only[ar,U.struct.injEq]at h;refine⟨c,rfl,h.symm,λb k=>?_⟩;have:=List.all_eq_true.1 j b k;cases i:P.info? b.type with
  |none=>rw[i]at this;grind
  |some f=>rw[i]at this;grind
 grind
def bytes_beq{b c:List Nat}(f:∀d∈b,d<256)(ht:∀d∈c,d<256):(bytesOf b==bytesOf c)=YG b c:=by
 rw[beq_toListBytes,Bp f ht]
def wZ{l:ab}{p:TypeDesc}{t:U}{j g:T}{n s:am}{m:Bool}(d:P.underlying l=some p)(k:C7 P p=some t)(i:gW hp μ j n)(f:gW hp μ g s)
 (b:uv t j g=some m) (I:Nat):(Op.equalIn (I+1) l n s).run P w= .ok m w:=by
 unfold uv at b;split at b
 ·have:=yx k;subst this;cases j<;>simp at b;cases g<;>simp at b;obtain⟨q,r⟩:=ew.1 b;rw[Ak]at q;subst q;simp at r;subst r;rw[i.kA,f.kA];simp[Op.equalIn,run_underlying d,An]
 ·have:=Q5 k;subst this;cases j<;>simp at b;cases g<;>simp at b;rename_i J K;rw[i.sk,f.sk];cases J<;>cases K<;>simp at b<;>subst b<;>simp[Op.equalIn,run_underlying d]
 ·have:=uJ k;subst this;cases j<;>simp at b;cases g<;>simp at b;subst b;obtain⟨E,y⟩:=i.mU;obtain⟨F,z⟩:=f.mU;rw[E,F];simp[Op.equalIn,run_underlying d,bytes_beq y z]
 ·have:=Vd k;subst this;cases j<;>simp at b
  ·rw[i.sj];cases g<;>simp at b<;>subst b
   ·rw[f.sj];simp[Op.equalIn,run_underlying d]
   ·obtain⟨u,v,c,_⟩:=f.rH;rw[c];simp[Op.equalIn,run_underlying d]
   ·obtain⟨A,off,x,l,fz,c,_⟩:=f.m9;rw[c];simp[Op.equalIn,run_underlying d]
  ·obtain⟨u,v,c,_⟩:=i.rH;cases g<;>simp at b;subst b;rw[f.sj,c];simp[Op.equalIn,run_underlying d]
  ·obtain⟨A,off,x,l,fz,c,_⟩:=i.m9;cases g<;>simp at b;subst b;rw[f.sj,c];simp[Op.equalIn,run_underlying d]
 ·obtain⟨M,N,O,rfl⟩:=Q4 k;cases j<;>simp at b
  ·obtain⟨B,c,_⟩:=i.uq;cases g<;>simp at b;subst b;rw[f.wq,c];simp[Op.equalIn,run_underlying d]
  ·rw[i.wq];cases g<;>simp at b<;>subst b
   ·obtain⟨B,c,_⟩:=f.uq;rw[c];simp[Op.equalIn,run_underlying d]
   ·rw[f.wq];simp[Op.equalIn,run_underlying d]
 ·obtain⟨L,rfl⟩:=O8 k;cases j<;>simp at b
  ·rw[i.wn];cases g<;>simp at b<;>subst b
   ·rw[f.wn];simp[Op.equalIn,run_underlying d]
   ·obtain⟨C,c⟩:=f.yQ;rw[c];simp[Op.equalIn,run_underlying d]
  ·obtain⟨C,c⟩:=i.yQ;cases g<;>simp at b;subst b;rw[f.wn,c];simp[Op.equalIn,run_underlying d]
 grind
def zt(b:Nat×ab)(d:List (Nat×ab))(c:Nat)(j:T)(g:List T)(k:T)(f:List T):eqFields cx (b::d) c (j::g) (k::f)=
 iG (Nat.beq b.1 c) (Z (cx.ty b.2) λi=>iG i.u.plain (Z (uv i.u j k) λl=> @Bool.rec (λ_=>aa Bool) (some false) (eqFields cx d (c+1) g f) l)):=rfl
def run_part_plain{g:ab}{b:Ty}(h:xm P g b)(hp:b.u.plain=true){d:af am}{f:Nat}{c:am}(j:d[f]? =some c):(part g d f).run P w= .ok c w:=by
 have i:b.isAgg=false:=by
  unfold Ty.isAgg;cases k:b.u<;>simp[k,U.plain]at hp<;>rfl
 simp[part,h.vQ,i,j]
def FA(jQ:jF P cx)(t:Nat):∀(m:List Field) (c:Nat) (g i:List T) (j l:af am) (f:Bool),
 iJ hp μ g (j.toList.drop c)->iJ hp μ i (l.toList.drop c)->(∀d∈m,d.name≠ "_")->eqFields cx (m.map λd=>(d.offset,d.type)) c g i=some f->
 (Op.eqFields (t+1) j l m).run P w= .ok f w:=by
 intro m;induction m with
 |nil=>
  intro c g i j l f _ _ _ b;have:f=true:=by simpa[eqFields]using b.symm
  subst this;simp[Op.eqFields]
 |cons d m S=>
  intro c g i j l f r s q b;rw[aL]at b;cases g with
  |nil=>simp[eqFields]at b
  |cons V g=>cases i with
   |nil=>simp[eqFields]at b
   |cons W i=>
    rw[zt]at b;have⟨z,b⟩:=ew.1 b;have⟨Z,A,b⟩:=dX.1 b;have⟨p,b⟩:=ew.1 b;have⟨U,B,b⟩:=dX.1 b;have N:d.offset=c:=aF z;have⟨u,C,Q⟩:=r.get (k:=0) (v:=V) Y;have⟨x,F,R⟩:=s.get (k:=0) (v:=W) Y;have E:j[c]? =some u:=by simpa using C
    have J:l[c]? =some x:=by simpa using F
    have n:=jQ.ty _ _ A;have⟨X,I,O⟩:=lP n;have K:=wZ (P:=P) (w:=w) I O Q R B t;have M:d.name≠ "_" :=q d Y;simp only[Op.eqFields,M,ne_eq,not_false_eq_true,bj,Sem.run_bind,N,run_part_plain n p E,run_part_plain n p J,Result.andThen_ok,K];cases U with
    |false=>
     have:f=false:=by simpa using b.symm
     subst this;simp
    |true=>
     simp only[Bool.not_true,cD,bh];refine S (c+1) g i j l f ?_ ?_ (λy L=>q y (by simp[L])) b
     ·have:=r.drop 1;simpa[dg,Nat.add_comm]using this
     ·have:=s.drop 1;simpa[dg,Nat.add_comm]using this
def Gv{e:ab}{l:Ty}(m:xm P e l)(n:l.u.plain=true)(r:Nat):∀(g d:List T) (f:Nat) (i j:af am) (c:Bool),
 iJ hp μ g (i.toList.drop f)->iJ hp μ d (j.toList.drop f)->Bq l.u g d=some c->(Op.eqItems (r+1) e 1 i j (List.range' f g.length)).run P w= .ok c w:=by
 intro g;induction g with
 |nil=>
  intro d f i j c _ _ b;have:c=true:=by
   cases d with
   |nil=>have b:some true=some c:=b;simpa using b.symm
   |cons=>simp[Bq]at b
  subst this;simp[Op.eqItems]
 |cons s g M=>
  intro d f i j c p q b;cases d with
  |nil=>simp[Bq]at b
  |cons t d=>
   have b:(Z (uv l.u s t) λO=> @Bool.rec (λ_=>aa Bool) (some false) (Bq l.u g d) O)=some c:=b;have⟨N,z,b⟩:=dX.1 b;have⟨x,A,K⟩:=p.get (k:=0) (v:=s) Y;have⟨y,C,L⟩:=q.get (k:=0) (v:=t) Y;have B:i[f]? =some x:=by simpa using A
   have F:j[f]? =some y:=by simpa using C
   have⟨Q,E,J⟩:=lP m;have I:=wZ (P:=P) (w:=w) E J K L z r;rw[aP,List.range'_succ];simp only[Op.eqItems,Sem.run_bind,Nat.mul_one,run_part_plain m n B,run_part_plain m n F,Result.andThen_ok,I];cases N with
   |false=>
    have:c=false:=by simpa using b.symm
    subst this;simp
   |true=>
    simp only[Bool.not_true,cD,bh];refine M d (f+1) i j c ?_ ?_ b
    ·have:=p.drop 1;simpa[dg,Nat.add_comm]using this
    ·have:=q.drop 1;simpa[dg,Nat.add_comm]using this
theorem KM{f:BinOp}{g:ab}{b c:ah}(d:(Region.isConst b||Region.isConst c)=true):(eqGuard f g b c .nilIface .nilIface).run P w= .ok () w:=by
 unfold eqGuard;cases b<;>cases c<;>simp[Region.isConst]at d<;>simp
def Hq(jQ:jF P cx){neg:Bool}{F:BinOp}{t u:ab}{E y:ah}(f:F=(if neg then BinOp.neq else BinOp.eql))(s:St cx base w.heap μ h)(r:lj w.heap μ J e a.tmps)
 (b9:o.op= .binOp F t E y u) {v:T} {aE:H} (B:hEq neg t E y cx J e h=some (.val v aE)):jP cx base w μ h.size ((execOp a.eval o).run P w) v aE:=by
 obtain⟨ea,cX,B⟩:=dX.1 B;obtain⟨I,hp,B⟩:=dX.1 B;obtain⟨x,S,B⟩:=dX.1 B;obtain⟨bi,B⟩:=ew.1 B;obtain⟨A,b,B⟩:=dX.1 B;obtain⟨bp,rfl⟩:=iv.1 B;have q:=iL s r hp;have j:=iL s r S;have cL:=jQ.ty _ _ cX;have bX:v= .bool (if neg then !A else A):=by
  rw[uf]at bp;cases neg<;>simpa using bp.symm
 subst bX;have bs:(eqGuard F t E y (a.eval E) (a.eval y)).run P w= .ok () w/\(binOp F t (a.eval E) (a.eval y)).run P w= .ok (.bool (if neg then !A else A)) w:=by
  obtain⟨i,d,z,_,R,_,_,N,_,_,_,_,aN⟩:=cL.unfold;unfold Lm at b;split at b
  ·rename_i di an;rw[an]at N;obtain⟨av,rfl,b6,_⟩:=tU N;cases I<;>simp at b;cases x<;>simp at b;obtain⟨al,b⟩:=ew.1 b;obtain⟨Q,M,ap⟩:=aN al;obtain⟨p,g,W,_⟩:=q.rI;obtain⟨C,c,bH,_⟩:=j.rI;rw[g,c];refine⟨run_eqGuard_agg w F t E y p C M,?_⟩;have a6:P.fieldsOf t=av:=by simp[Program.fieldsOf,R]
   have m:(Op.equalIn 10000 t (.agg p) (.agg C)).run P w= .ok A w:=by
    rw[run_equalIn_struct w 9999 t p C (by rw[a6];exact R) Q,a6];rw[b6]at b;refine FA jQ 9998 av.toList 0 _ _ p C A (by simpa using W) (by grind) ?_ b;intro X bW;have:=List.all_eq_true.1 ap X bW
    grind
   cases neg with
   |false=>simp at f;subst f;rw[run_eql_struct,m];rfl
   |true=>simp at f;subst f;rw[run_neq_struct,m];rfl
  ·rename_i n e an;rw[an]at N;have bT:=tH N;subst bT;cases I<;>simp at b;cases x<;>simp at b;obtain⟨al,b⟩:=ew.1 b;obtain⟨dv,cF,b⟩:=dX.1 b;obtain⟨cb,b⟩:=ew.1 b;obtain⟨cp,b⟩:=ew.1 b;obtain⟨b8,b⟩:=ew.1 b;obtain⟨Q,M,ap⟩:=aN al;obtain⟨p,g,W,_⟩:=q.rI;obtain⟨C,c,bH,_⟩:=j.rI;rw[g,c];refine⟨run_eqGuard_agg w F t E y p C M,?_⟩;have bn:=jQ.ty _ _ cF;have m:(Op.equalIn 10000 t (.agg p) (.agg C)).run P w= .ok A w:=by
    obtain⟨ds,de,eb,a8,_,_,_,_,_,_,dn,_⟩:=bn.unfold;rw[run_equalIn_array w 9999 p C R a8,List.range_eq_range'];have ca:P.cellsOf e=1:=by
     have:=aF cp;simp only[Program.cellsOf,a8,Option.map_some,cU];omega
    have b7:=aF b8;rw[ca,<-b7];exact Gv bn cb 9998 _ _ 0 p C A (by simpa using W) (by grind) b
   cases neg with
   |false=>simp at f;subst f;rw[run_eql_struct,m];rfl
   |true=>simp at f;subst f;rw[run_neq_struct,m];rfl
  ·have m:=wZ (P:=P) (w:=w) R N q j b 9999;have a7:∀k l:am,(k≠ .nilIface\/l≠ .nilIface)->((∀c9,k≠ .agg c9)\/∀dd,l≠ .agg dd)->(eqGuard F t E y k l).run P w= .ok () w:=by
    intro k l aA dk;cases neg with
    |false=>
     simp at f;subst f;cases k<;>cases l<;>first|(simp[eqGuard];done)|(simp at aA;done)|grind
    |true=>
     simp at f;subst f;cases k<;>cases l<;>first|(simp[eqGuard];done)|(simp at aA;done)|grind
   have dm:∀k l:am,(∀U c1 V c4,(k,l)≠(.int U c1,.int V c4))->(∀c6 c7,(k,l)≠(.string c6,.string c7))->(∀Z K ae L,(k,l)≠(.float Z K,.float ae L))->(∀Z K Q ae L M,(k,l)≠(.complex Z K Q,.complex ae L M))->
    (Op.equalIn 10000 t k l).run P w= .ok A w->(binOp F t k l).run P w= .ok (.bool (if neg then !A else A)) w:=by
    intro k l bu bA bB bC aX;cases neg with
    |false=>
     simp at f;subst f;cases k<;>cases l<;>first|(exact absurd rfl (bu _ _ _ _))|(exact absurd rfl (bA _ _))|(exact absurd rfl (bB _ _ _ _))|(exact absurd rfl (bC _ _ _ _ _ _))|(simp[binOp,Op.equal,Op.maxDepth,aX])
    |true=>
     simp at f;subst f;cases k<;>cases l<;>first|(exact absurd rfl (bu _ _ _ _))|(exact absurd rfl (bA _ _))|(exact absurd rfl (bB _ _ _ _))|(exact absurd rfl (bC _ _ _ _ _ _))|(simp[binOp,Op.equal,Op.maxDepth,aX])
   unfold uv at b;split at b
   ·cases I<;>simp at b;cases x<;>simp at b;obtain⟨U,V⟩:=ew.1 b;rw[Ak]at U;subst U;simp at V;subst V;rw[q.kA,j.kA];refine⟨a7 _ _ (.inl Y) (.inl Y),?_⟩;cases neg<;>simp at f<;>subst f<;>simp[binOp,Op.intCmp,An,bne]
   ·cases I<;>simp at b;cases x<;>simp at b;rw[q.sk,j.sk]at m|-
    grind
   ·cases I<;>simp at b;cases x<;>simp at b;subst b;obtain⟨g,K⟩:=q.mU;obtain⟨c,L⟩:=j.mU;rw[g,c];refine⟨a7 _ _ (.inl Y) (.inl Y),?_⟩;cases neg<;>simp at f<;>subst f<;>simp[binOp,Op.stringOp,Bp K L]
   ·cases I<;>simp at b
    ·have g:=q.sj;rw[g]at m|-;have c:∃O,a.eval y= .pointer O:=by
      cases x<;>simp at b
      ·exact⟨_,j.sj⟩
      ·obtain⟨_,O,S,_⟩:=j.rH;grind
      ·obtain⟨_,_,_,_,_,S,_⟩:=j.m9;grind
     obtain⟨O,c⟩:=c;rw[c]at m|-
     grind
    ·obtain⟨_,O,g,_⟩:=q.rH;cases x<;>simp at b;have c:=j.sj;rw[g,c]at m|-
     grind
    ·obtain⟨_,_,_,_,_,g,_⟩:=q.m9;cases x<;>simp at b;have c:=j.sj;rw[g,c]at m|-
     grind
   ·cases I<;>simp at b
    ·obtain⟨p,g,_⟩:=q.uq;cases x<;>simp at b;have c:=j.wq;rw[g,c]at m|-
     grind
    ·have g:=q.wq;have c:(∃X bN p,a.eval y= .func X bN p)\/a.eval y= .nilFunc:=by
      cases x<;>simp at b
      ·obtain⟨p,S,_⟩:=j.uq;grind
      ·exact .inr j.wq
     grind
   ·cases I<;>simp at b
    ·have g:=q.wn;cases x<;>simp at b
     ·have c:=j.wn;rw[g,c]at m|-;have bi:(Region.isConst E||Region.isConst y)=true:=bi
      grind [KM]
     ·obtain⟨bS,c⟩:=j.yQ;rw[g,c]at m|-
      grind
    ·obtain⟨bS,g⟩:=q.yQ;cases x<;>simp at b;have c:=j.wn;rw[g,c]at m|-
     grind
   grind
 refine jP.pure s ?_ (.bool _);simp only[execOp,b9,Sem.run_bind,bs.1,Result.andThen_ok,bs.2,Sem.run_pure]
end
end
section
section
variable {P:ai}{cx:Ctx}{base:Nat}{w:World}{μ:Mu}{h:H}{J:Nat}{e:Env}{a:Act}{o:Oper}{hp:af Obj}
def lO(b off c:Nat):(⟨b,off,none⟩:Addr).add c=⟨b,off+c,none⟩:=by
 unfold Addr.add;split<;>simp_all
theorem nc(c:T)(b:List T):gH (c::b)=c.cells++gH b:=by simp[gH]
def ox(a b:List T):gH (a++b)=gH a++gH b:=by simp[gH]
def iS{sz:Nat}{b:List T}(d:∀c∈b,c.cells.length=sz):(gH b).length=b.length*sz:=by
 induction b with
 |nil=>simp[gH]
 |cons g b f=>
  rw[nc,aT,f (λc i=>d c (by grind)),d g Y,aP,cg];omega
def rg{d:Nat}{b:List T}(g:∀f∈b,f.cells.length=d)(c:Nat):(gH b).drop (c*d)=gH (b.drop c):=by
 induction c generalizing b with
 |zero=>simp
 |succ c k=>cases b with
  |nil=>simp[gH]
  |cons i b=>
   have j:=g i Y;rw[nc,cg,Nat.add_comm,<-dg];have:(i.cells++gH b).drop d=gH b:=by rw[<-j];simp
   rw[this,k (λf l=>g f (by grind))];rfl
def tR{g:Nat}{b:List T}(f:∀d∈b,d.cells.length=g)(c:Nat):(gH b).take (c*g)=gH (b.take c):=by
 induction c generalizing b with
 |zero=>simp[gH]
 |succ c j=>cases b with
  |nil=>grind
  |cons k b=>
   have i:=f k Y;rw[nc,List.take_succ_cons,nc,<-j (λd l=>f d (by grind)),cg,List.take_append,i]
   grind
structure vf(hp:af Obj)(μ:Mu)(jz off:Nat)(cs:List T):Prop where
 row:∃arr t fz,hp[jz]? =some (.cells arr t fz)/\off+cs.length<=arr.size/\∀(k:Nat) v,cs[k]? =some v->gW hp μ v (arr.getD (off+k) Go.undef)
 scalar:∀v∈cs,v.scalar=true
def vf.cell{g off:Nat}{c:List T}(n:vf w.heap μ g off c){b:Nat}{d:T}(m:c[b]? =some d):∃i,w.cell? ⟨g,off+b,none⟩=some i/\gW w.heap μ d i:=by
 have⟨f,r,fz,j,p,k⟩:=n.row;have q:b<c.length:=by
  grind
 have l:off+b<f.size:=D;refine⟨f[off+b],by simp[World.cell?,j,l],?_⟩;have:=k b d m;simp_all
def vf.take{d off:Nat}{f:List T}(g:vf hp μ d off f)(m:Nat):vf hp μ d off (f.take m):=by
 have⟨i,n,fz,j,p,k⟩:=g.row;refine⟨⟨i,n,fz,j,by grind,λl c b=>k l c ?_⟩,λc b=>g.scalar c (bJ b)⟩;rw[ci]at b
 grind
def vf.drop{g off:Nat}{d:List T}(i:vf hp μ g off d)(c:Nat)(q:c<=d.length):vf hp μ g (off+c) (d.drop c):=by
 have⟨j,n,fz,k,p,l⟩:=i.row;refine⟨⟨j,n,fz,k,by grind,λm f b=>?_⟩,λf b=>i.scalar f (bK b)⟩;rw[bM]at b;have:=l (c+m) f b;rwa[<-cV]at this
def vf.run_loadCells{d off:Nat}{b:List T}(n:vf w.heap μ d off b):∃i:List am,(loadCells ⟨d,off,none⟩ b.length).run P w= .ok i.toArray w/\iJ w.heap μ b i:=by
 have⟨c,t,fz,k,p,l⟩:=n.row;refine⟨(c.toList.drop off).take b.length,?_,?_⟩
 ·have hl:((c.toList.drop off).take b.length).length=b.length:=by grind
  have:=Go.run_loadCells_list (P:=P) w ⟨d,off,none⟩ ((c.toList.drop off).take b.length) (λs j f=>by
   rw[lO];rw[ci]at f;split at f
   ·rw[bM]at f;simp only[World.cell?,k]
    grind
   grind)
  rwa[hl]at this
 ·refine⟨by grind,λg j m=>?_⟩;have q:g<b.length:=by
   grind
  have:=l g j m;have r:off+g<c.size:=D;simp_all
def AH{s:ab}{c:Ty}{l off:Nat}{f:List T}{k:T}(m:xm P s c)(j:vf w.heap μ l off f)(b:kU c f=some k):
 ∃d,(loadVar s ⟨l,off,none⟩).run P w= .ok d w/\gW w.heap μ k d:=by
 unfold kU at b;cases i:c.isAgg with
 |true=>
  rw[i]at b;have b:(Z (takeN c.size f) λj=>some (T.agg j))=some k:=b;obtain⟨y,g,n⟩:=dX.1 b;rw[pj]at g;split at g
  ·rename_i x;simp at g n;subst g;subst n;have r:=j.take c.size;obtain⟨t,q,v⟩:=vf.run_loadCells (P:=P) r;have u:(f.take c.size).length=c.size:=by grind
   rw[u]at q;refine⟨.agg t.toArray,?_,gW.zJ D r.scalar⟩;simp[loadVar,m.vQ,i,m.run_sizeOf,q]
  grind
 |false=>
  rw[i]at b;have b:nJ f 0=some k:=b;rw[lI]at b;obtain⟨d,p,hr⟩:=j.cell b;refine⟨d,?_,hr⟩;have p:w.cell? ⟨l,off,none⟩=some d:=D;simp[loadVar,m.vQ,i,p]
def St.rowAt(K:St cx base hp μ h){j m c:Nat}{b:Loc}{d:T}(A:μ j=some b)(f:h.elem j m c=some d):vf hp μ b.jz (c*b.sz) d.cells/\d.cells.length=b.sz:=by
 have⟨u,C,J⟩:=K.box j b A;unfold H.elem at f;rw[C]at f;obtain⟨Q,v,R,N,r,g⟩:=u;have f:iG (Nat.beq v m) (@Bool.rec (λ_=>aa T) (nJ g c) none r)=some d:=f;have⟨_,f⟩:=ew.1 f;cases r with
 |true=>grind
 |false=>
  have f:g[c]? =some d:=by rw[<-lI];exact f
  have i:=J.plain rfl;have⟨t,L,x,y,z⟩:=i.row;have q:d∈g:=ay f;have p:=i.size d q;have F:c<g.length:=by
   grind
  have O:=iS i.size;refine⟨⟨⟨t,L,(0,0),x,?_,λs l k=>?_⟩,λl k=>i.scalar l ?_⟩,p⟩
  ·rw[p,y];have:c+1<=b.cap:=by have:=i.room;grind
   calc c*b.sz+b.sz=(c+1)*b.sz:=by rw[cg]
    _<=b.cap*b.sz:=aV _ this
  ·have I:s<d.cells.length:=by
    grind
   have E:(gH g)[c*b.sz+s]? =some l:=by
    have n:=rg i.size c;have:g.drop c=d::g.drop (c+1):=by
     rw[aH F]
     grind
    rw[this,nc]at n;rw[<-bM,n,cv I];exact k
   have⟨M,B,hr⟩:=z.get E;rw[ci]at B;simp_all
  ·exact List.mem_flatMap.2 ⟨d,q,k⟩
def St.Wv(s:St cx base hp μ h){d f g:Nat}{c:Loc}{i:T}(n:μ d=some c)(b:h.elem d f g=some i):f=c.ep:=by
 have⟨j,p,q⟩:=s.box d c n;unfold H.elem at b;rw[p]at b;obtain⟨u,l,v,t,r,k⟩:=j;have b:iG (Nat.beq l f) (@Bool.rec (λ_=>aa T) (nJ k g) none r)=some i:=b;have⟨m,_⟩:=ew.1 b;have:=aF m;have:=q.ep
 grind
def EY{q:ab}{r:Ty}{i f:T}{j:am}(n:xm P q r)(p:St cx base w.heap μ h)(l:gW w.heap μ i j)(b:h.load r i=some f):
 ∃g c,j= .pointer (some g)/\(loadVar q g).run P w= .ok c w/\gW w.heap μ f c:=by
 unfold H.load at b;cases i<;>simp at b
 ·rename_i J N U C;replace b:=dX.1 b;obtain⟨V,m,b⟩:=b;replace b:=dX.1 b;obtain⟨M,d,b⟩:=b;obtain⟨I,g,y,k,_,O⟩:=l.rH;have Q:=p.Wv k m;obtain⟨E,R⟩:=p.rowAt k m;rw[nd]at d;split at d
  ·rename_i x;simp at d;subst d;obtain⟨c,t,u⟩:=AH n (E.drop C x) b
   grind
  grind
 ·rename_i L;obtain⟨K,off,s,F,fz,y,S,v,z,A,hr⟩:=l.m9;obtain⟨c,t,u⟩:=AH n ⟨⟨s,F,fz,v,z,hr⟩,(λf B=>(A f B).1)⟩ b
  grind
theorem Kz(jQ:jF P cx){f:ab}{i:ah}(c:St cx base w.heap μ h)(q:lj w.heap μ J e a.tmps)(l:o.op= .load f i){g:T}{d:H}
 (b:KA f i cx J e h=some (.val g d)):jP cx base w μ h.size ((execOp a.eval o).run P w) g d:=by
 replace b:=dX.1 b;obtain⟨u,n,b⟩:=b;replace b:=dX.1 b;obtain⟨t,hp,b⟩:=b;obtain⟨p,rfl⟩:=iv.1 b;have⟨r,s,m,j,k⟩:=EY (jQ.ty _ _ n) c (iL c q hp) p;exact jP.pure c (by simp[execOp,l,Instr.loadAt,m,Instr.sureAddr,j]) k
def zr(jQ:jF P cx){l:ab}{f:Nat}{g:Nat×ab}(b:Bo cx l f=some g):∃d c,P.underlying l=some (.struct d)/\d[f]? =some c/\c.offset=g.1/\c.type=g.2/\
 ∃k,P.info? c.type=some k/\k.size≠0:=by
 replace b:=dX.1 b;obtain⟨s,q,b⟩:=b;have⟨t,m,j⟩:=lP (jQ.ty _ _ q);cases r:s.u<;>rw[r]at b j<;>simp at b;obtain⟨d,rfl,p,n⟩:=tU j;subst p;rw[aR]at b;cases i:d.toList[f]? with
 |none=>rw[i]at b;grind
 |some c=>
  rw[i]at b;simp at b;refine⟨d,c,m,by grind,by rw[<-b],by rw[<-b],n c (ay i)⟩
theorem Cm(jQ:jF P cx){t:ab}{n:ah}{p:Nat}(m:St cx base w.heap μ h)(X:lj w.heap μ J e a.tmps)(R:o.op= .fieldAddr t n p){c:T}{q:H}
 (b:rf t n p cx J e h=some (.val c q)):jP cx base w μ h.size ((execOp a.eval o).run P w) c q:=by
 replace b:=dX.1 b;obtain⟨l,N,b⟩:=b;replace b:=dX.1 b;obtain⟨W,hp,b⟩:=b;obtain⟨an,ap,A,B,C,av,i,E,F⟩:=zr jQ N;have r:=iL m X hp;have s:∀d:Addr,a.eval n= .pointer (some d)->(execOp a.eval o).run P w= .ok (.value (.pointer (some (d.add l.1)))) w:=by
  intro d f;simp[execOp,R,Instr.fieldAt,run_underlying A,B,f,Instr.sureAddr,fieldPlace,sizeOf,typeInfo,E,F,C]
 cases W<;>simp at b
 ·rename_i x z U V;obtain⟨rfl,rfl⟩:=b;obtain⟨u,d,f,K,M,I⟩:=r.rH;refine jP.pure m (s d f) (.ptr x z U (V+l.1) u _ K M λL=>?_);rw[I L,lO,cV]
 ·rename_i ae;replace b:=dX.1 b;obtain⟨al,g,b⟩:=b;simp at b;obtain⟨rfl,rfl⟩:=b;obtain⟨y,off,v,Z,fz,f,Q,O,aE,S,hr⟩:=r.m9;rw[nd]at g;split at g
  ·rename_i aA;simp at g;subst g;refine jP.pure m (s _ f) ?_;rw[lO];refine .j9 _ y (off+l.1) v Z fz Q O (by grind) (λc j=>S c (bK j)) λk c j=>?_;rw[bM]at j;have:=hr _ c j;rwa[<-cV]at this
  grind
def CH{r:ab}{c:Ty}{f:List T}{g:af am}{off:Nat}{k:T}(l:xm P r c)(p:iJ hp μ f (g.toList.drop off))(s:∀m∈f,m.scalar=true)(b:kU c f=some k):
 ∃d,(part r g off).run P w= .ok d w/\gW hp μ k d:=by
 unfold kU at b;cases j:c.isAgg with
 |true=>
  rw[j]at b;have b:(Z (takeN c.size f) λu=>some (T.agg u))=some k:=b;obtain⟨x,i,n⟩:=dX.1 b;rw[pj]at i;split at i
  ·rename_i v;simp at i n;subst i;subst n;refine⟨.agg (g.extract off (off+c.size)),by simp[part,l.vQ,j,l.run_sizeOf],gW.zJ ?_ λm t=>s m (bJ t)⟩;have:=p.take c.size;rw[Array.toList_extract]
   grind
  grind
 |false=>
  rw[j]at b;have b:nJ f 0=some k:=b;rw[lI]at b;obtain⟨d,q,hr⟩:=p.get b;refine⟨d,?_,hr⟩;have q:g[off]? =some d:=by grind
  simp[part,l.vQ,j,q]
theorem Ip(jQ:jF P cx){j:ab}{d:ah}{f:Nat}(i:St cx base w.heap μ h)(F:lj w.heap μ J e a.tmps)(x:o.op= .field j d f){k:T}{g:H}
 (b:Cn j d f cx J e h=some (.val k g)):jP cx base w μ h.size ((execOp a.eval o).run P w) k g:=by
 replace b:=dX.1 b;obtain⟨l,v,b⟩:=b;replace b:=dX.1 b;obtain⟨O,A,b⟩:=b;replace b:=dX.1 b;obtain⟨E,hp,b⟩:=b;have⟨M,N,m,n,p,q,_⟩:=zr jQ v;have s:=iL i F hp;cases E<;>simp at b;replace b:=dX.1 b;obtain⟨K,c,b⟩:=b;obtain⟨B,rfl⟩:=iv.1 b;have⟨L,y,r,z⟩:=s.rI;rw[nd]at c;split at c
 ·simp at c;subst c;have⟨I,t,u⟩:=CH (P:=P) (w:=w) (jQ.ty _ _ A) (r.drop l.1) (λd C=>z d (bK C)) B;refine jP.pure i ?_ u;simp[execOp,x,Instr.field,run_underlying m,n,y,asAgg,p,q,t]
 grind
def pi{c:T}{g:Nat}(d:rN c=some g):∃f,c= .int f (.ofNat g):=by
 unfold rN at d;cases c<;>simp at d;rename_i f b;cases b with
 |ofNat b=>simp_all
 |negSucc b=>grind
theorem In(jQ:jF P cx){C:ab}{p F:ah}(m:St cx base w.heap μ h)(B:lj w.heap μ J e a.tmps)(x:o.op= .index C p F){E:T}{t:H}
 (b:Cj C p F cx J e h=some (.val E t)):jP cx base w μ h.size ((execOp a.eval o).run P w) E t:=by
 replace b:=dX.1 b;obtain⟨ap,ae,b⟩:=b;replace b:=dX.1 b;obtain⟨A,hp,b⟩:=b;replace b:=dX.1 b;obtain⟨q,W,b⟩:=b;replace b:=dX.1 b;obtain⟨f,S,b⟩:=b;obtain⟨k,U⟩:=pi S;obtain⟨d,v,s⟩:=lP (jQ.ty _ _ ae);have l:=iL m B hp;have z:=(U▸iL m B W).kA;cases al:ap.u<;>rw[al]at b s<;>simp at b
 ·
  have:=uJ s;subst this;cases A<;>simp at b;rename_i g;replace b:=dX.1 b;obtain⟨c,aX,b⟩:=b;obtain⟨j,rfl⟩:=iv.1 b;simp at j;subst j;obtain⟨r,I⟩:=l.mU;refine jP.pure (c:= .int .u8 (c:Int)) m ?_ (.int _ _);have a6:f<g.length:=by
   grind
  have Q:g[f]=c:=by grind
  have O:c<256:=I c (by rw[<-Q];simp);have R:(bytesOf g)[f]? =some (UInt8.ofNat c):=by
   have X:f<(bytesOf g).size:=by rw[kz];omega
   rw[getElem?_pos (bytesOf g) f X];congr 1;show(bytesOf g).data[f]=_
   grind [bytesOf]
  simp[execOp,x,Instr.index,z,asIntOf,run_underlying v,r,R,kj O]
 ·rename_i n aN;have:=tH s;subst this;cases A<;>simp at b;rename_i av;replace b:=dX.1 b;obtain⟨an,y,b⟩:=b;replace b:=ew.1 b;obtain⟨L,b⟩:=b;replace b:=dX.1 b;obtain⟨aA,i,b⟩:=b;obtain⟨j,rfl⟩:=iv.1 b;obtain⟨aE,r,K,Z⟩:=l.rI;rw[nd]at i;split at i
  ·simp at i;subst i;obtain⟨c,M,N⟩:=CH (P:=P) (w:=w) (jQ.ty _ _ y) (K.drop (f*an.size)) (λp l=>Z p (bK l)) j;refine jP.pure m ?_ N;rw[aJ]at L;have V:¬n<=f:=D;simp[execOp,x,Instr.index,z,asIntOf,run_underlying v,r,V,(jQ.ty _ _ y).run_sizeOf,M]
  grind
end
end
section
section
variable {P:ai}{cx:Ctx}{base:Nat}{w:World}{μ:Mu}{h:H}{J:Nat}{e:Env}{a:Act}{o:Oper}{hp:af Obj}
def St.Nv(k:St cx base hp μ h){c:Nat}{b:Loc}{d:jv}(j:μ c=some b)(f:h.get c=some d):d.sz=b.sz/\d.ep=b.ep:=by
 have⟨l,i,g⟩:=k.box c b j;rw[i]at f;simp at f;subst f;exact⟨g.sz,g.ep⟩
def flat_get{d:Nat}{es:List T}(g:∀v∈es,v.cells.length=d){i k:Nat}{v z:T}(j:es[i]? =some v)(m:v.cells[k]? =some z):(gH es)[i*d+k]? =some z:=by
 have c:i<es.length:=by
  grind
 have f:k<v.cells.length:=by
  grind
 have b:=rg g i;have l:es[i]=v:=by rw[az c]at j;grind
 rw[aH c,l,nc]at b;rw[<-bM,b,cv f];exact m
def O9{f:T}{d:List T}{j off c g:Nat}{i:af am}{r:ab}{fz:Nat×Nat}{b:T}(y:¬oU μ j)(u:hp[j]? =some (.cells i r fz))
 (k:∀b∈f::d,b.cells.length=c) (z:off+(gH (f::d)).length<=i.size) (s:∀b∈gH (f::d),xE b)
 (hr:∀(m:Nat) b,(gH (f::d))[m]? =some b->gW hp μ b (i.getD (off+m) Go.undef)) (q:(f::d)[g]? =some b):
 gW hp μ (.j9 b.cells) (.pointer (some ⟨j,off+g*c,none⟩)):=by
 have p:=ay q;have v:g<(f::d).length:=by
  grind
 have t:=iS k;have x:=k b p;refine .j9 b.cells j (off+g*c) i r fz y u ?_ (λn l=>s n (List.mem_flatMap.2 ⟨b,p,l⟩)) λm n l=>?_
 ·rw[x];have:g*c+c<=(gH (f::d)).length:=by
   rw[t]
   calc g*c+c=(g+1)*c:=by rw[cg]
    _<=(f::d).length*c:=aV _ v
  omega
 ·have:=hr _ n (flat_get k q l);rwa[<-cV]at this
theorem Ci(jQ:jF P cx){t:ab}{x y:ah}(i:St cx base w.heap μ h)(r:lj w.heap μ J e a.tmps)(aA:o.op= .indexAddr t x y){s:T}{L:H}
 (b:qZ t x y cx J e h=some (.val s L)):jP cx base w μ h.size ((execOp a.eval o).run P w) s L:=by
 replace b:=dX.1 b;obtain⟨c1,cF,b⟩:=b;replace b:=dX.1 b;obtain⟨p,hp,b⟩:=b;replace b:=dX.1 b;obtain⟨q,aE,b⟩:=b;replace b:=dX.1 b;obtain⟨f,b8,b⟩:=b;obtain⟨k,b9⟩:=pi b8;obtain⟨d,ae,a6⟩:=lP (jQ.ty _ _ cF);have S:=iL i r hp;have a7:=(b9▸iL i r aE).kA;cases cL:c1.u<;>rw[cL]at b a6<;>simp at b
 ·rename_i bS;have:=mV a6;subst this;replace b:=dX.1 b;obtain⟨m,aX,b⟩:=b;have Q:=(jQ.ty _ _ aX).run_sizeOf w;unfold lM at b;cases p<;>simp at b
  ·rename_i E bT;replace b:=dX.1 b;obtain⟨z,bB,b⟩:=b;replace b:=ew.1 b;obtain⟨hl,b⟩:=b;simp at b;obtain⟨rfl,rfl⟩:=b;have hl:=aF hl;cases E with
   |nil=>grind
   |cons dv E=>
    obtain⟨bi,off,c7,cX,a8,bC,fz,K,av,an,dk,di,bA,bu,b6,hr⟩:=S.wm;have cp:cX=m.size:=by rw[<-bA z (ay bB)];exact hl
    have dn:f<E.length+1:=by
     grind
    have ds:¬((E.length:Int)+1<=(f:Int)):=D;refine jP.pure i ?_ (O9 av an bA bu b6 hr bB);rw[<-lO,cp];have I:¬E.length+1<=f:=D;simp[execOp,aA,Instr.indexAt,a7,asIntOf,run_underlying ae,K,Q,I]
  ·rename_i A B V l bT;replace b:=ew.1 b;obtain⟨hl,b⟩:=b;replace b:=dX.1 b;obtain⟨bn,Z,b⟩:=b;replace b:=ew.1 b;obtain⟨X,b⟩:=b;replace b:=ew.1 b;obtain⟨bp,b⟩:=b;simp at b;obtain⟨rfl,rfl⟩:=b;rw[aJ]at hl;have X:=aF X;have bp:=aF bp;obtain⟨g,v,bN,K,C,N,de,b7⟩:=S.u5;obtain⟨W,bW⟩:=i.Nv C Z;obtain⟨c4,c6,bH⟩:=b7 D;have ca:bN≠0:=D;rw[bH ca]at K;refine jP.pure (c:= .pointer (some ⟨g.jz,(V+f)*g.sz,none⟩)) i ?_ (.ptr A B (V+f) 0 g _ C N λ_=>by simp);have I:¬l<=f:=D;have bX:(⟨g.jz,V*g.sz,none⟩:Addr).add (f*m.size)=⟨g.jz,(V+f)*g.sz,none⟩:=by
    rw[lO,<-X,W,cw]
   simp[execOp,aA,Instr.indexAt,a7,asIntOf,run_underlying ae,K,Q,I,bX]
 ·rename_i n bS;have:=tH a6;subst this;replace b:=dX.1 b;obtain⟨m,aX,b⟩:=b;have Q:=(jQ.ty _ _ aX).run_sizeOf w;unfold qr at b;replace b:=ew.1 b;obtain⟨hl,b⟩:=b;rw[aJ]at hl;have I:¬n<=f:=D;have aN:∀v:Addr,a.eval x= .pointer (some v)->(execOp a.eval o).run P w= .ok (.value (.pointer (some (v.add (f*m.size))))) w:=by
   intro v aE;simp[execOp,aA,Instr.indexAt,a7,asIntOf,run_underlying ae,aE,Instr.sureAddr,Q,I]
  cases p<;>simp at b
  ·rename_i A B U j;replace b:=dX.1 b;obtain⟨bn,Z,b⟩:=b;obtain⟨g,v,O,C,N,bs⟩:=S.rH;obtain⟨W,bW⟩:=i.Nv C Z;cases F:Nat.beq bn.sz m.size with
   |false=>
    rw[F]at b;have b:some (mS.val (T.ptr A B U (j+f*m.size)) h)=some (.val s L):=b;simp only[ar,mS.val.injEq]at b;obtain⟨rfl,rfl⟩:=b;refine jP.pure i (aN v O) (.ptr A B U (j+f*m.size) g _ C N λal=>?_);rw[bs al,lO,cV]
   |true=>
    rw[F]at b;have b:iG (Nat.beq j 0) (some (mS.val (T.ptr A B (U+f) 0) h))=some (.val s L):=b;replace b:=ew.1 b;obtain⟨ap,b⟩:=b;have ap:=aF ap;subst ap;simp only[ar]at b;obtain⟨rfl,rfl⟩:=b;have F:=aF F;refine jP.pure i (aN v O) (.ptr A B (U+f) 0 g _ C N λal=>?_);rw[bs al,lO,<-F,W,cw];simp
  ·rename_i c9;replace b:=dX.1 b;obtain⟨dd,M,b⟩:=b;simp at b;obtain⟨rfl,rfl⟩:=b;obtain⟨bi,off,a8,bC,fz,O,av,an,bu,cb,hr⟩:=S.m9;rw[nd]at M;split at M
   ·rename_i dm;simp at M;subst M;refine jP.pure i (aN _ O) ?_;rw[lO];refine .j9 _ bi (off+f*m.size) a8 bC fz av an (by grind) (λs R=>cb s (bK R)) λk s R=>?_;rw[bM]at R;have:=hr _ s R;rwa[<-cV]at this
   grind
end
end
section
section
variable {P:ai}{cx:Ctx}{base:Nat}{w:World}{μ:Mu}{h:H}{J:Nat}{e:Env}{a:Act}{o:Oper}{hp:af Obj}
theorem CX(jQ:jF P cx){q j:ab}{s:ah}(g:St cx base w.heap μ h)(A:lj w.heap μ J e a.tmps)(n:o.op= .convert q j s){r:T}{k:H}{c:T}
 (d:∃i,cx.ty q=some i) (hp:ir cx J e s=some c) (b:conv cx j c=some r) (x:k=h):jP cx base w μ h.size ((execOp a.eval o).run P w) r k:=by
 subst x;obtain⟨E,d⟩:=d;have⟨C,m,_⟩:=lP (jQ.ty _ _ d);replace b:=dX.1 b;obtain⟨i,y,b⟩:=b;have⟨B,l,f⟩:=lP (jQ.ty _ _ y);have p:=iL g A hp;cases z:i.u<;>rw[z]at b f<;>simp at b
 ·have:=yx f;subst this;cases c<;>simp at b;subst b;exact jP.pure g (by simp[execOp,n,convert,run_underlying m,run_underlying l,p.kA,Conv.intToInt]) (.int _ _)
 ·have:=uJ f;subst this;cases c<;>simp at b;subst b;have⟨v,t⟩:=p.mU;exact jP.pure g (by simp[execOp,n,convert,run_underlying m,run_underlying l,v]) (.str _ t)
def wP{g:aa ah}{c:aa Nat}(p:St cx base w.heap μ h)(n:lj w.heap μ J e a.tmps)(b:kw cx J e g=some c):
 (g=none/\c=none)\/∃d i f,g=some d/\c=some f/\a.eval d= .int i (f:Nat):=by
 cases g with
 |none=>left;simp[kw]at b;grind
 |some d=>
  right;have b:(Z (ir cx J e d) λj=>Z (rN j) λc=>some (some c))=some c:=b;replace b:=dX.1 b;obtain⟨j,m,b⟩:=b;replace b:=dX.1 b;obtain⟨f,l,b⟩:=b;simp at b;subst b;have⟨i,k⟩:=pi l;exact⟨d,i,f,rfl,rfl,(k▸iL p n m).kA⟩
def run_sliceBound{d:am}{j:ak}{b:Nat}(i:d= .int j (b:Nat)){c:Nat}(k:b<=c)(f:BoundsCode):(Instr.sliceBound d c f).run P w= .ok b w:=by
 subst i;have g:0<=((b:Nat):Int)/\((b:Nat):Int)<=(c:Int):=⟨D,D⟩;simp only[Instr.sliceBound,asIntOf,Sem.run_bind,Sem.run_pure,Result.andThen_ok,g,and_self,bj];simp
def sJ{isS:Bool}{len cap:Nat}{q p r:aa ah}{l d m:aa Nat}
 (n:(q=none/\l=none)\/∃c i b,q=some c/\l=some b/\a.eval c= .int i (b:Nat)) (t:(p=none/\d=none)\/∃c i b,p=some c/\d=some b/\a.eval c= .int i (b:Nat))
 (B:(r=none/\m=none)\/∃c i b,r=some c/\m=some b/\a.eval c= .int i (b:Nat)) (C:∀b,m=some b->b<=cap/\d=some b) (hl:iH l 0<=iH d len) (u:iH d len<=len) (J:len<=cap):
 (Instr.sliceBounds isS len cap (q.map a.eval) (p.map a.eval) (r.map a.eval)).run P w= .ok (iH l 0,iH d len,iH m cap) w:=by
 rcases B with⟨rfl,rfl⟩|⟨L,K,F,rfl,rfl,s⟩
 ·rcases t with⟨rfl,rfl⟩|⟨I,E,k,rfl,rfl,g⟩
  ·rcases n with⟨rfl,rfl⟩|⟨A,z,j,rfl,rfl,f⟩
   ·rfl
   ·have hl:j<=len:=hl;simp[Instr.sliceBounds,iH,run_sliceBound f hl]
  ·have u:k<=len:=u;have v:k<=cap:=D;rcases n with⟨rfl,rfl⟩|⟨A,z,j,rfl,rfl,f⟩
   ·simp[Instr.sliceBounds,iH,run_sliceBound g v]
   ·have hl:j<=k:=hl;simp[Instr.sliceBounds,iH,run_sliceBound g v,run_sliceBound f hl]
 ·have⟨x,y⟩:=C F rfl;rcases t with⟨rfl,rfl⟩|⟨I,E,k,rfl,rfl,g⟩
  ·grind
  ·simp at y;subst y;rcases n with⟨rfl,rfl⟩|⟨A,z,j,rfl,rfl,f⟩
   ·simp[Instr.sliceBounds,iH,run_sliceBound g (au _),run_sliceBound s x]
   ·have hl:j<=k:=hl;simp[Instr.sliceBounds,iH,run_sliceBound g (au _),run_sliceBound s x,run_sliceBound f hl]
def GW(b:Nat):iH none b=b:=rfl
def Bv{j:Type}{d g:List j}{c b:Nat}(l:c<=b)(f:MW d c b=some g):b<=d.length/\g=(d.drop c).take (b-c):=by
 unfold MW at f;have⟨m,i,k⟩:=dX.1 f;rw[nd]at i
 grind [pj]
def Fs{c:Nat}{b:List T}(f:∀d∈b,d.cells.length=c)(g i:Nat):gH ((b.drop g).take i)=((gH b).drop (g*c)).take (i*c):=by
 rw[rg f,tR (λd j=>f d (bK j))]
def Je{g:T}{f:List T}{m off i:Nat}{l:af am}{t:ab}{fz:Nat×Nat}{b d:Nat}{p:T}{k:List T}{full:Bool}{cap:Nat}(A:¬oU μ m)(x:hp[m]? =some (.cells l t fz))
 (r:∀c∈g::f,c.cells.length=i) (I:off+(gH (g::f)).length<=l.size) (B:∀c∈gH (g::f),xE c)
 (hr:∀(n:Nat) c,(gH (g::f))[n]? =some c->gW hp μ c (l.getD (off+n) Go.undef)) (F:b<=d) (E:d<=(g::f).length) (s:p::k=((g::f).drop b).take (d-b))
 (C:d-b<=cap) (u:full=true->cap=d-b):gW hp μ (.ed (p::k) full) (.slice (some ⟨m,off+b*i,none⟩) (d-b) cap):=by
 have y:k.length+1=d-b:=by
  have:=bO List.length s
  grind
 have v:=iS r;have q:=Fs r b (d-b);rw[<-s]at q;have z:∀c∈p::k,c∈g::f:=λc j=>bK (bJ (s▸j));rw[<-y];refine .ed p k full m (off+b*i) cap i l t fz A x D (λn=>by rw[u n];omega) (λc j=>r c (z c j)) ?_ ?_ ?_
 ·rw[q];simp only[List.length_take,List.length_drop];have:b*i+(d-b)*i<=(gH (g::f)).length:=by
   rw[v,<-cw];simp_all[aV]
  omega
 ·intro c j;rw[q]at j
  grind
 grind
def Dm(d:List Nat)(b c:Nat):(bytesOf d).extract b c=bytesOf ((d.drop b).take (c-b)):=by
 apply ByteArray.ext;have:((bytesOf d).extract b c).data.toList=((bytesOf d).data.toList.drop b).take (c-b):=Lib.extract_data _ _ _;apply cI;rw[this];simp[bytesOf,List.map_take,List.map_drop]
def Jh(jQ:jF P cx){t:ab}{x:ah}{Q I R:aa ah}(S:St cx base w.heap μ h)(bp:o.op= .slice t x Q I R){d:Nat}{y:ab}(a7:P.underlying t=some (.array d y)){u:T}
 (bB:gW w.heap μ u (a.eval x)) {g f l:aa Nat}
 (bN:(Q=none/\g=none)\/∃m q c,Q=some m/\g=some c/\a.eval m= .int q (c:Nat)) (bS:(I=none/\f=none)\/∃m q c,I=some m/\f=some c/\a.eval m= .int q (c:Nat))
 (bT:(R=none/\l=none)\/∃m q c,R=some m/\l=some c/\a.eval m= .int q (c:Nat)) (ca:A9 f l=true) (k:jI cx h (.array d y) u=true) {v:T}
 (b:qP (asSlice (.array d y) u) g f l=some v):jP cx base w μ h.size ((execOp a.eval o).run P w) v h:=by
 unfold jI at k;simp only at k;cases K:cx.ty y with
 |none=>rw[K]at k;grind
 |some an=>
  rw[K]at k;have bA:=(jQ.ty _ _ K).run_sizeOf w;have hp:∃n r ae j,u= .ptr n r ae j:=by cases u<;>first|exact⟨_,_,_,_,rfl⟩|(simp at k)
  obtain⟨n,r,ae,j,rfl⟩:=hp;simp only at k;cases F:h.get n with
  |none=>rw[F]at k;grind
  |some U=>
   rw[F]at k;obtain⟨bW,aA,cp,b8,cb,av⟩:=U;simp only[ax,cj]at k;obtain⟨⟨⟨⟨⟨⟨L,al⟩,M⟩,N⟩,bC⟩,bH⟩,O⟩:=k;have L:=aF L;have al:=aF al;have M:=aF M;have N:=aF N;have O:=aF O;rw[kq]at O;subst M N bC bH;have⟨i,bX,bu,s,W,aX⟩:=bB.rH;have⟨U,E,C⟩:=S.box n i s;rw[F]at E;simp only[ar]at E;subst E;have b6:aA=i.ep:=C.ep;have ap:bW=i.sz:=C.sz;have b7:i.cap=av.length:=(C.plain rfl).vC rfl;have V:=aX D;simp at V;subst V;have b:xN n r 0 d false (iH g 0) (iH f d) l=some v:=b;unfold xN at b;replace b:=ew.1 b;obtain⟨J,b⟩:=b;replace b:=ew.1 b;obtain⟨z,b⟩:=b;have J:=aY J;have z:=aY z;simp only[jd,eJ,Nat.add_eq,cJ,Nat.sub_eq]at b;have Z:(∀c,l=some c->c=iH f d)->
    (execOp a.eval o).run P w= .ok (.value (.slice (some (if iH l d=iH g 0 then⟨i.jz,0,none⟩else(⟨i.jz,0,none⟩:Addr).add (iH g 0*an.size))) (iH f d-iH g 0) (iH l d-iH g 0))) w:=by
    intro aN;have s:=sJ (P:=P) (w:=w) (isS:=false) (len:=d) (cap:=d) bN bS bT (by
     intro c bi;have p:=aN c bi;cases f with
     |none=>simp_all[A9]
     |some q=>
      have p:c=q:=p;subst p;have b9:c<=d:=z
      grind) J z (au _)
    simp[execOp,bp,Instr.sliceAt,run_underlying a7,bu,Instr.sureAddr,s,bA]
   have a6:∀B:Nat,(⟨i.jz,0,none⟩:Addr).add (B*an.size)=⟨i.jz,B*i.sz,none⟩:=by
    intro B;rw[lO,<-L,ap];simp
   cases X:l with
   |none=>
    subst X;have A:=Z Y;have b:some (T.arr n r (iH g 0) (iH f d-iH g 0) false)=some v:=b;simp only[ar]at b;subst b;refine jP.pure S A (.arr _ _ _ _ _ i _ _ s W ?_ λa8=>⟨Y,λ_=>?_,λbn=>?_⟩)
    ·grind [iH]
    ·grind [iH]
    grind
   |some c=>
    subst X;have b:iG (Nat.beq c (iH f d)) (some (T.arr n r (iH g 0) (iH f d-iH g 0) true))=some v:=b;replace b:=ew.1 b;obtain⟨p,b⟩:=b;have p:=aF p;simp only[ar]at b;subst b;have A:=Z (by grind);have bs:iH (some c) d=iH f d:=p;rw[bs]at A;refine jP.pure S A (.arr _ _ _ _ _ i _ _ s W (au _) λa8=>⟨λ_=>rfl,Y,λbn=>?_⟩);have aE:¬iH f d=iH g 0:=D;rw[ao aE,a6]
theorem Ik(jQ:jF P cx){t:ab}{x:ah}{dm c7 ca:aa ah}(v:St cx base w.heap μ h)(r:lj w.heap μ J e a.tmps)(bT:o.op= .slice t x dm c7 ca){s:T}{bB:H}
 (j:Fa t x dm c7 ca cx J e h=some (.val s bB)):jP cx base w μ h.size ((execOp a.eval o).run P w) s bB:=by
 replace j:=dX.1 j;obtain⟨dn,eC,j⟩:=j;replace j:=dX.1 j;obtain⟨p,hp,j⟩:=j;replace j:=ew.1 j;obtain⟨m,j⟩:=j;replace j:=dX.1 j;obtain⟨g,eh,j⟩:=j;replace j:=dX.1 j;obtain⟨i,ef,j⟩:=j;replace j:=dX.1 j;obtain⟨L,et,j⟩:=j;replace j:=ew.1 j;obtain⟨di,j⟩:=j;obtain⟨f,rfl⟩:=iv.1 j;have cb:=wP v r eh;have cp:=wP v r ef;have bA:=wP v r et;obtain⟨d,bH,a6⟩:=lP (jQ.ty _ _ eC);have an:=iL v r hp;by_cases ea:∃n a7,dn.u= .array n a7
 ·obtain⟨n,a7,b7⟩:=ea;rw[b7]at m a6 f;have:=tH a6;subst this;exact Jh jQ v bT bH an cb cp bA di m f
 unfold jI at m;cases b7:dn.u<;>rw[b7]at m a6 f<;>(try simp at m)
 ·
  have:=uJ a6;subst this;replace f:qP p g i L=some s:=f;cases p<;>simp at m;rename_i X;obtain⟨M,ds⟩:=an.mU;unfold qP at f;cases K:L with
  |some k=>rw[K]at f;simp at f
  |none=>
   subst K;have f:iG (Nat.ble (iH g 0) (iH i (ml X))) (Z (MW X (iH g 0) (iH i (ml X))) λr=>some (T.str r))=some s:=f;rw[kq]at f;replace f:=ew.1 f;obtain⟨A,f⟩:=f;have A:=aY A;replace f:=dX.1 f;obtain⟨q,bX,f⟩:=f;obtain⟨bn,rfl⟩:=Bv A bX;simp at f;subst f;have er:ca=none:=by rcases bA with⟨Q,_⟩|⟨_,_,_,_,Q,_⟩;exact Q;simp at Q
   subst er;have I:=sJ (P:=P) (w:=w) (isS:=false) (len:=X.length) (cap:=X.length) cb cp bA Y A bn (au _);simp only[Option.map_none]at I;refine jP.pure (c:= .string ((bytesOf X).extract (iH g 0) (iH i X.length))) v ?_ ?_
   ·simp[execOp,bT,Instr.sliceAt,Instr.slice,run_underlying bH,M,kz,I]
   ·rw[Dm];exact .str _ λc al=>ds c (bK (bJ al))
 ·rename_i a7;have:=mV a6;subst this;replace f:qP p g i L=some s:=f;cases b6:cx.ty a7 with
  |none=>rw[b6]at m;simp at m
  |some av=>
   rw[b6]at m;have eB:=(jQ.ty _ _ b6).run_sizeOf w;have eu:∀k,L=some k->i.isSome=true:=by
    intro k bs;subst bs;cases i with
    |none=>simp[A9]at di
    |some Q=>rfl
   have V:∀(E:aa Addr) (len cap:Nat),a.eval x= .slice E len cap->len<=cap->iH g 0<=iH i len->iH i len<=len->(∀k,L=some k->k=iH i len)->
    (execOp a.eval o).run P w= .ok (.value (.slice (if iH L cap=iH g 0 then E else E.map (·.add (iH g 0*av.size))) (iH i len-iH g 0) (iH L cap-iH g 0))) w:=by
    intro E len cap O al ae U aN;have I:=sJ (P:=P) (w:=w) (isS:=true) (len:=len) (cap:=cap) cb cp bA (by
     intro k bs;have bu:=eu k bs;have B:=aN k bs;cases i with
     |none=>simp at bu
     |some Q=>
      have B:k=Q:=B;subst B;have U:k<=len:=U;exact⟨D,rfl⟩) ae U al
    simp[execOp,bT,Instr.sliceAt,Instr.slice,run_underlying bH,O,I,eB]
   unfold qP at f;cases p<;>simp at m
   ·rename_i l full;have f:qO l full (iH g 0) (iH i l.length) L=some s:=by rw[<-kq];exact f
    unfold qO at f;replace f:=ew.1 f;obtain⟨A,f⟩:=f;have A:=aY A;replace f:=dX.1 f;obtain⟨q,bX,f⟩:=f;obtain⟨bn,W⟩:=Bv A bX;cases l with
    |nil=>
     obtain⟨E,M⟩:=an.wj;have eA:q=[]:=by rw[W];simp
     rw[eA]at f;have c6:iH i 0=0:=by simpa using bn
     have dd:iH g 0=0:=by simp only[cQ]at A;omega
     cases K:L with
     |none=>
      subst K;have f:some (T.ed [] false)=some s:=f;simp at f;subst f;have:=V E 0 0 M (au _) D D Y;refine jP.pure v this ?_;rw[dd,c6,GW];exact .ph _ _
     |some k=>
      subst K;have f:iG (Nat.beq k (iH i 0)) (some (T.ed [] false))=some s:=f;replace f:=ew.1 f;obtain⟨B,f⟩:=f;have B:=aF B;simp at f;subst f;have:=V E 0 0 M (au _) D D (by intro Q aX;simp at aX;omega);refine jP.pure v this ?_;have eo:iH (some k) 0=0:=by show k=0;omega
      rw[dd,c6,eo];exact .ph _ _
    |cons R l=>
     obtain⟨eF,off,cap,eD,eE,eH,fz,M,de,c4,c9,ec,b8,bu,al,hr⟩:=an.wm;have dk:eD=av.size:=by
      have m:Nat.beq (ml R.cells) av.size=true:=m;have:=aF m;rw[kq]at this;rw[<-this];exact(b8 R Y).symm
     have bp:iH i (l.length+1)<=l.length+1:=by simpa using bn
     have bi:iH g 0<=iH i (l.length+1):=by simpa using A
     cases K:L with
     |none=>
      subst K;have z:=V _ _ _ M c9 bi bp Y;cases q with
      |nil=>
       have f:some T.iO=some s:=f;simp at f;subst f;have b9:iH i (l.length+1)-iH g 0=0:=by
        have:=bO List.length W;simp only[cQ,List.length_take,List.length_drop,aP]at this;omega
       rw[b9]at z;exact jP.pure v z (.iO _ _)
      |cons y cF=>
       have f:some (T.ed (y::cF) (@Bool.rec (λ_=>Bool) false (Nat.beq (iH i (R::l).length) (ml (R::l))) full))=some s:=f;have ey:iH g 0<iH i (l.length+1):=by
        have:=bO List.length W;simp only[aP,List.length_take,List.length_drop]at this;omega
       have N:¬cap=iH g 0:=D;simp only[GW,N,bh,Option.map_some,lO]at z;refine jP.pure v z ?_;simp only[ar]at f;rw[<-f,<-dk];have:=Je (full:= @Bool.rec (λ_=>Bool) false (Nat.beq (iH i (R::l).length) (ml (R::l))) full) (cap:=cap-iH g 0) de c4 b8 bu al hr bi (by simpa using bp) W D (by
        intro I;cases full with
        |false=>simp at I
        |true=>
         have I:Nat.beq (iH i (R::l).length) (ml (R::l))=true:=I;have:=aF I;rw[kq]at this;simp only[aP]at this;rw[ec rfl,this])
       exact this
     |some k=>
      subst K;have f:iG (Nat.beq k (iH i (R::l).length)) (@List.rec T (λ_=>aa T) (some (T.ed [] false)) (λ_ _ _=>some (T.ed q true)) q)=some s:=f;replace f:=ew.1 f;obtain⟨B,f⟩:=f;have B:=aF B;simp only[aP]at B;have z:=V _ _ _ M c9 bi bp (by intro Q aX;simp at aX;omega);have bW:iH (some k) cap=iH i (l.length+1):=B;rw[bW]at z;cases q with
      |nil=>
       have f:some (T.ed [] false)=some s:=f;simp at f;subst f;have b9:iH i (l.length+1)-iH g 0=0:=by
        have:=bO List.length W;simp only[cQ,List.length_take,List.length_drop,aP]at this;omega
       rw[b9]at z;exact jP.pure v z (.ph _ _)
      |cons y cF=>
       have f:some (T.ed (y::cF) true)=some s:=f;have ey:iH g 0<iH i (l.length+1):=by
        have:=bO List.length W;simp only[aP,List.length_take,List.length_drop]at this;omega
       have N:¬iH i (l.length+1)=iH g 0:=D;simp only[N,bh,Option.map_some,lO]at z;refine jP.pure v z ?_;simp only[ar]at f;rw[<-f,<-dk];exact Je de c4 b8 bu al hr bi (by simpa using bp) W (au _) (λ_=>rfl)
   ·
    obtain⟨E,cap,M⟩:=an.Ce;have f:iG (Nat.beq (iH g 0) 0) (iG (Nat.beq (iH i 0) 0) (@Option.rec Nat (λ_=>aa T) (some T.iO) (λk=>iG (Nat.beq k 0) (some (T.ed [] false))) L))=some s:=f;replace f:=ew.1 f;obtain⟨ae,f⟩:=f;replace f:=ew.1 f;obtain⟨U,f⟩:=f;have ae:=aF ae;have U:=aF U;cases K:L with
    |none=>
     subst K;have f:some T.iO=some s:=f;simp at f;subst f;have:=V E 0 cap M (aw _) D D Y;rw[ae,U]at this;exact jP.pure v this (.iO _ _)
    |some k=>
     subst K;have f:iG (Nat.beq k 0) (some (T.ed [] false))=some s:=f;replace f:=ew.1 f;obtain⟨aN,f⟩:=f;have aN:=aF aN;simp at f;subst f;subst aN;have:=V E 0 cap M (aw _) D D (by intro Q aX;simp at aX;omega);rw[ae,U]at this;exact jP.pure v this (.ph _ _)
   ·rename_i b aA ap C full;obtain⟨S,E,F,M,I,bN,cX,bC⟩:=an.u5;have f:xN b aA ap C full (iH g 0) (iH i C) L=some s:=f;unfold xN at f;replace f:=ew.1 f;obtain⟨A,f⟩:=f;replace f:=ew.1 f;obtain⟨a8,f⟩:=f;have A:=aY A;have a8:=aY a8;simp only[jd,eJ]at f;have eb:S.sz=av.size:=by
     cases bS:bB.get b with
     |none=>rw[bS]at m;simp at m
     |some dv=>
      rw[bS]at m;have m:Nat.beq dv.sz av.size=true:=m;rw[<-aF m];exact(v.Nv I bS).1.symm
    have cL:∀c:Nat,F≠0->aA=S.ep->E.map (·.add (c*av.size))=some ⟨S.jz,(ap+c)*S.sz,none⟩:=by
     intro c N O;rw[(bC O).2.2 N,<-eb];simp[lO,cw]
    cases K:L with
    |none=>
     subst K;have z:=V E C F M cX A a8 Y;have f:(@Bool.rec (λ_=>aa T) (some (T.arr b aA (ap+iH g 0) (iH i C-iH g 0) false)) (iG (Nat.beq (iH i C) C) (some (T.arr b aA (ap+iH g 0) (iH i C-iH g 0) true))) full)=some s:=f;cases full with
     |false=>
      simp at f;subst f;refine jP.pure v z (.arr _ _ _ _ _ S _ _ I bN ?_ λO=>⟨Y,λ_=>?_,λN=>?_⟩)
      ·show iH i C-iH g 0<=F-iH g 0;omega
      ·have:=(bC O).2.1 rfl;show ap+iH g 0+(F-iH g 0)=S.cap;omega
      ·have N:F-iH g 0≠0:=N;have aE:¬iH none F=iH g 0:=by show¬F=iH g 0;omega
       rw[ao aE];exact cL _ D O
     |true=>
      replace f:=ew.1 f;obtain⟨c1,f⟩:=f;have c1:=aF c1;simp at f;subst f;refine jP.pure v z (.arr _ _ _ _ _ S _ _ I bN ?_ λO=>⟨λ_=>?_,Y,λN=>?_⟩)
      ·show iH i C-iH g 0<=F-iH g 0;omega
      ·have:=(bC O).1 rfl;show F-iH g 0=iH i C-iH g 0;omega
      ·have N:F-iH g 0≠0:=N;have aE:¬iH none F=iH g 0:=by show¬F=iH g 0;omega
       rw[ao aE];exact cL _ D O
    |some k=>
     subst K;have f:iG (Nat.beq k (iH i C)) (some (T.arr b aA (ap+iH g 0) (iH i C-iH g 0) true))=some s:=f;replace f:=ew.1 f;obtain⟨B,f⟩:=f;have B:=aF B;simp at f;subst f;have z:=V E C F M cX A a8 (by grind);have bW:iH (some k) F=iH i C:=B;rw[bW]at z;refine jP.pure v z (.arr _ _ _ _ _ S _ _ I bN (au _) λO=>⟨λ_=>rfl,Y,λN=>?_⟩);have aE:¬iH i C=iH g 0:=D;rw[ao aE]
     grind
 grind
end
end
section
section
variable {P:ai}{cx:Ctx}{base:Nat}{w:World}{μ:Mu}{h h':H}{J:Nat}{e:Env}{a:Act}{o:Oper}{hp hp':af Obj}
def St.fG(g:St cx base hp μ h){b:Nat}{c:Loc}(f:μ b=some c):b<h.size:=by
 have⟨i,d,_⟩:=g.box b c f;rw[H.get_eq]at d
 grind
def St.Tf(c:St cx base hp μ h):μ h.size=none:=by
 cases b:μ h.size with
 |none=>rfl
 |some d=>exact absurd (c.fG b) (Nat.lt_irrefl _)
def sU(μ:Mu)(d:Nat)(c:Loc):Mu:=⟨λb=>if b=d then some c else μ b,μ.qD⟩
theorem j8(μ:Mu)(c:Nat)(b:Loc):sU μ c b c=some b:=by simp[sU]
theorem jx(μ:Mu){c b:Nat}(d:Loc)(h:b≠c):sU μ c d b=μ b:=by simp[sU,h]
def H.cons(h:H)(b:jv):H:=⟨h.size+1,h.low,b::h.gU⟩
def H.mh(b:Nat->T)(h:H)(c:jv):h.new b c=some (b h.size,h.cons c):=H.Tg b h c
def H.vw(c:h.gU.length=h.size)(b:jv):(h.cons b).get h.size=some b:=by
 rw[H.get_eq];simp[H.cons]
theorem H.ow{b:Nat}(f:b<h.size)(c:jv):(h.cons c).get b=h.get b:=by
 rw[H.get_eq,H.get_eq];have d:b<(h.cons c).size:=by show b<h.size+1;omega
 rw[aq d,aq f];show(c::h.gU)[h.size+1-1-b]? =_;have:h.size+1-1-b=(h.size-1-b)+1:=D;rw[this];simp
def St.new(d:St cx base hp μ h)(n:Obj)(l:Loc)(m:jv)(z:l.jz=hp.size)(F:Ext hp μ (hp.push n) (sU μ h.size l)->s7 (hp.push n) (sU μ h.size l) l m):
 St cx base (hp.push n) (sU μ h.size l) (h.cons m)/\Ext hp μ (hp.push n) (sU μ h.size l)/\Ax μ (sU μ h.size l) h.size (h.cons m).size:=by
 have E:=d.Tf;have p:Ext hp μ (hp.push n) (sU μ h.size l):=by
  refine⟨Y,λr C t=>⟨?_,?_⟩,λb k c=>?_,rfl,λr C _=>?_⟩
  rotate_right
  ·rw[Array.getElem?_push];grind
  ·rw[Array.getElem?_push];grind
  ·rintro(⟨b,k,c,rfl⟩|hr)
   ·by_cases i:b=h.size
    ·subst i;rw[j8]at c;grind
    ·rw[jx _ _ i]at c;exact t (.inl ⟨b,k,c,rfl⟩)
   ·exact t (.inr hr)
  ·have:b≠h.size:=by rintro rfl;rw[E]at c;grind
   exact⟨k,by rw[jx _ _ this];exact c,.inl rfl⟩
 refine⟨⟨?_,?_,?_,?_,?_,?_,?_,?_⟩,p,?_⟩
 ·show(m::h.gU).length=h.size+1;simp[d.wf]
 ·simp;have:=d.fit;omega
 ·intro b k c;by_cases i:b=h.size
  ·subst i;rw[j8]at c;simp at c;subst c;exact⟨m,H.vw d.wf m,F p⟩
  ·rw[jx _ _ i]at c;have⟨I,j,g⟩:=d.box b k c;refine⟨I,by rw[H.ow (d.fG c)];exact j,g.ext p ?_⟩;have:=d.lt c;rw[Array.getElem?_push];grind
 ·intro b s u v j g A;by_cases c:b=h.size<;>by_cases q:s=h.size
  ·omega
  ·subst c;rw[j8]at j;simp at j;subst j;rw[jx _ _ q]at g;have:=d.lt g;omega
  ·subst q;rw[j8]at g;simp at g;subst g;rw[jx _ _ c]at j;have:=d.lt j;omega
  ·rw[jx _ _ c]at j;rw[jx _ _ q]at g;exact d.inj b s u v j g A
 ·intro b k c;by_cases i:b=h.size
  ·subst i;rw[j8]at c;simp at c;subst c;rw[z];exact d.fit
  ·rw[jx _ _ i]at c;exact d.low b k c
 ·intro b k c hr;by_cases i:b=h.size
  ·subst i;rw[j8]at c;simp at c;subst c;have:=d.sY _ hr;omega
  ·rw[jx _ _ i]at c;exact d.apart b k c hr
 ·intro r hr;have:=d.sY r hr
  grind
 ·intro y x B;exact(d.Bl y x B).ext p
 ·refine⟨by show h.size<=h.size+1;omega,λb c=>?_,λb j g=>?_⟩
  ·by_cases i:b=h.size
   ·right;exact⟨D,by show b<h.size+1;omega⟩
   grind [jx]
  ·have:b=h.size:=by have g:b<h.size+1:=g;omega
   subst this;rw[j8];simp
def Dz{c:Nat}{d:jv}(f:h.put c d=some h')(k:h.gU.length=h.size):
 h'.size=h.size/\h'.gU.length=h'.size/\h'.get c=some d/\∀b,b≠c->h'.get b=h.get b:=by
 obtain⟨g,i,rfl⟩:=H.x8.1 f;refine⟨rfl,by grind,?_,λb j=>?_⟩
 ·rw[H.get_eq];grind
 ·rw[H.get_eq,H.get_eq]
  grind
def St.change(d:St cx base hp μ h){f:Nat}{i L':Loc}{B:jv}(p:μ f=some i)(J:h.put f B=some h')(A:hp.size<=hp'.size)(x:∀n,n<hp.size->n≠i.jz->hp'[n]? =hp[n]?)
 (L:L'=i\/(i.ep<L'.ep/\(L'.jz=i.jz\/hp.size<=L'.jz))) (M:Ext hp μ hp' (sU μ f L')->s7 hp' (sU μ f L') L' B):
 St cx base hp' (sU μ f L') h'/\Ext hp μ hp' (sU μ f L')/\Ax μ (sU μ f L') h.size h'.size:=by
 have⟨p1,p2,p3,p4⟩:=Dz J d.wf;have q:L'.jz=i.jz\/hp.size<=L'.jz:=by
  grind
 have u:Ext hp μ hp' (sU μ f L'):=by
  refine⟨A,λn v t=>⟨x n v λk=>t (.inl ⟨f,i,p,k.symm⟩),?_⟩,λc m b=>?_,rfl,λn v hr=>x n v λk=>d.apart f i p (k▸hr)⟩
  ·rintro(⟨c,m,b,rfl⟩|hr)
   ·by_cases g:c=f
    ·subst g;rw[j8]at b;simp at b;subst b;rcases q with k|k
     ·exact t (.inl ⟨c,i,p,k.symm⟩)
     ·omega
    ·rw[jx _ _ g]at b;exact t (.inl ⟨c,m,b,rfl⟩)
   ·exact t (.inr hr)
  ·by_cases g:c=f
   ·subst g;rw[p]at b;grind [j8]
   ·exact⟨m,by rw[jx _ _ g];exact b,.inl rfl⟩
 refine⟨⟨p2,by have:=d.fit;omega,?_,?_,?_,?_,λn hr=>bF (d.sY n hr) A,?_⟩,u,⟨D,λc b=>?_,λc j l=>by omega⟩⟩
 ·intro c m b;by_cases g:c=f
  ·subst g;rw[j8]at b;grind
  ·rw[jx _ _ g]at b;have⟨K,j,l⟩:=d.box c m b;refine⟨K,by rw[p4 c g];exact j,l.ext u (x _ (d.lt b) λk=>g (d.inj c f m i b p k))⟩
 ·intro c r y z j l F;by_cases b:c=f<;>by_cases s:r=f
  ·omega
  ·subst b;rw[j8]at j;simp at j;subst j;rw[jx _ _ s]at l;rcases q with k|k
   ·exact absurd (d.inj r c z i l p D) s
   ·have:=d.lt l;omega
  ·subst s;rw[j8]at l;simp at l;subst l;rw[jx _ _ b]at j;rcases q with k|k
   ·exact absurd (d.inj c r y i j p D) b
   ·have:=d.lt j;omega
  ·rw[jx _ _ b]at j;rw[jx _ _ s]at l;exact d.inj c r y z j l F
 ·intro c m b;by_cases g:c=f
  ·subst g;rw[j8]at b;simp at b;subst b;rcases q with k|k
   ·rw[k];exact d.low _ _ p
   ·have:=d.fit;omega
  ·rw[jx _ _ g]at b;exact d.low c m b
 ·intro c m b hr;by_cases g:c=f
  ·subst g;rw[j8]at b;simp at b;subst b;rcases q with k|k
   ·exact d.apart c i p (by rw[<-k];exact hr)
   ·have:=d.sY _ hr;omega
  ·rw[jx _ _ g]at b;exact d.apart c m b hr
 ·intro E C I;exact(d.Bl E C I).ext u
 grind [jx]
end
end
section
section
variable {P:ai}{cx:Ctx}{base:Nat}{w:World}{μ:Mu}{h h':H}{J:Nat}{e:Env}{a:Act}{o:Oper}{hp hp':af Obj}
theorem j3{b:aa (T×H)}{c:T}{h':H}:j7 b=some (.val c h')↔b=some (c,h'):=by
 unfold j7;cases b with
 |none=>simp
 |some d=>obtain⟨g,f⟩:=d;simp
def yL(r:St cx base w.heap μ h)(b:ab){arr:af am}{cap sz:Nat}{ex:Bool}{es:List T}(k:arr.size=cap*sz)(n:es.length<=cap)(l:ex=true->cap=es.length)
 (q:∀d∈es,d.cells.length=sz) (p:∀d∈gH es,d.scalar=true) (j:iJ w.heap μ (gH es) (arr.toList.take (gH es).length)):
 ∃c,St cx base (w.heap.push (.cells arr b)) c (h.cons (mL sz ex es))/\rk w μ {w with heap:=w.heap.push (.cells arr b)} c/\Ax μ c h.size (h.cons (mL sz ex es)).size/\
  c h.size=some ⟨0,w.heap.size,cap,sz⟩:=by
 have⟨f,g,i⟩:=r.new (.cells arr b) ⟨0,w.heap.size,cap,sz⟩ (mL sz ex es) rfl (by
  intro m;refine⟨rfl,rfl,λ_=>⟨⟨arr,b,Y,k,j.ext m⟩,n,l,q,p⟩,λs=>by grind [mL]⟩)
 exact⟨_,f,⟨g,rfl,rfl,rfl⟩,i,j8 _ _ _⟩
def AE{b:T}(h:b.scalar=true):b.cells=[b]:=by
 cases b<;>first|rfl|grind [T.scalar]
def Bm{b:List T}(h:∀c∈b,c.scalar=true):gH b=b:=by
 induction b with
 |nil=>rfl
 |cons c b g=>
  have f:=AE (h c Y);have d:=g λi j=>h i (by grind);unfold gH at d|-;rw[bm,f,d];rfl
theorem Ir(jQ:jF P cx){g:ab}(x:St cx base w.heap μ h)(t:o.op= .alloc g){i:T}
 (b:Fg g cx J e h=some (.val i h')):jP cx base w μ h.size ((execOp a.eval o).run P w) i h':=by
 replace b:=dX.1 b;obtain⟨c,y,b⟩:=b;have⟨f,u,_,z,k,B,v,A,C⟩:=(jQ.ty _ _ y).zero w;cases s:yP cx c with
 |false=>
  rw[s]at b;have b:j7 (h.new (λj=>T.ptr j 0 0 0) (mL c.size true [c.kR]))=some (.val i h'):=b;rw[j3,H.mh]at b;simp only[ar,aB]at b;obtain⟨rfl,rfl⟩:=b;have⟨r,l,m,n,p⟩:=yL x g (arr:=f.cells) (cap:=1) (sz:=c.size) (ex:=true) (es:=[c.kR]) D Y Y
   (by intro q d;simp at d;subst d;rw[v];omega) (by intro q d;simp[gH]at d;rw[v]at d;grind)
   (by
     have:gH [c.kR]=c.zero:=by grind [gH]
     rw[this];have hl:f.cells.toList.take c.zero.length=f.cells.toList:=by grind [bL]
     rw[hl];grind)
  refine⟨.pointer (some ⟨w.heap.size,0,none⟩),_,r,.inl ?_,.ptr _ 0 0 0 _ _ p (au _) (λ_=>by simp),l,m,n⟩;simp[execOp,t,Instr.alloc,u,newVar,newRow]
 |true=>
  rw[s]at b;have b:j7 (h.new (λj=>T.ptr j 0 0 0) (mL 1 true c.zero))=some (.val i h'):=b;rw[j3,H.mh]at b;simp only[ar,aB]at b;obtain⟨rfl,rfl⟩:=b;have⟨r,l,m,n,p⟩:=yL x g (arr:=f.cells) (cap:=c.zero.length) (sz:=1) (ex:=true) (es:=c.zero) D (au _) (λ_=>rfl)
   (by intro q d;rw[AE (k q d)];rfl) (by rw[Bm k];omega)
   (by
     rw[Bm k];have hl:f.cells.toList.take c.zero.length=f.cells.toList:=by grind [bL]
     rw[hl];grind)
  refine⟨.pointer (some ⟨w.heap.size,0,none⟩),_,r,.inl ?_,.ptr _ 0 0 0 _ _ p (au _) (λ_=>by simp),l,m,n⟩;simp[execOp,t,Instr.alloc,u,newVar,newRow]
theorem MC{i:ab}{d:ah}(g:St cx base w.heap μ h)(s:lj w.heap μ J e a.tmps)(m:o.op= .box i d){j:T}
 (b:Qn d cx J e h=some (.val j h')):jP cx base w μ h.size ((execOp a.eval o).run P w) j h':=by
 replace b:=dX.1 b;obtain⟨c,hp,b⟩:=b;replace b:=ew.1 b;obtain⟨k,b⟩:=b;rw[j3,H.mh]at b;simp only[ar,aB]at b;obtain⟨rfl,rfl⟩:=b;have⟨f,u,_⟩:=(iL g s hp).cells k;have l:=f.1;have⟨t,n,p,q,r⟩:=yL g i (arr:=(a.eval d).cells) (cap:=1) (sz:=c.cells.length) (ex:=true) (es:=[c]) (by grind) Y Y
  Y (by grind [gH])
  (by
    have:gH [c]=c.cells:=by simp[gH]
    rw[this,l,aI];exact f)
 rw[kq];refine⟨.pointer (some ⟨w.heap.size,0,none⟩),_,t,.inl ?_,.ptr _ 0 0 0 _ _ r (au _) (λ_=>by simp),n,p,q⟩;simp[execOp,m,Instr.box,newVar,newRow]
def VH(b c:List T):over b c=if c.length<=b.length then some (c++b.drop c.length)else none:=by
 induction c generalizing b with
 |nil=>rfl
 |cons i c f=>cases b with
  |nil=>rfl
  |cons j b=>
   show(Z (over b c) λg=>some (i::g))=_;rw[f];by_cases d:c.length<=b.length<;>simp[d]
def vM(b:List T)(c:Nat)(d:List T):mg b c d=if c+d.length<=b.length then some (b.take c++d++b.drop (c+d.length))else none:=by
 induction c generalizing b with
 |zero=>show over b d=_;rw[VH];simp
 |succ c j=>cases b with
  |nil=>show none=_;simp
  |cons f b=>
   show(Z (mg b c d) λk=>some (f::k))=_;rw[j];have g:c+1+d.length=(c+d.length)+1:=D;by_cases i:c+d.length<=b.length
   ·rw[aq i,aq (by grind),g];simp
   simp_all[ao]
def p9{b d f:List T}{c:Nat}(g:mg b c d=some f):c+d.length<=b.length/\f=b.take c++d++b.drop (c+d.length):=by
 rw[vM]at g
 grind
def Mo{d g f:List T}{j:Nat}(i:mg d j g=some f){c:T->Prop}(k:∀b∈d,c b)(l:∀b∈g,c b):∀b∈f,c b:=by
 obtain⟨_,rfl⟩:=p9 i
 grind
def Hu{cells:af am}{c:am}{off:Nat}(k:off+c.cells.size<=cells.size):
 (c.cells.zipIdx.foldl (λd (b:am×Nat)=>d.setIfInBounds (off+b.2) b.1) cells).toList=cells.toList.take off++c.cells.toList++cells.toList.drop (off+c.cells.size):=by
 have g:c.cells.zipIdx.foldl (λd (b:am×Nat)=>d.setIfInBounds (off+b.2) b.1) cells=(c.cells.toList.zipIdx 0).foldl (λd (b:am×Nat)=>d.setIfInBounds (off+b.2) b.1) cells:=by
  rw[<-Array.foldl_toList,Array.toList_zipIdx]
 rw[g];have⟨j,f⟩:=Great.foldl_set off c.cells.toList 0 cells;apply dh;intro i;have:=f i;rw[<-dJ]at this;rw[this]
 grind
def Fw(place:Nat->aa (Nat×Nat))(b:Nat×T)(d:List (Nat×T))(c:List T):
 nR place (b::d) c=Z (place b.1) λf=>iG (Nat.beq (ml b.2.cells) f.2) (Z (mg c f.1 b.2.cells) λg=>nR place d g):=rfl
def QI(hp:af Obj)(μ:Mu)(g:List (Nat×T))(qs:List (Nat×am)):Prop:=
 g.length=qs.length/\∀(f:Nat) d b,g[f]? =some (d,b)->∃c,qs[f]? =some (d,c)/\gW hp μ b c/\b.iN=true
def QI.nl{b:Nat×T}{g:List (Nat×T)}{qs:List (Nat×am)}(h:QI hp μ (b::g) qs):∃c i,qs=(b.1,c)::i/\gW hp μ b.2 c/\b.2.iN=true/\QI hp μ g i:=by
 obtain⟨hl,f⟩:=h;cases qs with
 |nil=>grind
 |cons p qs=>
  have⟨c,d,hr,j⟩:=f 0 b.1 b.2 Y;simp at d;subst d;exact⟨c,qs,rfl,hr,j,by grind,λl k m n=>by simpa using f (l+1) k m (by grind)⟩
def zi(v:St cx base w.heap μ h)(u:lj w.heap μ J e a.tmps){c:List (Nat×ah)}{l:List (Nat×T)}(i:partsOf cx J e c=some l):
 QI w.heap μ l (c.map λk=>(k.1,a.eval k.2)):=by
 unfold partsOf at i;have⟨hl,n⟩:=ul.1 i;refine⟨by grind,λd s f q=>?_⟩;have x:d<c.length:=by
  grind
 have⟨y,g,b⟩:=n d c[d] Y;rw[q]at g;simp at g;subst g;rcases p:c[d]with⟨t,j⟩;rw[p]at b;have b:(Z (ir cx J e j) λf=>iG f.iN (some (t,f)))=some (s,f):=b;have⟨z,r,b⟩:=dX.1 b;have⟨m,b⟩:=ew.1 b;simp at b;obtain⟨rfl,rfl⟩:=b;exact⟨a.eval j,by grind,iL v u r,m⟩
def xu{place place':Nat->aa (Nat×Nat)}(J:∀t f,place t=some f->place' t=some f):∀(k:List (Nat×T)) (qs:List (Nat×am)) (d g:List T) (cells:af am),
 QI hp μ k qs->iJ hp μ d cells.toList->(∀n∈d,n.scalar=true)->nR place k d=some g->
 ∃j,Instr.fill place' cells qs=some j/\iJ hp μ g j.toList/\(∀n∈g,n.scalar=true)/\j.size=cells.size:=by
 intro k;induction k with
 |nil=>
  intro qs d g cells hp i m b;have:qs=[]:=aW hp.1.symm;subst this;have:g=d:=by grind [nR]
  subst this;exact⟨cells,rfl,i,m,rfl⟩
 |cons U k L=>
  intro qs d g cells z i m b;obtain⟨c,R,rfl,hr,E,A⟩:=z.nl;rw[Fw]at b;have⟨f,K,b⟩:=dX.1 b;have⟨hl,b⟩:=ew.1 b;have⟨q,r,b⟩:=dX.1 b;have⟨p,v,_⟩:=hr.cells E;have I:=aF hl;rw[kq]at I;have⟨S,C⟩:=p9 r;have x:=i.1;have l:=p.1;simp only[cR]at x l;have F:f.1+c.cells.size<=cells.size:=D;have s:=Hu (cells:=cells) (c:=c) F;have y:iJ hp μ q (c.cells.zipIdx.foldl (λd (u:am×Nat)=>d.setIfInBounds (f.1+u.2) u.1) cells).toList:=by
   rw[s,C,<-l];exact((i.take f.1).append p).append (by rw[l];exact i.drop _)
  have⟨j,M,N,O,Q⟩:=L R q g _ A y (Mo r m v) b;refine⟨j,?_,N,O,?_⟩
  ·simp only[Instr.fill,J _ _ K];have B:¬(c.cells.size≠f.2||decide (f.1+c.cells.size>cells.size))=true:=by grind
   rw[ao B];exact M
  ·rw[Q];have:=bO List.length s
   grind
