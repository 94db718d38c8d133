/- Texts TiBase to TiRead2. -/
import Derived.Test.YtmaeadedikngoaaGreatDoorA0
import Derived.IntWalk
import Derived.Calls
import Derived.Laws.CopyRow
import Derived.Laws.Cells
import Derived.Laws.Entries
import Derived.WalkCall
import Derived.Laws.Strings
import Derived.Lib.Strings
import Derived.Laws.StructEq
import Derived.ChangeKeysEq
set_option linter.all false
namespace Go.TI
abbrev dE(n:Int):T:=.int .i64 n
abbrev dF:T:=.dM [] false
abbrev dG(s v:Nat)(e:List T):iZ:=⟨s,0,v,true,false,e⟩
@[simp] abbrev dH(v:fW)(n:Nat)(t:T):Prop:=TI.dL v n=some t
end Go.TI
namespace Go.TI
noncomputable section
@[simp] theorem dX {α β:Type} (a:α) (b:α->aa β):dU (some a) b=b a:=rfl
@[simp] theorem abJ {α β:Type} (a:α->aa β):dU (none:aa α) a=none:=rfl
def dJ{α β:Type}{a:aa α}{c:α->aa β}{d:β}:dU a c=some d↔∃b,a=some b/\c b=some d:=by
 cases a<;>simp
@[simp] theorem iu {α:Type} (a:aa α):gD true a=a:=rfl
@[simp] theorem Nf {α:Type} (a:aa α):gD false a=none:=rfl
def dR{α:Type}{a:Bool}{b:aa α}{c:α}:gD a b=some c↔a=true/\b=some c:=by
 cases a<;>simp
@[simp] theorem kG {α β d:Type} (a:α) (b:β) (c:α->β->d):two (a,b) c=c a b:=rfl
@[simp] theorem kS {e:Type} (d:Ex) (a:Env) (c:H) (b:Ex->Env->H->e):three (d,a,c) b=b d a c:=rfl
section lists
variable {α β:Type}
@[simp] theorem kE (b:List α) (a:Nat):mm b a=b[a]? :=by
 induction b generalizing a with
 |nil=>simp[mm]
 |cons e d c=>cases a with
  |zero=>rfl
  |succ a=>exact(c a).trans dA 
def kO(b:List α)(a:Nat)(c:α):kM b a c=if a<b.length then some (b.set a c)else none:=by
 induction b generalizing a with
 |nil=>rfl
 |cons h d f=>cases a with
  |zero=>rfl
  |succ a=>
   show(dU (kM d a c) λg=>some (h::g))=_;rw[f];by_cases e:a<d.length<;>simp[e]
def nR(a:Nat)(b:List α):takeN a b=if a<=b.length then some (b.take a)else none:=by
 induction a generalizing b with
 |zero=>rfl
 |succ a e=>cases b with
  |nil=>rfl
  |cons g c=>
   show(dU (takeN a c) λf=>some (g::f))=_;rw[e];by_cases d:a<=c.length<;>simp[d]
def md(a:Nat)(b:List α):jX a b=if a<=b.length then some (b.drop a)else none:=by
 induction a generalizing b with
 |zero=>rfl
 |succ a e=>cases b with
  |nil=>rfl
  |cons f c=>
   show jX a c=_;rw[e];by_cases d:a<=c.length<;>simp[d]
@[simp] theorem jE (a:List α):kW a=a.length:=by
 induction a with
 |nil=>rfl
 |cons d c b=>show Nat.succ (kW c)=_;rw[b];rfl
@[simp] theorem pT (a b:List α):Ej a b=some (a++b):=by
 induction a with
 |nil=>rfl
 |cons f d c=>show(dU (Ej d b) λe=>some (f::e))=_;rw[c];rfl
def jH(a:α->aa β)(c:α)(b:List α):fN a (c::b)=dU (a c) λe=>dU (fN a b) λd=>some (e::d):=rfl
@[simp] theorem Wd (a:α->aa β):fN a []=some []:=rfl
def rS{i:α->aa β}{e:List α}{c:List β}:fN i e=some c↔e.length=c.length/\∀(b:Nat) h,e[b]? =some h->∃f,c[b]? =some f/\i h=some f:=by
 induction e generalizing c with
 |nil=>
  constructor
  ·intro a;simp at a;subst a;simp
  ·rintro⟨a,_⟩;simp at a;simp[bm a.symm]
 |cons h e m=>
  rw[jH];constructor
  ·intro a;obtain⟨f,o,a⟩:=dJ.1 a;obtain⟨q,ht,a⟩:=dJ.1 a;simp at a;subst a;obtain⟨hl,g⟩:=m.1 ht;refine⟨by simp[hl],λb k d=> ?_⟩;cases b with
   |zero=>simp at d;subst d;exact⟨f,dA,o⟩
   |succ b=>simp at d;obtain⟨p,n,j⟩:=g b k d;exact⟨p,by simpa using n,j⟩
  ·rintro⟨hl,g⟩;cases c with
   |nil=>simp at hl
   |cons f c=>
    obtain⟨r,l,j⟩:=g 0 h dA;simp at l;subst l;have:fN i e=some c:=m.2 ⟨by simpa using hl,λb k d=>by simpa using g (b+1) k (by simpa using d)⟩;rw[j,this];rfl
@[simp] theorem nT (b:α) (a:Nat):py b a=List.replicate a b:=by
 induction a with
 |zero=>rfl
 |succ a c=>show b::py b a=_;rw[c];rfl
@[simp] theorem ze (a:α->Bool) (b:List α):wW a b=b.all a:=by
 induction b with
 |nil=>rfl
 |cons c b e=>
  show @Bool.rec (λ_=>Bool) false (wW a b) (a c)=_;rw[e];cases d:a c<;>simp[d]
end lists
@[simp] theorem iE (a:Nat):gY a=some a:=by cases a<;>rfl
@[simp] theorem V8 (b:Int):La b=some b:=by
 cases b with
 |ofNat a=>cases a<;>rfl
 |negSucc a=>cases a<;>rfl
@[simp] theorem oO (a:ak) (b:Int):xE a b=some (.int a b):=by simp[xE]
@[simp] theorem rN (a:Bool):xa a=some (.bool a):=by cases a<;>rfl
@[simp] theorem xS (a b:ak):(Dx a b=true)↔a=b:=by cases a<;>cases b<;>decide
def xP(c b:Int):Lg c b=decide (c<b):=by
 cases c with
 |ofNat d=>cases b with
  |ofNat a=>
   show Nat.blt d a=_;rw[bI,aH];simp
  |negSucc a=>show false=_;symm;simp;omega
 |negSucc d=>cases b with
  |ofNat a=>show true=_;symm;simp;omega
  |negSucc a=>
   show Nat.blt a d=_;rw[bI,aH];simp;omega
def xW(c b:Int):Rz c b=(c==b):=by
 cases c with
 |ofNat d=>cases b with
  |ofNat a=>
   show Nat.beq d a=_;rw[bI,Nat.beq_eq];simp;omega
  |negSucc a=>rfl
 |negSucc d=>cases b with
  |ofNat a=>rfl
  |negSucc a=>
   show Nat.beq d a=_;rw[bI,Nat.beq_eq];simp
def jF(c:ak)(d:Int):KG c d=c.wrap d:=by
 cases c<;>try rfl
 cases d with
 |ofNat a=>
  show @Bool.rec (λ_=>Int) (IntKind.i64.wrap (.ofNat a)) (Int.ofNat a) (Nat.ble a 9223372036854775807)=_;cases b:Nat.ble a 9223372036854775807
  ·rfl
  ·have:=bA b;show Int.ofNat a=_;exact(IntWalk.i64_in _ dB).symm
 |negSucc a=>
  show @Bool.rec (λ_=>Int) (IntKind.i64.wrap (.negSucc a)) (Int.negSucc a) (Nat.ble a 9223372036854775807)=_;cases b:Nat.ble a 9223372036854775807
  ·rfl
  ·have:=bA b;show Int.negSucc a=_;exact(IntWalk.i64_in _ dz).symm
@[simp] theorem yr (a:ak) (b:Int):pY a b=some (.int a (a.wrap b)):=by simp[pY,jF]
def Gh(b a:List Nat):UT b a=(b==a):=by
 induction b generalizing a with
 |nil=>cases a<;>rfl
 |cons c b f=>cases a with
  |nil=>rfl
  |cons d a=>
   show @Bool.rec (λ_=>Bool) false (UT b a) (Nat.beq c d)=_;rw[f];rw[List.cons_beq_cons];cases e:Nat.beq c d
   ·have:(c==d)=false:=by rw[<-Bool.not_eq_true,beq_iff_eq,<-Nat.beq_eq];simp[e]
    simp[this]
   ·have:(c==d)=true:=by rw[beq_iff_eq,<-Nat.beq_eq];exact e
    simp[this]
def H.get_eq(b:H)(a:Nat):b.get a=if a<b.size then b.fx[b.size-1-a]? else none:=by
 obtain⟨d,f,e⟩:=b;show gD (Nat.blt a d) (mm e _)=_;by_cases c:a<d
 ·have:Nat.blt a d=true:=by rw[aH];exact c
  simp[this,c]
 ·have:Nat.blt a d=false:=by rw[<-Bool.not_eq_true,aH];exact c
  simp[this,c]
def H.PK(b:Nat->T)(a:H)(c:iZ):a.new b c=some (b a.size,⟨a.size+1,a.low,c::a.fx⟩):=by
 obtain⟨d,f,e⟩:=a;show(dU (gY (Nat.succ d)) λg=>some (b d,(⟨g,f,c::e⟩:H)))=_;simp
def H.vK{b k:H}{a:Nat}{j:iZ}:b.put a j=some k↔
 a<b.size/\b.size-1-a<b.fx.length/\k=⟨b.size,if a<b.low then a else b.low,b.fx.set (b.size-1-a) j⟩:=by
 obtain⟨g,d,l⟩:=b;show gD (Nat.blt a g) (dU (kM l (g-1-a) j) λh=> @Bool.rec (λ_=>aa H) (some (⟨g,d,h⟩:H)) (some ⟨g,a,h⟩) (Nat.blt a d))=_↔_;rw[dR,aH,kO];constructor
 ·rintro⟨i,m⟩;obtain⟨h,f,e⟩:=dJ.1 m;split at f
  ·rename_i hl;simp at f;subst f;refine⟨i,hl,?_⟩;by_cases c:a<d
   ·have:Nat.blt a d=true:=by rw[aH];exact c
    rw[this]at e;simp at e;simp[c,<-e]
   ·have:Nat.blt a d=false:=by rw[<-Bool.not_eq_true,aH];exact c
    rw[this]at e;simp at e;simp[c,<-e]
  ·simp at f
 ·rintro⟨i,hl,rfl⟩;refine⟨i,?_⟩;simp only[]at hl;rw[aq hl];by_cases c:a<d
  ·have:Nat.blt a d=true:=by rw[aH];exact c
   simp[this,c]
  ·have:Nat.blt a d=false:=by rw[<-Bool.not_eq_true,aH];exact c
   simp[this,c]
end
noncomputable section
structure Loc where
 ep:Nat
 iS:Nat
 cap:Nat
 sz:Nat
structure Mu where
 loc:Nat->aa Loc
 pw:Nat->Prop
instance :CoeFun Mu (λ_=>Nat->aa Loc):=⟨Mu.loc⟩
def nC(c:Mu)(b:Nat):Prop:=(∃d a,c d=some a/\a.iS=b)\/c.pw b
def T.scalar:T->Bool
 | .undef| .agg _| .tuple _=>false
 |_=>true
inductive kv:T->Prop where
 |bool (b:Bool):kv (.bool b)
 |int (k:ak) (n:Int):kv (.int k n)
 |str (s:List Nat):kv (.str s)
 |kx:kv .kx
 |jy (cs:List T) (h:∀v∈cs,kv v):kv (.jy cs)
 |dM (es:List T) (full:Bool) (h:∀v∈es,kv v):kv (.dM es full)
 |gu:kv .gu
 |kN:kv .kN
 |kP:kv .kP
 |agg (cs:List T) (h:∀v∈cs,kv v):kv (.agg cs)
def vj(a:T):Prop:=a.scalar=true/\kv a
def fw(a:List T):List T:=a.flatMap T.cells
def bytesOf(a:List Nat):ByteArray:=⟨(a.map UInt8.ofNat).toArray⟩
inductive fD (hp:af Obj) (μ:Mu):T->am->Prop where
 |undef:fD hp μ .undef (.tuple #[])
 |bool (b:Bool):fD hp μ (.bool b) (.bool b)
 |int (k:ak) (n:Int):fD hp μ (.int k n) (.int k n)
 |str (s:List Nat) (h:∀c∈s,c<256):fD hp μ (.str s) (.string (bytesOf s))
 |kx:fD hp μ .kx (.pointer none)
 |ptr (b ep i j:Nat) (L:Loc) (a:Addr) (hb:μ b=some L) (he:ep<=L.ep) (ha:ep=L.ep->a=⟨L.iS,i*L.sz+j,none⟩):
  fD hp μ (.ptr b ep i j) (.pointer (some a))
 |jy (cells:List T) (iS off:Nat) (arr:af am) (t:ab) (fz:Nat×Nat) (hn:¬nC μ iS) (hh:hp[iS]? =some (.cells arr t fz))
  (hs:off+cells.length<=arr.size) (hc:∀v∈cells,vj v)
  (hr:∀(k:Nat) v,cells[k]? =some v->fD hp μ v (arr.getD (off+k) Go.undef)):fD hp μ (.jy cells) (.pointer (some ⟨iS,off,none⟩))
 |nP (full:Bool) (a:aa Addr):fD hp μ (.dM [] full) (.slice a 0 0)
 |dM (e:T) (es:List T) (full:Bool) (iS off cap sz:Nat) (arr:af am) (t:ab) (fz:Nat×Nat) (hn:¬nC μ iS)
  (hh:hp[iS]? =some (.cells arr t fz)) (hl:es.length+1<=cap) (hf:full=true->cap=es.length+1)
  (hu:∀v∈e::es,v.cells.length=sz) (hs:off+(fw (e::es)).length<=arr.size) (hc:∀v∈fw (e::es),vj v)
  (hr:∀(k:Nat) v,(fw (e::es))[k]? =some v->fD hp μ v (arr.getD (off+k) Go.undef)):
  fD hp μ (.dM (e::es) full) (.slice (some ⟨iS,off,none⟩) (es.length+1) cap)
 |gu (a:aa Addr) (cap:Nat):fD hp μ .gu (.slice a 0 cap)
 |arr (b ep o l:Nat) (full:Bool) (L:Loc) (a:aa Addr) (cp:Nat) (hb:μ b=some L) (he:ep<=L.ep) (hl:l<=cp)
  (h:ep=L.ep->(full=true->cp=l)/\(full=false->o+cp=L.cap)/\(cp≠0->a=some ⟨L.iS,o*L.sz,none⟩)):
  fD hp μ (.arr b ep o l full) (.slice a l cp)
 |func (f:aj) (caps:List T) (cs:af am) (hs:cs.size=caps.length)
  (hr:∀(k:Nat) v,caps[k]? =some v->fD hp μ v (cs.getD k Go.undef)):fD hp μ (.func f caps) (.func (.func f) #[] cs)
 |kN:fD hp μ .kN .nilFunc
 |kP:fD hp μ .kP .nilIface
 |iface (t:ab) (v:T) (c:am) (h:fD hp μ v c):fD hp μ (.iface t v) (.iface t c)
 |iter (b:Nat) (L:Loc) (a:Addr) (hb:μ b=some L) (h:L.ep=0->a=⟨L.iS,0,none⟩):fD hp μ (.iter b) (.pointer (some a))
 |map (b:Nat) (L:Loc) (i:Nat) (hb:μ b=some L) (h:L.ep=0->i=L.iS):fD hp μ (.map b) (.map (some i))
 |nU:fD hp μ .nU (.map none)
 |agg (cells:List T) (cs:af am) (hs:cs.size=cells.length) (hc:∀v∈cells,v.scalar=true)
  (hr:∀(k:Nat) v,cells[k]? =some v->fD hp μ v (cs.getD k Go.undef)):fD hp μ (.agg cells) (.agg cs)
 |tuple (vs:List T) (cs:af am) (hs:cs.size=vs.length)
  (hr:∀(k:Nat) v,vs[k]? =some v->fD hp μ v (cs.getD k Go.undef)):fD hp μ (.tuple vs) (.tuple cs)
structure Ext(hp:af Obj)(μ:Mu)(hp':af Obj)(μ':Mu):Prop where
 size:hp.size<=hp'.size
 nN:∀i,i<hp.size->¬nC μ i->hp'[i]? =hp[i]? /\¬nC μ' i
 mu:∀b L,μ b=some L->∃L',μ' b=some L'/\(L'=L\/L.ep<L'.ep)
 pw:μ'.pw=μ.pw
 kept:∀i,i<hp.size->μ.pw i->hp'[i]? =hp[i]?
structure pN(w:World)(μ:Mu)(w':World)(μ':Mu):Prop where
 ext:Ext w.heap μ w'.heap μ'
 os:w'.os=w.os
 tape:w'.tape=w.tape
 output:w'.output=w.output
def Ext.refl(b:af Obj)(c:Mu):Ext b c b c:=⟨au _,λ_ _ a=>⟨rfl,a⟩,λ_ d a=>⟨d,a,.inl rfl⟩,rfl,λ_ _ _=>rfl⟩
def Ext.trans{hp f g:af Obj}{h i j:Mu}(a:Ext hp h f i)(d:Ext f i g j):Ext hp h g j:=by
 refine⟨aS a.size d.size,λc b s=> ?_,λe k r=> ?_,d.pw.trans a.pw,λc b hr=> ?_⟩
 rotate_right
 ·rw[d.kept c (bE b a.size) (by rw[a.pw];exact hr),a.kept c b hr]
 ·obtain⟨n,t⟩:=a.nN c b s;obtain⟨o,u⟩:=d.nN c (bE b a.size) t;exact⟨o.trans n,u⟩
 ·obtain⟨l,p,r1⟩:=a.mu e k r;obtain⟨m,q,r2⟩:=d.mu e l p;refine⟨m,q,?_⟩;rcases r1 with rfl|r1
  ·exact r2
  ·rcases r2 with rfl|r2
   ·exact .inr r1
   ·exact .inr (Nat.lt_trans r1 r2)
def pN.refl(a:World)(b:Mu):pN a b a b:=⟨Ext.refl _ _,rfl,rfl,rfl⟩
def pN.trans{c w1 d:World}{e f g:Mu}(a:pN c e w1 f)(b:pN w1 f d g):pN c e d g:=
 ⟨a.ext.trans b.ext,b.os.trans a.os,b.tape.trans a.tape,b.output.trans a.output⟩
def pG{a:af Obj}{b:Nat}{f:Obj}(c:a[b]? =some f):b<a.size:=by
 rcases aF b a.size with e|d
 ·exact e
 ·simp[cU d]at c
def fD.ext{A B:af Obj}{C D:Mu}{u:T}{t:am}(e:fD A C u t)(k:Ext A C B D):fD B D u t:=by
 induction e with
 |undef=>exact .undef
 |bool a=>exact .bool a
 |int N q=>exact .int N q
 |str R e=>exact .str R e
 |kx=>exact .kx
 |ptr a x z M g d i J I=>
  obtain⟨h,j,r⟩:=k.mu a g i;refine .ptr a x z M h d j ?_ ?_
  ·rcases r with rfl|r<;>omega
  ·intro b;rcases r with rfl|r
   ·exact I b
   ·omega
 |jy w l off arr s fz y p f o _ c=>
  obtain⟨b,q⟩:=k.nN l (pG p) y;exact .jy w l off arr s fz q (b.trans p) f o c
 |nP n d=>exact .nP n d
 |dM b G n l off v S arr s fz y p hl K L f o _ c=>
  obtain⟨Q,q⟩:=k.nN l (pG p) y;exact .dM b G n l off v S arr s fz q (Q.trans p) hl K L f o c
 |gu d v=>exact .gu d v
 |arr a x P O n g d F i J hl e=>
  obtain⟨h,j,r⟩:=k.mu a g i;refine .arr a x P O n h d F j ?_ hl ?_
  ·rcases r with rfl|r<;>omega
  ·intro b;rcases r with rfl|r
   ·exact e b
   ·omega
 |func H E m f _ c=>exact .func H E m f c
 |kN=>exact .kN
 |kP=>exact .kP
 |iface s u t _ c=>exact .iface s u t c
 |iter a g d i e=>
  obtain⟨h,j,r⟩:=k.mu a g i;refine .iter a h d j ?_;intro b;rcases r with rfl|r
  ·exact e b
  ·omega
 |map a g z i e=>
  obtain⟨h,j,r⟩:=k.mu a g i;refine .map a h z j ?_;intro b;rcases r with rfl|r
  ·exact e b
  ·omega
 |nU=>exact .nU
 |agg w m f o _ c=>exact .agg w m f o c
 |tuple U m f _ c=>exact .tuple U m f c
def gJ(e:af Obj)(f:Mu)(d:List T)(a:List am):Prop:=
 d.length=a.length/\∀(b:Nat) c,d[b]? =some c->fD e f c (a.getD b Go.undef)
def gJ.ext{c d:af Obj}{f g:Mu}{e:List T}{a:List am}(b:gJ c f e a)(k:Ext c f d g):gJ d g e a:=
 ⟨b.1,λi j h=>(b.2 i j h).ext k⟩
def gJ.nil{b:af Obj}{c:Mu}:gJ b c [] []:=⟨rfl,λd e a=>by simp at a⟩
def gJ.cons{b:af Obj}{d:Mu}{h:T}{e:am}{i:List T}{f:List am}(j:fD b d h e)(g:gJ b d i f):gJ b d (h::i) (e::f):=by
 refine⟨by simp[g.1],λc k a=> ?_⟩;cases c with
 |zero=>simp at a;subst a;simpa using j
 |succ c=>simp at a;simpa using g.2 c k a
def gJ.mH{d:af Obj}{f:Mu}{e:T}{g:List T}{c:List am}(h:gJ d f (e::g) c):∃a b,c=a::b/\fD d f e a/\gJ d f g b:=by
 obtain⟨hl,hr⟩:=h;cases c with
 |nil=>simp at hl
 |cons a b=>exact⟨a,b,rfl,by simpa using hr 0 e dA,by simpa using hl,λj k i=>by simpa using hr (j+1) k (by simpa using i)⟩
def gJ.append{c:af Obj}{d:Mu}{a g:List T}{b e:List am}(f:gJ c d a b)(h:gJ c d g e):gJ c d (a++g) (b++e):=by
 induction a generalizing b with
 |nil=>obtain⟨hl,_⟩:=f;simp at hl;rw[bm hl.symm];simpa using h
 |cons n a k=>obtain⟨l,m,rfl,j,i⟩:=f.mH;exact gJ.cons j (k i)
def gJ.take{e:af Obj}{f:Mu}{a:List T}{c:List am}(d:gJ e f a c)(b:Nat):gJ e f (a.take b) (c.take b):=by
 induction b generalizing a c with
 |zero=>simpa using gJ.nil
 |succ b i=>cases a with
  |nil=>obtain⟨hl,_⟩:=d;simp at hl;rw[bm hl.symm];simpa using gJ.nil
  |cons l a=>obtain⟨j,k,rfl,h,g⟩:=d.mH;exact gJ.cons h (i g)
def gJ.drop{e:af Obj}{f:Mu}{a:List T}{c:List am}(d:gJ e f a c)(b:Nat):gJ e f (a.drop b) (c.drop b):=by
 induction b generalizing a c with
 |zero=>simpa using d
 |succ b h=>cases a with
  |nil=>obtain⟨hl,_⟩:=d;simp at hl;rw[bm hl.symm];simpa using gJ.nil
  |cons k a=>obtain⟨i,j,rfl,_,g⟩:=d.mH;simpa using h g
def gJ.get{f:af Obj}{h:Mu}{b:List T}{a:List am}(d:gJ f h b a){k:Nat}{v:T}(g:b[k]? =some v):∃c,a[k]? =some c/\fD f h v c:=by
 have e:k<a.length:=by
  rw[<-d.1];rcases aF k b.length with j|i
  ·exact j
  ·simp[aM i]at g
 refine⟨a[k],by simp[e],?_⟩;simpa[List.getD,e]using d.2 k v g
def rI{d:af Obj}{f:Mu}{b:T}{a:am}(c:fD d f b a)(e:b.scalar=true):a.oneCell'=true:=by
 cases c<;>first|rfl|(simp[T.scalar]at e)
def fD.cells{p:af Obj}{r:Mu}{b:T}{c:am}(d:fD p r b c)(C:b.il=true):
 gJ p r b.cells c.cells.toList/\(∀e∈b.cells,e.scalar=true)/\∀e∈c.cells.toList,e.oneCell'=true:=by
 have a:∀{b:T} {c:am},fD p r b c->b.scalar=true->b.cells=[b]->c.cells= #[c]->
  gJ p r b.cells c.cells.toList/\(∀e∈b.cells,e.scalar=true)/\∀e∈c.cells.toList,e.oneCell'=true:=by
  intro b c d f A j;rw[A,j];refine⟨gJ.cons d gJ.nil,?_,?_⟩
  ·intro e l;simp at l;rw[l];exact f
  ·intro e l;simp at l;rw[l];exact rI d f
 cases d with
 |agg n s f j hr=>
  have K:gJ p r n s.toList:=⟨by simp[f],λm b A=>by simpa[bg,List.getD]using hr m b A⟩;refine⟨K,j,?_⟩;intro e O;have l:e∈s.toList:=O;obtain⟨m,y,rfl⟩:=List.getElem_of_mem l;have D:m<n.length:=by simp at y;omega
  have:=hr m n[m] (by simp[D]);have J:=rI this (j _ (aC D));simp at y;simpa[bg,y]using J
 |undef=>simp[T.il]at C
 |tuple=>simp[T.il]at C
 |bool h=>exact a (.bool h) rfl rfl rfl
 |int m R=>exact a (.int m R) rfl rfl rfl
 |str U i=>exact a (.str U i) rfl rfl rfl
 |kx=>exact a .kx rfl rfl rfl
 |ptr h v B P k g i w L=>exact a (.ptr h v B P k g i w L) rfl rfl rfl
 |jy n t off arr q fz z x f j hr=>exact a (.jy n t off arr q fz z x f j hr) rfl rfl rfl
 |nP o g=>exact a (.nP o g) rfl rfl rfl
 |dM G H o t off u V arr q fz z x hl M N f j hr=>exact a (.dM G H o t off u V arr q fz z x hl M N f j hr) rfl rfl rfl
 |gu g u=>exact a (.gu g u) rfl rfl rfl
 |arr h v S Q o k g F i w hl d=>exact a (.arr h v S Q o k g F i w hl d) rfl rfl rfl
 |func I E s f hr=>exact a (.func I E s f hr) rfl rfl rfl
 |kN=>exact a .kN rfl rfl rfl
 |kP=>exact a .kP rfl rfl rfl
 |iface q b c d=>exact a (.iface q b c d) rfl rfl rfl
 |iter h k g i d=>exact a (.iter h k g i d) rfl rfl rfl
 |map h k B i d=>exact a (.map h k B i d) rfl rfl rfl
 |nU=>exact a .nU rfl rfl rfl
structure zj(hp:af Obj)(μ:Mu)(L:Loc)(tz:Bool)(eY:List T):Prop where
 row:∃arr t,hp[L.iS]? =some (.cells arr t (0,0))/\arr.size=L.cap*L.sz/\gJ hp μ (fw eY) (arr.toList.take (fw eY).length)
 room:eY.length<=L.cap
 tz:tz=true->L.cap=eY.length
 size:∀v∈eY,v.cells.length=L.sz
 scalar:∀v∈fw eY,v.scalar=true
def abX(c:af Obj)(i:Mu)(j:Loc)(e:List T):Prop:=
 ∃a:af MapEntry,c[j.iS]? =some (.map a a.size)/\a.size=e.length/\
  ∀(d:Nat) h,e[d]? =some h->∃f g b,h= .tuple [f,g]/\a[d]? =some b/\b.born=d/\fD c i f b.key/\fD c i g b.val
def abY(c:af Obj)(i:Mu)(g:Loc)(h:List T):Prop:=
 ∃e d f b a,h=[.map e,.int .i64 (.ofNat f),.int .i64 (.ofNat b),.int .i64 (.ofNat a)]/\fD c i (.map e) (.map (some d))/\b<=a/\
  c[g.iS]? =some (.mapIter (some d) b (Array.range f) a)
structure qM(hp:af Obj)(μ:Mu)(L:Loc)(x:iZ):Prop where
 ep:x.ep=L.ep
 sz:x.sz=L.sz
 plain:x.it=false->zj hp μ L x.exact x.eY
 iter:x.it=true->x.ep=0/\((∃s pos,x.eY=[.str s,.int .i64 (.ofNat pos)]/\(∀c∈s,c<256)/\hp[L.iS]? =some (.stringIter (bytesOf s) pos))\/abX hp μ L x.eY\/abY hp μ L x.eY)
structure St(cx:Ctx)(base:Nat)(hp:af Obj)(μ:Mu)(h:H):Prop where
 wf:h.fx.length=h.size
 fit:base<=hp.size
 box:∀b L,μ b=some L->∃x,h.get b=some x/\qM hp μ L x
 inj:∀b b' L L',μ b=some L->μ b'=some L'->L.iS=L'.iS->b=b'
 low:∀b L,μ b=some L->base<=L.iS
 apart:∀b L,μ b=some L->¬μ.pw L.iS
 qH:∀i,μ.pw i->i<hp.size
 yN:∀g cs,cx.gl g=some cs->fD hp μ (.jy cs) (.pointer (some ⟨g,0,none⟩))
def zj.ext{c d:af Obj}{g h:Mu}{b:Loc}{f:Bool}{e:List T}(a:zj c g b f e)(j:Ext c g d h)(n:d[b.iS]? =c[b.iS]?):zj d h b f e:=by
 obtain⟨i,o,k,l,m⟩:=a.row;exact⟨⟨i,o,n.trans k,l,m.ext j⟩,a.room,a.tz,a.size,a.scalar⟩
def qM.ext{k l:af Obj}{n o:Mu}{e:Loc}{i:iZ}(g:qM k n e i)(f:Ext k n l o)(h:l[e.iS]? =k[e.iS]?):qM l o e i:=
 ⟨g.ep,g.sz,λd=>(g.plain d).ext f h,λd=>by
   obtain⟨j,⟨C,m,a,b,c⟩|⟨q,a,b,c⟩|⟨A,z,m,D,p,a,b,c,w⟩⟩:=g.iter d
   ·exact⟨j,.inl ⟨C,m,a,b,h.trans c⟩⟩
   ·refine⟨j,.inr (.inl ⟨q,h.trans a,b,λy i x=> ?_⟩)⟩;obtain⟨d,E,B,r,s,t,u,v⟩:=c y i x;exact⟨d,E,B,r,s,t,u.ext f,v.ext f⟩
   ·exact⟨j,.inr (.inr ⟨A,z,m,D,p,a,b.ext f,c,h.trans w⟩)⟩⟩
def qM.lt{e:af Obj}{i:Mu}{b:Loc}{f:iZ}(c:qM e i b f):b.iS<e.size:=by
 cases d:f.it with
 |false=>obtain⟨j,m,a,_⟩:=(c.plain d).row;exact pG a
 |true=>
  obtain⟨_,⟨s,l,_,_,g⟩|⟨k,a,_⟩|⟨_,_,_,_,_,_,_,_,h⟩⟩:=c.iter d
  ·exact pG g
  ·exact pG a
  ·exact pG h
def St.lt{cx:Ctx}{e:Nat}{c:af Obj}{d:Mu}{f:H}(s:St cx e c d f){b:Nat}{a:Loc}(g:d b=some a):a.iS<c.size:=by
 obtain⟨i,_,h⟩:=s.box b a g;exact h.lt
section
variable {P:ai}{cx:Ctx}
structure uX(P:ai)(t:ab)(ty:Ty):Prop where
 is:∃cmp,Vl P t cmp=some ty
def jG{a:Nat}(b:a<256):(UInt8.ofNat a).toNat=a:=by
 simp[UInt8.toNat_ofNat'];omega
def Nl(a:List UInt8):Az a=some (a.map UInt8.toNat):=by
 induction a with
 |nil=>rfl
 |cons d a b=>
  show(dU (gY d.toNat) λe=>dU (Az a) λc=>some (e::c))=_;rw[b];simp
def xq(a:ByteArray):bytesOf (a.data.toList.map UInt8.toNat)=a:=by
 unfold bytesOf;rw[cK];have:(UInt8.ofNat∘UInt8.toNat)=id:=by funext b;simp
 rw[this];simp
def fD.oh{hp:af Obj}{μ:Mu}{d:am}{b:T}(a:oh d=some b):fD hp μ b d/\b.scalar=true:=by
 unfold TI.oh at a;split at a
 ·simp at a;subst a;exact⟨.bool _,rfl⟩
 ·simp at a;subst a;exact⟨.int _ _,rfl⟩
 ·rename_i f;rw[Nl]at a;simp at a;subst a;refine⟨?_,rfl⟩;have:=fD.str (hp:=hp) (μ:=μ) (f.data.toList.map UInt8.toNat) (by intro g c;simp at c;obtain⟨e,_,rfl⟩:=c;exact e.toNat_lt);rwa[xq]at this
 ·simp at a;subst a;exact⟨.kx,rfl⟩
 ·simp at a;subst a;exact⟨.nU,rfl⟩
 ·simp at a;subst a;exact⟨.nP _ _,rfl⟩
 ·simp at a;subst a;exact⟨.kN,rfl⟩
 ·simp at a;subst a;exact⟨.kP,rfl⟩
 ·simp at a
def gJ.sN{hp:af Obj}{μ:Mu}{d:List am}{g:List T}(k:fN TI.oh d=some g):gJ hp μ g d/\∀i∈g,i.scalar=true:=by
 obtain⟨hl,j⟩:=rS.1 k;refine⟨⟨hl.symm,λb i f=> ?_⟩,λi f=> ?_⟩
 ·have e:b<d.length:=by
   rcases aF b g.length with a|a
   ·omega
   ·simp[aM a]at f
  obtain⟨m,c,h⟩:=j b d[b] (by simp[e]);rw[f]at c;simp at c;subst c;simpa[List.getD,e]using(fD.oh h).1
 ·obtain⟨b,e,rfl⟩:=List.getElem_of_mem f;have l:b<d.length:=dz;obtain⟨m,c,h⟩:=j b d[b] (by simp[l]);simp[e]at c;subst c;exact(fD.oh (hp:=hp) (μ:=μ) h).2
def fD.xu{e:af Obj}{f:Mu}{a:List T}{b:af am}(d:gJ e f a b.toList)(g:∀c∈a,c.scalar=true):fD e f (.agg a) (.agg b):=
 .agg a b (by simpa using d.1.symm) g λi c h=>by simpa[bg,List.getD]using d.2 i c h
def fD.yE{hp:af Obj}{μ:Mu}{c:am}{d:T}(a:yE c=some d):fD hp μ d c:=by
 unfold TI.yE at a;split at a
 ·rename_i h;obtain⟨i,e,b⟩:=dJ.1 a;simp at b;subst b;obtain⟨f,g⟩:=gJ.sN (hp:=hp) (μ:=μ) e;exact fD.xu f g
 ·exact(fD.oh a).1
def uX.unfold{f:ab}{c:Ty}(a:uX P f c):∃b d g,P.info? f=some b/\P.underlying f=some d/\b.zero=some g/\fN oh g.cells.toList=some c.zero/\
 A7 P d=some c.u/\tH d g=true/\c.zero.length=b.size/\b.size=c.size/\b.bytes=c.bytes/\
 (c.cmp=true->P.stoodInHeld f=false/\P.eqGuardType P.depth f=false/\Le d=true):=by
 obtain⟨p,a⟩:=a.is;unfold Vl at a;obtain⟨b,j,a⟩:=dJ.1 a;obtain⟨d,k,a⟩:=dJ.1 a;obtain⟨g,l,a⟩:=dJ.1 a;obtain⟨r,m,a⟩:=dJ.1 a;obtain⟨q,n,a⟩:=dJ.1 a;obtain⟨o,a⟩:=dR.1 a;obtain⟨h,a⟩:=dR.1 a;obtain⟨e,a⟩:=dR.1 a;simp at a;rw[<-a];refine⟨b,d,g,j,k,l,m,n,o,?_,rfl,rfl,?_⟩
 ·rw[jE]at h;exact aD h
 ·intro i;simp only[]at i;rw[i]at e;simp at e;exact⟨e.1.1,e.1.2,e.2⟩
def uX.run_sizeOf{a:ab}{b:Ty}(d:uX P a b)(c:World):(sizeOf a).run P c= .ok b.size c:=by
 obtain⟨h,g,i,e,_,_,_,_,_,_,f,_⟩:=d.unfold;simp[sizeOf,typeInfo,e,f]
def uX.run_typeInfo{c:ab}{b:Ty}(e:uX P c b)(d:World):∃a,(typeInfo c).run P d= .ok a d/\a.bytes=b.bytes/\a.size=b.size:=by
 obtain⟨a,i,j,f,_,_,_,_,_,_,g,h,_⟩:=e.unfold;exact⟨a,by simp[typeInfo,f],h,g⟩
def abO:TypeDesc->Bool
 | .struct _| .array _ _=>true
 |_=>false
def Ae{b:TypeDesc}{c:Ty}(a:A7 P b=some c.u):c.isAgg=abO b:=by
 unfold Ty.isAgg;cases b<;>simp only[A7]at a<;>first|(injection a with a;rw[<-a];rfl)|(split at a<;>simp at a;rw[<-a];rfl)
def uX.tP{a:ab}{b:Ty}(e:uX P a b)(c:World):(isAgg a).run P c= .ok b.isAgg c:=by
 obtain⟨h,d,i,_,f,_,_,g,_⟩:=e.unfold;rw[Ae g];simp only[isAgg,Sem.run_bind,run_underlying f,Result.andThen_ok];cases d<;>rfl
def uX.zero{s:ab}{a:Ty}(e:uX P s a)(t:World):∃b,(zeroValue s).run P t= .ok b t/\(∀hp μ,fD hp μ a.kf b)/\(∀hp μ,gJ hp μ a.zero b.cells.toList)/\
 (∀z∈a.zero,z.scalar=true)/\a.zero.length=a.size/\a.kf.cells=a.zero/\a.kf.il=true/\b.cells.size=a.size:=by
 obtain⟨H,n,b,u,D,v,f,o,g,E,F,G,_⟩:=e.unfold;have h:=(gJ.sN (hp:= #[]) (μ:=⟨λ_=>none,λ_=>False⟩) f).2;have l:a.zero.length=b.cells.size:=by
  have:=(gJ.sN (hp:= #[]) (μ:=⟨λ_=>none,λ_=>False⟩) f).1.1;simpa using this
 refine⟨b,by simp[zeroValue,typeInfo,u,v],?_,λhp μ=>(gJ.sN f).1,h,dz,?_⟩
 ·intro hp μ;have d:=(gJ.sN (hp:=hp) (μ:=μ) f).1;unfold Ty.kf;rw[Ae o];cases n with
  |struct C=>cases b with
   |agg m=>exact fD.xu d h
   |_=>simp[tH]at g
  |array I B=>cases b with
   |agg m=>exact fD.xu d h
   |_=>simp[tH]at g
  |_=>
   have i:b.cells= #[b]:=by cases b<;>simp[tH]at g<;>rfl
   rw[i]at d;obtain⟨hl,_⟩:=d;simp at hl
   match j:a.zero,hl with
   | [c],_=>
    have d:=(gJ.sN (hp:=hp) (μ:=μ) f).1;rw[i,j]at d;obtain⟨A,m,q,x,_⟩:=d.mH;simp at q;show fD hp μ c b;rw[q.1];exact x
 ·have p:=Ae o;have w:(a.isAgg=true/\a.kf= .agg a.zero)\/(a.isAgg=false/\∃c,a.zero=[c]/\a.kf=c/\c.scalar=true):=by
   cases k:a.isAgg with
   |true=>left;exact⟨rfl,by unfold Ty.kf;rw[k]⟩
   |false=>
    right;refine⟨rfl,?_⟩;have i:b.cells= #[b]:=by
     rw[k]at p;cases n<;>simp[abO]at p<;>cases b<;>simp[tH]at g<;>rfl
    rw[i]at l;simp at l
    match j:a.zero,l with
    | [c],_=>exact⟨c,rfl,by unfold Ty.kf;rw[k,j];rfl,h c (by simp[j])⟩
  rcases w with⟨_,e⟩|⟨_,c,y,e,r⟩
  ·rw[e];exact⟨rfl,rfl,dz⟩
  ·rw[e,y];refine⟨?_,?_,dz⟩
   ·cases c<;>simp[T.scalar]at r<;>rfl
   ·cases c<;>simp[T.scalar]at r<;>rfl
structure jg(P:ai)(cx:Ctx):Prop where
 ty:∀t ty,cx.ty t=some ty->uX P t ty
def ku(d:af Obj)(g:Mu)(e:Nat)(c:Env)(f:af am):Prop:=
 ∀a b,c.get e a=some b->fD d g b (f.getD a Go.undef)
def ku.ext{b c:af Obj}{f g:Mu}{d:Nat}{a:Env}{e:af am}(h:ku b f d a e)(l:Ext b f c g):ku c g d a e:=
 λj k i=>(h j k i).ext l
def gU{k:Nat}{c:af Obj}{e:Mu}{n:H}{j:Nat}{g:Env}{f:Act}(r:St cx k c e n)(q:ku c e j g f.tmps){d:ah}{a:T}
 (b:fP cx j g d=some a):fD c e a (f.eval d):=by
 cases d with
 |tmp s=>exact q s a b
 |const t=>exact fD.yE b
 |global m=>
  obtain⟨l,o,i⟩:=dJ.1 b;simp at i;subst i;exact r.yN m l o
 |func h=>
  have:T.func h []=a:=by simpa[fP]using b
  subst this;exact .func h [] #[] rfl λu a p=>by simp at p
def vL{i:Nat}{c:af Obj}{e:Mu}{j:H}{h:Nat}{g:Env}{f:Act}(o:St cx i c e j)(n:ku c e h g f.tmps){b:List ah}{d:List T}
 (a:p9 cx h g b=some d):gJ c e d (b.map f.eval):=by
 induction b generalizing d with
 |nil=>simp[p9]at a;subst a;exact gJ.nil
 |cons p b m=>
  unfold p9 at a;rw[jH]at a;obtain⟨r,k,a⟩:=dJ.1 a;obtain⟨q,l,a⟩:=dJ.1 a;simp at a;subst a;exact gJ.cons (gU o n k) (m l)
end
end
noncomputable section
section inv
variable {hp:af Obj}{μ:Mu}{c:am}
def fD.ql{b:Bool}(h:fD hp μ (.bool b) c):c= .bool b:=by cases h;rfl
def fD.jV{b:ak}{d:Int}(h:fD hp μ (.int b d) c):c= .int b d:=by cases h;rfl
def fD.lU{b:List Nat}(h:fD hp μ (.str b) c):c= .string (bytesOf b)/\∀d∈b,d<256:=by cases h;exact⟨rfl,by assumption⟩
def fD.qk(h:fD hp μ .kx c):c= .pointer none:=by cases h;rfl
def fD.pO{f d g i:Nat}(h:fD hp μ (.ptr f d g i) c):∃b a,c= .pointer (some a)/\μ f=some b/\d<=b.ep/\(d=b.ep->a=⟨b.iS,g*b.sz+i,none⟩):=by
 cases h with|ptr _ _ _ _ b a k l j=>exact⟨b,a,rfl,k,l,j⟩
def fD.ma{f:List T}(h:fD hp μ (.jy f) c):∃d off b i fz,c= .pointer (some ⟨d,off,none⟩)/\¬nC μ d/\hp[d]? =some (.cells b i fz)/\
 off+f.length<=b.size/\(∀g∈f,vj g)/\∀(j:Nat) g,f[j]? =some g->fD hp μ g (b.getD (off+j) Go.undef):=by
 cases h with|jy _ d off b i fz m l n k hr=>exact⟨d,off,b,i,fz,rfl,m,l,n,k,hr⟩
def fD.sS{j g o f:Nat}{i:Bool}(h:fD hp μ (.arr j g o f i) c):∃b a d,c= .slice a f d/\μ j=some b/\g<=b.ep/\f<=d/\
 (g=b.ep->(i=true->d=f)/\(i=false->o+d=b.cap)/\(d≠0->a=some ⟨b.iS,o*b.sz,none⟩)):=by
 cases h with|arr _ _ _ _ _ b a d k l hl h=>exact⟨b,a,d,rfl,k,l,hl,h⟩
def fD.Ag(h:fD hp μ .gu c):∃a b,c= .slice a 0 b:=by cases h;exact⟨_,_,rfl⟩
def fD.ui{b:Bool}(h:fD hp μ (.dM [] b) c):∃a,c= .slice a 0 0:=by cases h;exact⟨_,rfl⟩
def fD.uj{j:T}{b:List T}{m:Bool}(h:fD hp μ (.dM (j::b) m) c):∃g off i k f l fz,c= .slice (some ⟨g,off,none⟩) (b.length+1) i/\¬nC μ g/\
 hp[g]? =some (.cells f l fz)/\b.length+1<=i/\(m=true->i=b.length+1)/\(∀d∈j::b,d.cells.length=k)/\off+(fw (j::b)).length<=f.size/\
 (∀d∈fw (j::b),vj d)/\∀(n:Nat) d,(fw (j::b))[n]? =some d->fD hp μ d (f.getD (off+n) Go.undef):=by
 cases h with|dM _ _ _ g off i k f l fz s r hl q u t p hr=>exact⟨g,off,i,k,f,l,fz,rfl,s,r,hl,q,u,t,p,hr⟩
def fD.rY{f:aj}{d:List T}(h:fD hp μ (.func f d) c):∃b,c= .func (.func f) #[] b/\gJ hp μ d b.toList:=by
 cases h with|func _ _ b g hr=>exact⟨b,rfl,by simpa using g.symm,λj k i=>by simpa[bg,List.getD]using hr j k i⟩
def fD.ul(h:fD hp μ .kN c):c= .nilFunc:=by cases h;rfl
def fD.uk(h:fD hp μ .kP c):c= .nilIface:=by cases h;rfl
def fD.wK{b:ab}{f:T}(h:fD hp μ (.iface b f) c):∃d,c= .iface b d:=by cases h;exact⟨_,rfl⟩
def fD.PX{d:Nat}(h:fD hp μ (.iter d) c):∃b a,c= .pointer (some a)/\μ d=some b/\(b.ep=0->a=⟨b.iS,0,none⟩):=by
 cases h with|iter _ b a f h=>exact⟨b,a,rfl,f,h⟩
def fD.pP{d:List T}(h:fD hp μ (.agg d) c):∃b,c= .agg b/\gJ hp μ d b.toList/\∀f∈d,f.scalar=true:=by
 cases h with|agg _ b i g hr=>exact⟨b,rfl,⟨by simpa using i.symm,λk f j=>by simpa[bg,List.getD]using hr k f j⟩,g⟩
def fD.Af{d:List T}(h:fD hp μ (.tuple d) c):∃b,c= .tuple b/\gJ hp μ d b.toList:=by
 cases h with|tuple _ b f hr=>exact⟨b,rfl,by simpa using f.symm,λi j g=>by simpa[bg,List.getD]using hr i j g⟩
end inv
section
variable {P:ai}{cx:Ctx}{base:Nat}{w:World}{μ:Mu}{h:H}{mask:Nat}{e:Env}{a:Act}{o:Oper}
def yg(μ g:Mu)(d f:Nat):Prop:=d<=f/\(∀b,g b≠none->μ b≠none\/(d<=b/\b<f))/\∀b,d<=b->b<f->g b≠none
def yg.refl(μ:Mu)(b:Nat):yg μ μ b b:=⟨au _,λ_ h=> .inl h,λf g d=>absurd d dz⟩
def yg.trans{hp s t:af Obj}{μ i j:Mu}{k g l:Nat}(h:yg μ i k g)(d:yg i j g l)(x:Ext s i t j):yg μ j k l:=by
 have v:=h.1;have z:=d.1;refine⟨aS h.1 d.1,λb f=> ?_,λb f q=> ?_⟩
 ·rcases d.2.1 b f with x|x
  ·rcases h.2.1 b x with y|y
   ·exact .inl y
   ·exact .inr ⟨y.1,dz⟩
  ·exact .inr ⟨dz,x.2⟩
 ·by_cases r:b<g
  ·obtain⟨m,n⟩:=Option.ne_none_iff_exists'.1 (h.2.2 b f r);obtain⟨u,p,_⟩:=x.mu b m n;rw[p];simp
  ·exact d.2.2 b dz q
def jn(cx:Ctx)(base:Nat)(w:World)(μ:Mu)(i:Nat)(g:Result Next)(j:T)(f:H):Prop:=
 ∃c b d,(g= .ok (.value c) b\/(g= .ok .skip b/\c=Go.undef))/\fD b.heap d j c/\St cx base b.heap d f/\pN w μ b d/\yg μ d i f.size
def jn.pure{b:Result Next}{d:T}{c:am}(g:St cx base w.heap μ h)(hr:b= .ok (.value c) w)(f:fD w.heap μ d c):jn cx base w μ h.size b d h:=
 ⟨c,w,μ,.inl hr,f,g,pN.refl _ _,yg.refl _ _⟩
def fV{h d:H}{b:aa T}{f:T}:val h b=some (.val f d)↔b=some f/\d=h:=by
 unfold val;cases b with
 |none=>simp
 |some g=>simp;intro _;exact eq_comm
def AC{h:H}{b:aa T}{f:aj}{d:List T}:val h b≠some (.call f d):=by
 unfold val;cases b<;>simp
def AW{d:ah}(g:St cx base w.heap μ h)(l:ku w.heap μ mask e a.tmps)(b:o.op= .move d\/o.op= .assign d){i:T}{f:H}
 (j:CL d cx mask e h=some (.val i f)):jn cx base w μ h.size ((execOp a.eval o).run P w) i f:=by
 obtain⟨k,rfl⟩:=fV.1 j;refine jn.pure g ?_ (gU g l k);rcases b with b|b<;>simp[execOp,b]
def H3{c n p:ah}(d:St cx base w.heap μ h)(i:ku w.heap μ mask e a.tmps)(l:o.op= .pick c n p){m:T}{j:H}
 (b:EU c n p cx mask e h=some (.val m j)):jn cx base w μ h.size ((execOp a.eval o).run P w) m j:=by
 obtain⟨f,q,b⟩:=dJ.1 b;have r:=gU d i q;cases f<;>simp at b;rename_i f;have k:=r.ql;cases f with
 |false=>
  obtain⟨g,rfl⟩:=fV.1 b;exact jn.pure d (by simp[execOp,l,k,asBool]) (gU d i g)
 |true=>
  obtain⟨g,rfl⟩:=fV.1 b;exact jn.pure d (by simp[execOp,l,k,asBool]) (gU d i g)
def Bb{l:ah}(g:St cx base w.heap μ h)(p:ku w.heap μ mask e a.tmps)(i:o.op= .nilCheck l){k:T}{j:H}
 (f:ry l cx mask e h=some (.val k j)):jn cx base w μ h.size ((execOp a.eval o).run P w) k j:=by
 obtain⟨m,n,f⟩:=dJ.1 f;have d:=gU g p n;cases m<;>simp at f
 ·obtain⟨rfl,rfl⟩:=f;obtain⟨q,r,b,_⟩:=d.pO;exact jn.pure g (by simp[execOp,i,b]) (b▸d)
 ·obtain⟨rfl,rfl⟩:=f;obtain⟨t,off,s,v,fz,b,_⟩:=d.ma;exact jn.pure g (by simp[execOp,i,b]) (b▸d)
 ·obtain⟨rfl,rfl⟩:=f;obtain⟨u,b,_⟩:=d.rY;exact jn.pure g (by simp[execOp,i,b]) (b▸d)
def FU(ja:jg P cx){d:ab}{g:ah}(p:St cx base w.heap μ h)(B:ku w.heap μ mask e a.tmps)(x:o.op= .makeInterface d g){f:T}{k:H}
 (b:An d g cx mask e h=some (.val f k)):jn cx base w μ h.size ((execOp a.eval o).run P w) f k:=by
 obtain⟨q,y,b⟩:=dJ.1 b;obtain⟨F,j,G,C,s,D,E,l,_⟩:=(ja.ty d q y).unfold;have A:∀{i:H},(dU (fP cx mask e g) λa=>gD a.il (val h (some (.iface d a))))=some (.val f i)->(∀n,j≠ .interface n)->jn cx base w μ h.size ((execOp a.eval o).run P w) f i:=by
  intro i b v;obtain⟨r,t,b⟩:=dJ.1 b;obtain⟨_,b⟩:=dR.1 b;obtain⟨m,rfl⟩:=fV.1 b;simp at m;subst m;refine jn.pure (c:= .iface d (a.eval g)) p ?_ (.iface d r _ (gU p B t));simp only[execOp,x,Instr.makeInterface,Sem.run_bind,run_underlying s,Result.andThen_ok];cases j<;>first|rfl|exact absurd rfl (v _)
 cases z:q.u<;>rw[z]at b l<;>first|(exact A b (by rintro n rfl;simp[A7]at l))|(simp at b)
def H8{j:Fn}{first g:af ah}(m:St cx base w.heap μ h)(t:ku w.heap μ mask e a.tmps)(r:o.op= .makeFunc j first g){f:T}{k:H}
 (b:CM j first g cx mask e h=some (.val f k)):jn cx base w μ h.size ((execOp a.eval o).run P w) f k:=by
 unfold CM at b;split at b
 ·rename_i i;split at b
  ·rename_i q;obtain⟨n,p,b⟩:=dJ.1 b;obtain⟨d,rfl⟩:=fV.1 b;simp at d;subst d;have l:=vL m t p;refine jn.pure (c:= .func (.func i) #[] (g.map a.eval)) m ?_ (.func i n _ (by simpa using l.1.symm) λs f d=> ?_)
   ·have:first= #[]:=by cases first;simpa using q
    simp[execOp,r,Instr.makeFunc,this]
   ·have:=l.2 s f d;simpa[bg,List.getD]using this
  ·simp at b
 ·simp at b
def CN{k:ah}{g:Nat}(i:St cx base w.heap μ h)(u:ku w.heap μ mask e a.tmps)(r:o.op= .extract k g){j:T}{d:H}
 (b:um k g cx mask e h=some (.val j d)):jn cx base w μ h.size ((execOp a.eval o).run P w) j d:=by
 obtain⟨l,n,b⟩:=dJ.1 b;have p:=gU i u n;cases l<;>simp at b;obtain⟨t,rfl⟩:=fV.1 b;obtain⟨v,s,m⟩:=p.Af;obtain⟨c,f,q⟩:=m.get t;exact jn.pure i (by simp only[execOp,r,s,Instr.extract];simp at f;simp[f]) q
end
end
noncomputable section
section
variable {P:ai}{cx:Ctx}{base:Nat}{w:World}{μ:Mu}{h:H}{mask:Nat}{e:Env}{a:Act}{o:Oper}{hp:af Obj}
def uO{j k i:T}{f:ak->Int->Int->aa T}(h:wS j k f=some i):∃b c d,j= .int b c/\k= .int b d/\f b c d=some i:=by
 unfold wS at h;split at h
 ·rename_i b c;split at h
  ·rename_i m d;obtain⟨g,l⟩:=dR.1 h;rw[xS]at g;subst g;exact⟨b,c,d,rfl,rfl,l⟩
  ·simp at h
 ·simp at h
def vC{j k i:T}{g:ak->Int->Nat->aa T}(h:zr j k g=some i):∃c d f b,j= .int c d/\k= .int f (.ofNat b)/\g c d (min b c.bits)=some i:=by
 unfold zr at h;split at h
 ·rename_i c d;split at h
  ·rename_i f b;cases b with
   |ofNat b=>exact⟨c,d,f,b,rfl,rfl,h⟩
   |negSucc b=>simp at h
  ·simp at h
 ·simp at h
def Gv{k l j:T}{m:Int->Int->Bool}{n:List Nat->List Nat->Bool}(h:Kn k l m n=some j):
 (∃b c d,k= .int b c/\l= .int b d/\j= .bool (m c d))\/(∃f g,k= .str f/\l= .str g/\j= .bool (n f g)):=by
 unfold Kn at h;split at h
 ·rename_i b c;split at h
  ·rename_i q d;obtain⟨p,i⟩:=dR.1 h;rw[xS]at p;subst p;rw[rN]at i;simp at i;exact .inl ⟨b,c,d,rfl,rfl,i.symm⟩
  ·simp at h
 ·rename_i f;split at h
  ·rename_i g;rw[rN]at h;simp at h;exact .inr ⟨f,g,rfl,rfl,h.symm⟩
  ·simp at h
 ·simp at h
def oH(b:List Nat):(bytesOf b).toList=b.map UInt8.ofNat:=by
 rw[ByteArray.toList_eq];rfl
def jU(b:List Nat):(bytesOf b).size=b.length:=by simp[bytesOf,ByteArray.size]
def ofNat_inj{b c:Nat}(d:b<256)(f:c<256)(h:UInt8.ofNat b=UInt8.ofNat c):b=c:=by
 have:=bQ UInt8.toNat h;rwa[jG d,jG f]at this
def DH{c b:List Nat}(i:∀d∈c,d<256)(ht:∀d∈b,d<256)(h:c.map UInt8.ofNat=b.map UInt8.ofNat):c=b:=by
 induction c generalizing b with
 |nil=>cases b with
  |nil=>rfl
  |cons j b=>simp at h
 |cons d c k=>cases b with
  |nil=>simp at h
  |cons j b=>
   simp only[aV,aL]at h;rw[ofNat_inj (i d dA) (ht j dA) h.1,k (λg f=>i g (by simp[f])) (λg f=>ht g (by simp[f])) h.2]
def yQ{b c:List Nat}(f:∀d∈b,d<256)(ht:∀d∈c,d<256):((bytesOf b).toList==(bytesOf c).toList)=UT b c:=by
 rw[Gh,oH,oH,bI,beq_iff_eq,beq_iff_eq];exact⟨DH f ht,λh=>by rw[h]⟩
def Cv(b:Nat)(d:List Nat)(c:Nat)(f:List Nat):Ry (b::d) (c::f)=(decide (b<c)||(b==c&&Ry d f)):=by
 show @Bool.rec (λ_=>Bool) (@Bool.rec (λ_=>Bool) false (Ry d f) (Nat.beq b c)) true (Nat.blt b c)=_;have g:Nat.blt b c=decide (b<c):=by rw[bI,aH];simp
 have i:Nat.beq b c=(b==c):=by rw[bI,Nat.beq_eq];simp
 rw[g,i];cases decide (b<c)<;>cases (b==c)<;>rfl
def yJ{d c:List Nat}(j:∀b∈d,b<256)(ht:∀b∈c,b<256):Op.bytesLess (bytesOf d).toList (bytesOf c).toList=Ry d c:=by
 rw[oH,oH];induction d generalizing c with
 |nil=>cases c<;>rfl
 |cons b d p=>cases c with
  |nil=>rfl
  |cons f c=>
   have k:=j b dA;have l:=ht f dA;rw[Cv];simp only[aV,Op.bytesLess];rw[p (λi g=>j i (by simp[g])) (λi g=>ht i (by simp[g]))];have m:(decide (UInt8.ofNat b<UInt8.ofNat f))=decide (b<f):=by
    rw[bI,decide_eq_true_iff,decide_eq_true_iff,UInt8.lt_iff_toNat_lt,jG k,jG l]
   have n:(UInt8.ofNat b==UInt8.ofNat f)=(b==f):=by
    rw[bI,beq_iff_eq,beq_iff_eq];exact⟨ofNat_inj k l,λh=>by rw[h]⟩
   rw[m,n]
def EK(c b:List Nat):(Ry c b||UT c b)= !Ry b c:=by
 induction c generalizing b with
 |nil=>cases b<;>rfl
 |cons d c m=>cases b with
  |nil=>rfl
  |cons f b=>
   rw[Cv,Cv,Gh,List.cons_beq_cons,<-Gh];have:=m b;rcases cV d f with l|j|k
   ·have g:¬f<d:=dz;have i:(f==d)=false:=dB;simp[l,g,i]
   ·subst j;simpa using this
   ·have g:¬d<f:=dz;have i:(d==f)=false:=dB;simp[k,g,i]
def Dg(b c:List Nat):bytesOf (b++c)=bytesOf b++bytesOf c:=by
 apply ByteArray.ext;simp[bytesOf,ByteArray.data_append]
def IA{p:BinOp}{i q l:T}{y A:am}(x:ab)(S:p≠ .eql)(U:p≠ .neq)(u:fD hp μ i y)(v:fD hp μ q A)(b:binop p i q=some l):
 ∃j,(binOp p x y A).run P w= .ok j w/\fD hp μ l j:=by
 have gF:∀{t:ak->Int->Int->aa T},wS i q t=some l->
  (∀k d c,t k d c=some l->∃j,(binOp p x (.int k d) (.int k c)).run P w= .ok j w/\fD hp μ l j)->∃j,(binOp p x y A).run P w= .ok j w/\fD hp μ l j:=by
  intro t I R;obtain⟨k,d,c,rfl,rfl,m⟩:=uO I;rw[u.jV,v.jV];exact R k d c m
 have z:∀{t:Int->Int->Bool} {G:List Nat->List Nat->Bool},Kn i q t G=some l->
  (∀k d c,(binOp p x (.int k d) (.int k c)).run P w= .ok (.bool (t d c)) w)->
  (∀f g,(∀i∈f,i<256)->(∀i∈g,i<256)->(binOp p x (.string (bytesOf f)) (.string (bytesOf g))).run P w= .ok (.bool (G f g)) w)->∃j,(binOp p x y A).run P w= .ok j w/\fD hp μ l j:=by
  intro t G I B m;rcases Gv I with⟨k,d,c,rfl,rfl,rfl⟩|⟨f,g,rfl,rfl,rfl⟩
  ·rw[u.jV,v.jV];exact⟨_,B k d c,.bool _⟩
  ·obtain⟨E,C⟩:=u.lU;obtain⟨F,D⟩:=v.lU;rw[E,F];exact⟨_,m f g C D,.bool _⟩
 cases p with
 |eql=>exact absurd rfl S
 |neq=>exact absurd rfl U
 |add=>
  have b:TF i q=some l:=b;by_cases M:∃f,i= .str f
  ·obtain⟨f,rfl⟩:=M;by_cases N:∃g,q= .str g
   ·obtain⟨g,rfl⟩:=N;have b:(dU (Ej f g) λL=>gD (Nat.ble (kW L) 4294967296) (some (T.str L)))=some l:=b;obtain⟨L,B,b⟩:=dJ.1 b;obtain⟨hl,b⟩:=dR.1 b;simp at B b;subst B;subst b;have hl:=bA hl;rw[jE,aT]at hl;obtain⟨E,C⟩:=u.lU;obtain⟨F,D⟩:=v.lU;rw[E,F];refine⟨.string (bytesOf (f++g)),?_,.str _ (by intro j n;rcases List.mem_append.1 n with k|k;exact C j k;exact D j k)⟩;rw[Dg];have Q:¬(((bytesOf f).size+(bytesOf g).size:Nat):Int)>IntKind.i64.max:=by
     rw[jU,jU];have:IntKind.i64.max=9223372036854775807:=dD;rw[this];omega
    simp only[binOp,Op.stringOp,Q,br,Sem.run_pure]
   ·exfalso;unfold TF at b;cases q<;>first|(simp at b;done)|exact N ⟨_,rfl⟩
  ·have b:wS i q (λk a O=>pY k (a+O))=some l:=by
    unfold TF at b;cases i<;>first|exact b|exact absurd ⟨_,rfl⟩ M
   refine gF b λk d c h=> ?_;rw[yr]at h;simp at h;subst h;exact⟨_,by simp[binOp,Op.intArith],.int _ _⟩
 |sub=>
  refine gF b λk d c h=> ?_;rw[yr]at h;simp at h;subst h;exact⟨_,by simp[binOp,Op.intArith],.int _ _⟩
 |mul=>
  refine gF b λk d c h=> ?_;rw[yr]at h;simp at h;subst h;exact⟨_,by simp[binOp,Op.intArith],.int _ _⟩
 |quo=>
  refine gF b λk d c h=> ?_;cases n:Rz c 0 with
  |true=>rw[n]at h;simp at h
  |false=>
   rw[n]at h;have K:¬c=0:=by rw[xW]at n;simpa using n
   simp only[yr]at h;simp at h;subst h;exact⟨_,by simp[binOp,Op.intDiv,K],.int _ _⟩
 |rem=>
  refine gF b λk d c h=> ?_;cases n:Rz c 0 with
  |true=>rw[n]at h;simp at h
  |false=>
   rw[n]at h;have K:¬c=0:=by rw[xW]at n;simpa using n
   simp only[oO]at h;simp at h;subst h;exact⟨_,by simp[binOp,Op.intDiv,K],.int _ _⟩
 |and=>
  refine gF b λk d c h=> ?_;rw[oO]at h;simp only[ar]at h;subst h;exact⟨_,by simp[binOp,Op.intBits],.int _ _⟩
 |or=>
  refine gF b λk d c h=> ?_;rw[oO]at h;simp only[ar]at h;subst h;exact⟨_,by simp[binOp,Op.intBits],.int _ _⟩
 |xor=>
  refine gF b λk d c h=> ?_;rw[oO]at h;simp only[ar]at h;subst h;exact⟨_,by simp[binOp,Op.intBits],.int _ _⟩
 |shl=>
  have b:zr i q (λk a c=>xE k (k.wrap (a*2^c)))=some l:=b;obtain⟨k,d,V,c,rfl,rfl,m⟩:=vC b;rw[u.jV,v.jV];rw[oO]at m;simp only[ar]at m;subst m;have J:¬((c:Nat):Int)<0:=dz;exact⟨_,by simp[binOp,Op.shift,J],.int _ _⟩
 |shr=>
  have b:zr i q (λk a c=>xE k (a.fdiv (2^c)))=some l:=b;obtain⟨k,d,V,c,rfl,rfl,m⟩:=vC b;rw[u.jV,v.jV];rw[oO]at m;simp only[ar]at m;subst m;have J:¬((c:Nat):Int)<0:=dz;exact⟨_,by simp[binOp,Op.shift,J],.int _ _⟩
 |lss=>exact z b (λk d c=>by simp[binOp,Op.intCmp,xP]) (λf g r s=>by simp only[binOp,Op.stringOp,yJ r s,Sem.run_pure])
 |leq=>exact z b (λk d c=>by simp only[binOp,Op.intCmp,xP,ne_eq,not_true,br,Sem.run_pure];congr 2;rw[bI];simp) (λf g r s=>by simp only[binOp,Op.stringOp,yJ r s,yQ r s,Sem.run_pure,EK])
 |gtr=>exact z b (λk d c=>by simp[binOp,Op.intCmp,xP]) (λf g r s=>by simp only[binOp,Op.stringOp,yJ r s,yQ r s,Sem.run_pure,EK,Bool.not_not])
 |geq=>exact z b (λk d c=>by simp only[binOp,Op.intCmp,xP,ne_eq,not_true,br,Sem.run_pure];congr 2;rw[bI];simp) (λf g r s=>by simp only[binOp,Op.stringOp,yJ r s,Sem.run_pure])
 |_=>simp[binop]at b
def Ed{b:BinOp}{i:ab}{j k:ah}{c d:am}(f:b≠ .eql)(g:b≠ .neq):(eqGuard b i j k c d).run P w= .ok () w:=by
 cases b<;>first|(exact absurd rfl f)|(exact absurd rfl g)|(simp[eqGuard])
def J4{c:BinOp}{k t:ab}{m n:ah}(g:c≠ .eql)(i:c≠ .neq)(d:St cx base w.heap μ h)(j:ku w.heap μ mask e a.tmps)(p:o.op= .binOp c k m n t){l:T}{f:H}
 (b:M6 c m n cx mask e h=some (.val l f)):jn cx base w μ h.size ((execOp a.eval o).run P w) l f:=by
 obtain⟨u,hp,b⟩:=dJ.1 b;obtain⟨v,q,b⟩:=dJ.1 b;obtain⟨r,rfl⟩:=fV.1 b;obtain⟨x,s,hr⟩:=IA (P:=P) (w:=w) k g i (gU d j hp) (gU d j q) r;refine jn.pure d ?_ hr;simp only[execOp,p,Sem.run_bind,Ed g i,Result.andThen_ok,s,Sem.run_pure]
def M3{d:UnOp}{r:ab}{m:ah}(f:St cx base w.heap μ h)(q:ku w.heap μ mask e a.tmps)(j:o.op= .unOp d r m){l:T}{g:H}
 (c:hUn d m cx mask e h=some (.val l g)):jn cx base w μ h.size ((execOp a.eval o).run P w) l g:=by
 obtain⟨k,hp,c⟩:=dJ.1 c;obtain⟨b,rfl⟩:=fV.1 c;have i:=gU f q hp;cases d with
 |neg=>
  cases k<;>simp[unop]at b;subst b;exact jn.pure f (by simp[execOp,j,i.jV,Op.unary,Op.intArith]) (.int _ _)
 |not=>
  cases k<;>simp[unop]at b;rename_i n;have p:=i.ql;cases n<;>simp at b<;>subst b<;>exact jn.pure f (by simp[execOp,j,p,Op.unary]) (.bool _)
 |_=>simp[unop]at b
end
end
noncomputable section
section
variable {P:ai}{cx:Ctx}{base:Nat}{w:World}{μ:Mu}{h:H}{mask:Nat}{e:Env}{a:Act}{o:Oper}{hp:af Obj}
def kR{c:ab}{d:Ty}(h:uX P c d):∃b,P.underlying c=some b/\A7 P b=some d.u:=by
 obtain⟨i,b,j,_,f,_,_,g,_⟩:=h.unfold;exact⟨b,f,g⟩
def yl{b:TypeDesc}{c:ak}(h:A7 P b=some (.int c)):b= .int c:=by
 cases b<;>simp only[A7]at h<;>first|(split at h<;>simp at h;done)|(simp at h;done)|(simp at h;rw[h])
def NN{b:TypeDesc}(h:A7 P b=some .bool):b= .bool:=by
 cases b<;>simp only[A7]at h<;>first|rfl|(split at h<;>simp at h;done)|(simp at h;done)
def sx{b:TypeDesc}(h:A7 P b=some .str):b= .string:=by
 cases b<;>simp only[A7]at h<;>first|rfl|(split at h<;>simp at h;done)|(simp at h;done)
def mE{b:TypeDesc}{e:ab}(h:A7 P b=some (.slice e)):b= .slice e:=by
 cases b<;>simp only[A7]at h<;>first|(split at h<;>simp at h;done)|(simp at h;done)|(simp at h;rw[h])
def rj{b:TypeDesc}{c:Nat}{e:ab}(h:A7 P b=some (.array c e)):b= .array c e:=by
 cases b<;>simp only[A7]at h<;>first|(split at h<;>simp at h;done)|(simp at h;done)|(simp at h;rw[h.1,h.2])
def RF{b:TypeDesc}{e:ab}(h:A7 P b=some (.ptr e)):b= .pointer e:=by
 cases b<;>simp only[A7]at h<;>first|(split at h<;>simp at h;done)|(simp at h;done)|(simp at h;rw[h])
def NM{b:TypeDesc}(h:A7 P b=some .func):∃c d f,b= .func c d f:=by
 cases b<;>simp only[A7]at h<;>first|(split at h<;>simp at h;done)|(simp at h;done)|exact⟨_,_,_,rfl⟩
def L6{b:TypeDesc}(h:A7 P b=some .iface):∃c,b= .interface c:=by
 cases b<;>simp only[A7]at h<;>first|(split at h<;>simp at h;done)|(simp at h;done)|exact⟨_,rfl⟩
def rH{f:TypeDesc}{g:List (Nat×ab)}(h:A7 P f=some (.struct g)):
 ∃c,f= .struct c/\g=c.toList.map (λb=>(b.offset,b.type))/\∀b∈c.toList,∃d,P.info? b.type=some d/\d.size≠0:=by
 cases f<;>simp only[A7]at h<;>try (simp at h;done)
 rename_i c;split at h
 ·rename_i j;simp only[ar,U.struct.injEq]at h;refine⟨c,rfl,h.symm,λb k=> ?_⟩;have:=List.all_eq_true.1 j b k;cases i:P.info? b.type with
  |none=>rw[i]at this;simp at this
  |some d=>rw[i]at this;exact⟨d,rfl,by simpa using this⟩
 ·simp at h
def bytes_beq{b c:List Nat}(f:∀d∈b,d<256)(ht:∀d∈c,d<256):(bytesOf b==bytesOf c)=UT b c:=by
 rw[beq_toListBytes,yQ f ht]
def uP{l:ab}{p:TypeDesc}{t:U}{j g:T}{n s:am}{m:Bool}(d:P.underlying l=some p)(k:A7 P p=some t)(i:fD hp μ j n)(f:fD hp μ g s)
 (b:r8 t j g=some m) (F:Nat):(Op.equalIn (F+1) l n s).run P w= .ok m w:=by
 unfold r8 at b;split at b
 ·have:=yl k;subst this;cases j<;>simp at b;cases g<;>simp at b;obtain⟨q,r⟩:=dR.1 b;rw[xS]at q;subst q;simp at r;subst r;rw[i.jV,f.jV];simp[Op.equalIn,run_underlying d,xW]
 ·have:=NN k;subst this;cases j<;>simp at b;cases g<;>simp at b;rename_i G I;rw[i.ql,f.ql];cases G<;>cases I<;>simp at b<;>subst b<;>simp[Op.equalIn,run_underlying d]
 ·have:=sx k;subst this;cases j<;>simp at b;cases g<;>simp at b;subst b;obtain⟨D,y⟩:=i.lU;obtain⟨E,z⟩:=f.lU;rw[D,E];simp[Op.equalIn,run_underlying d,bytes_beq y z]
 ·have:=RF k;subst this;cases j<;>simp at b
  ·rw[i.qk];cases g<;>simp at b<;>subst b
   ·rw[f.qk];simp[Op.equalIn,run_underlying d]
   ·obtain⟨u,v,c,_⟩:=f.pO;rw[c];simp[Op.equalIn,run_underlying d]
   ·obtain⟨A,off,x,l,fz,c,_⟩:=f.ma;rw[c];simp[Op.equalIn,run_underlying d]
  ·obtain⟨u,v,c,_⟩:=i.pO;cases g<;>simp at b;subst b;rw[f.qk,c];simp[Op.equalIn,run_underlying d]
  ·obtain⟨A,off,x,l,fz,c,_⟩:=i.ma;cases g<;>simp at b;subst b;rw[f.qk,c];simp[Op.equalIn,run_underlying d]
 ·obtain⟨K,L,M,rfl⟩:=NM k;cases j<;>simp at b
  ·obtain⟨B,c,_⟩:=i.rY;cases g<;>simp at b;subst b;rw[f.ul,c];simp[Op.equalIn,run_underlying d]
  ·rw[i.ul];cases g<;>simp at b<;>subst b
   ·obtain⟨B,c,_⟩:=f.rY;rw[c];simp[Op.equalIn,run_underlying d]
   ·rw[f.ul];simp[Op.equalIn,run_underlying d]
 ·obtain⟨J,rfl⟩:=L6 k;cases j<;>simp at b
  ·rw[i.uk];cases g<;>simp at b<;>subst b
   ·rw[f.uk];simp[Op.equalIn,run_underlying d]
   ·obtain⟨C,c⟩:=f.wK;rw[c];simp[Op.equalIn,run_underlying d]
  ·obtain⟨C,c⟩:=i.wK;cases g<;>simp at b;subst b;rw[f.uk,c];simp[Op.equalIn,run_underlying d]
 ·simp at b
def Ee(b:Nat×ab)(d:List (Nat×ab))(c:Nat)(j:T)(g:List T)(k:T)(f:List T):eqFields cx (b::d) c (j::g) (k::f)=
 gD (Nat.beq b.1 c) (dU (cx.ty b.2) λi=>gD i.u.plain (dU (r8 i.u j k) λl=> @Bool.rec (λ_=>aa Bool) (some false) (eqFields cx d (c+1) g f) l)):=rfl
def run_part_plain{g:ab}{b:Ty}(h:uX P g b)(hp:b.u.plain=true){d:af am}{f:Nat}{c:am}(j:d[f]? =some c):(part g d f).run P w= .ok c w:=by
 have i:b.isAgg=false:=by
  unfold Ty.isAgg;cases k:b.u<;>simp[k,U.plain]at hp<;>rfl
 simp[part,h.tP,i,j]
def C1(ja:jg P cx)(t:Nat):∀(m:List Field) (c:Nat) (g i:List T) (j l:af am) (f:Bool),
 gJ hp μ g (j.toList.drop c)->gJ hp μ i (l.toList.drop c)->(∀d∈m,d.name≠ "_")->eqFields cx (m.map λd=>(d.offset,d.type)) c g i=some f->
 (Op.eqFields (t+1) j l m).run P w= .ok f w:=by
 intro m;induction m with
 |nil=>
  intro c g i j l f _ _ _ b;have:f=true:=by simpa[eqFields]using b.symm
  subst this;simp[Op.eqFields]
 |cons d m Q=>
  intro c g i j l f r s q b;rw[aV]at b;cases g with
  |nil=>simp[eqFields]at b
  |cons S g=>cases i with
   |nil=>simp[eqFields]at b
   |cons U i=>
    rw[Ee]at b;obtain⟨z,b⟩:=dR.1 b;obtain⟨W,A,b⟩:=dJ.1 b;obtain⟨p,b⟩:=dR.1 b;obtain⟨R,B,b⟩:=dJ.1 b;have L:d.offset=c:=aD z;obtain⟨u,C,N⟩:=r.get (k:=0) (v:=S) dA;obtain⟨x,E,O⟩:=s.get (k:=0) (v:=U) dA;have D:j[c]? =some u:=by simpa using C
    have G:l[c]? =some x:=by simpa using E
    have n:=ja.ty _ _ A;obtain⟨V,F,M⟩:=kR n;have I:=uP (P:=P) (w:=w) F M N O B t;have K:d.name≠ "_" :=q d dA;simp only[Op.eqFields,K,ne_eq,not_false_eq_true,bh,Sem.run_bind,L,run_part_plain n p D,run_part_plain n p G,Result.andThen_ok,I];cases R with
    |false=>
     have:f=false:=by simpa using b.symm
     subst this;simp
    |true=>
     simp only[cM,cr,br];refine Q (c+1) g i j l f ?_ ?_ (λy J=>q y (by simp[J])) b
     ·have:=r.drop 1;simpa[cW,Nat.add_comm]using this
     ·have:=s.drop 1;simpa[cW,Nat.add_comm]using this
def Ef{e:ab}{l:Ty}(m:uX P e l)(n:l.u.plain=true)(r:Nat):∀(g d:List T) (f:Nat) (i j:af am) (c:Bool),
 gJ hp μ g (i.toList.drop f)->gJ hp μ d (j.toList.drop f)->yR l.u g d=some c->(Op.eqItems (r+1) e 1 i j (List.range' f g.length)).run P w= .ok c w:=by
 intro g;induction g with
 |nil=>
  intro d f i j c _ _ b;have:c=true:=by
   cases d with
   |nil=>have b:some true=some c:=b;simpa using b.symm
   |cons=>simp[yR]at b
  subst this;simp[Op.eqItems]
 |cons s g K=>
  intro d f i j c p q b;cases d with
  |nil=>simp[yR]at b
  |cons t d=>
   have b:(dU (r8 l.u s t) λM=> @Bool.rec (λ_=>aa Bool) (some false) (yR l.u g d) M)=some c:=b;obtain⟨L,z,b⟩:=dJ.1 b;obtain⟨x,A,I⟩:=p.get (k:=0) (v:=s) dA;obtain⟨y,C,J⟩:=q.get (k:=0) (v:=t) dA;have B:i[f]? =some x:=by simpa using A
   have E:j[f]? =some y:=by simpa using C
   obtain⟨N,D,G⟩:=kR m;have F:=uP (P:=P) (w:=w) D G I J z r;rw[bj,List.range'_succ];simp only[Op.eqItems,Sem.run_bind,Nat.mul_one,run_part_plain m n B,run_part_plain m n E,Result.andThen_ok,F];cases L with
   |false=>
    have:c=false:=by simpa using b.symm
    subst this;simp
   |true=>
    simp only[cM,cr,br];refine K d (f+1) i j c ?_ ?_ b
    ·have:=p.drop 1;simpa[cW,Nat.add_comm]using this
    ·have:=q.drop 1;simpa[cW,Nat.add_comm]using this
def Ig{f:BinOp}{g:ab}{b c:ah}(d:(Region.isConst b||Region.isConst c)=true):(eqGuard f g b c .nilIface .nilIface).run P w= .ok () w:=by
 unfold eqGuard;cases b<;>cases c<;>simp[Region.isConst]at d<;>simp
def EV(ja:jg P cx){neg:Bool}{F:BinOp}{q u:ab}{E x:ah}(g:F=(if neg then BinOp.neq else BinOp.eql))(s:St cx base w.heap μ h)(r:ku w.heap μ mask e a.tmps)
 (b6:o.op= .binOp F q E x u) {v:T} {aN:H} (A:Wq neg q E x cx mask e h=some (.val v aN)):jn cx base w μ h.size ((execOp a.eval o).run P w) v aN:=by
 obtain⟨dk,ce,A⟩:=dJ.1 A;obtain⟨G,hp,A⟩:=dJ.1 A;obtain⟨t,I,A⟩:=dJ.1 A;obtain⟨al,A⟩:=dR.1 A;obtain⟨y,b,A⟩:=dJ.1 A;obtain⟨bk,rfl⟩:=fV.1 A;have p:=gU s r hp;have j:=gU s r I;have cb:=ja.ty _ _ ce;have bN:v= .bool (if neg then !y else y):=by
  rw[rN]at bk;cases neg<;>simpa using bk.symm
 subst bN;have bn:(eqGuard F q E x (a.eval E) (a.eval x)).run P w= .ok () w/\(binOp F q (a.eval E) (a.eval x)).run P w= .ok (.bool (if neg then !y else y)) w:=by
  obtain⟨i,d,z,_,R,_,_,M,_,_,_,_,aX⟩:=cb.unfold;unfold NG at b;split at b
  ·rename_i c9 ae;rw[ae]at M;obtain⟨av,rfl,bS,_⟩:=rH M;cases G<;>simp at b;cases t<;>simp at b;obtain⟨Z,b⟩:=dR.1 b;obtain⟨O,L,an⟩:=aX Z;obtain⟨m,f,V,_⟩:=p.pP;obtain⟨C,e2,W,_⟩:=j.pP;rw[f,e2];refine⟨run_eqGuard_agg w F q E x m C L,?_⟩;have a7:P.fieldsOf q=av:=by simp[Program.fieldsOf,R]
   have c:(Op.equalIn 10000 q (.agg m) (.agg C)).run P w= .ok y w:=by
    rw[run_equalIn_struct w 9999 q m C (by rw[a7];exact R) O,a7];rw[bS]at b;refine C1 ja 9998 av.toList 0 _ _ m C y (by simpa using V) (by simpa using W) ?_ b;intro Q bH;have:=List.all_eq_true.1 an Q bH;simpa using this
   cases neg with
   |false=>simp at g;subst g;rw[run_eql_struct,c];rfl
   |true=>simp at g;subst g;rw[run_neq_struct,c];rfl
  ·rename_i n e ae;rw[ae]at M;have bC:=rj M;subst bC;cases G<;>simp at b;cases t<;>simp at b;obtain⟨Z,b⟩:=dR.1 b;obtain⟨di,ca,b⟩:=dJ.1 b;obtain⟨b8,b⟩:=dR.1 b;obtain⟨b9,b⟩:=dR.1 b;obtain⟨bX,b⟩:=dR.1 b;obtain⟨O,L,an⟩:=aX Z;obtain⟨m,f,V,_⟩:=p.pP;obtain⟨C,e2,W,_⟩:=j.pP;rw[f,e2];refine⟨run_eqGuard_agg w F q E x m C L,?_⟩;have bi:=ja.ty _ _ ca;have c:(Op.equalIn 10000 q (.agg m) (.agg C)).run P w= .ok y w:=by
    obtain⟨de,c7,dm,a8,_,_,_,_,_,_,dd,_⟩:=bi.unfold;rw[run_equalIn_array w 9999 m C R a8,List.range_eq_range'];have b7:P.cellsOf e=1:=by
     have:=aD b9;simp only[Program.cellsOf,a8,cN,Option.getD_some];omega
    have bT:=aD bX;rw[b7,<-bT];exact Ef bi b8 9998 _ _ 0 m C y (by simpa using V) (by simpa using W) b
   cases neg with
   |false=>simp at g;subst g;rw[run_eql_struct,c];rfl
   |true=>simp at g;subst g;rw[run_neq_struct,c];rfl
  ·have c:=uP (P:=P) (w:=w) R M p j b 9999;have B:∀k l:am,(k≠ .nilIface\/l≠ .nilIface)->((∀c4,k≠ .agg c4)\/∀c6,l≠ .agg c6)->(eqGuard F q E x k l).run P w= .ok () w:=by
    intro k l aA aE;cases neg with
    |false=>
     simp at g;subst g;cases k<;>cases l<;>first|(simp[eqGuard];done)|(simp at aA;done)|(simp at aE;done)
    |true=>
     simp at g;subst g;cases k<;>cases l<;>first|(simp[eqGuard];done)|(simp at aA;done)|(simp at aE;done)
   have D:∀k l:am,(∀S cp U cL,(k,l)≠(.int S cp,.int U cL))->(∀cX c1,(k,l)≠(.string cX,.string c1))->(∀X J Y K,(k,l)≠(.float X J,.float Y K))->(∀X J O Y K L,(k,l)≠(.complex X J O,.complex Y K L))->
    (Op.equalIn 10000 q k l).run P w= .ok y w->(binOp F q k l).run P w= .ok (.bool (if neg then !y else y)) w:=by
    intro k l bp bs bu bz a6;cases neg with
    |false=>
     simp at g;subst g;cases k<;>cases l<;>first|(exact absurd rfl (bp _ _ _ _))|(exact absurd rfl (bs _ _))|(exact absurd rfl (bu _ _ _ _))|(exact absurd rfl (bz _ _ _ _ _ _))|(simp[binOp,Op.equal,Op.maxDepth,a6])
    |true=>
     simp at g;subst g;cases k<;>cases l<;>first|(exact absurd rfl (bp _ _ _ _))|(exact absurd rfl (bs _ _))|(exact absurd rfl (bu _ _ _ _))|(exact absurd rfl (bz _ _ _ _ _ _))|(simp[binOp,Op.equal,Op.maxDepth,a6])
   unfold r8 at b;split at b
   ·cases G<;>simp at b;cases t<;>simp at b;obtain⟨S,U⟩:=dR.1 b;rw[xS]at S;subst S;simp at U;subst U;rw[p.jV,j.jV];refine⟨B _ _ (.inl dA) (.inl dA),?_⟩;cases neg<;>simp at g<;>subst g<;>simp[binOp,Op.intCmp,xW,bne]
   ·cases G<;>simp at b;cases t<;>simp at b;rw[p.ql,j.ql]at c|-;exact⟨B _ _ (.inl dA) (.inl dA),D _ _ dA dA dA dA c⟩
   ·cases G<;>simp at b;cases t<;>simp at b;subst b;obtain⟨f,J⟩:=p.lU;obtain⟨e2,K⟩:=j.lU;rw[f,e2];refine⟨B _ _ (.inl dA) (.inl dA),?_⟩;cases neg<;>simp at g<;>subst g<;>simp[binOp,Op.stringOp,yQ J K]
   ·cases G<;>simp at b
    ·have f:=p.qk;rw[f]at c|-;have e2:∃N,a.eval x= .pointer N:=by
      cases t<;>simp at b
      ·exact⟨_,j.qk⟩
      ·obtain⟨_,N,I,_⟩:=j.pO;exact⟨_,I⟩
      ·obtain⟨_,_,_,_,_,I,_⟩:=j.ma;exact⟨_,I⟩
     obtain⟨N,e2⟩:=e2;rw[e2]at c|-;exact⟨B _ _ (.inl dA) (.inl dA),D _ _ dA dA dA dA c⟩
    ·obtain⟨_,N,f,_⟩:=p.pO;cases t<;>simp at b;have e2:=j.qk;rw[f,e2]at c|-;exact⟨B _ _ (.inl dA) (.inl dA),D _ _ dA dA dA dA c⟩
    ·obtain⟨_,_,_,_,_,f,_⟩:=p.ma;cases t<;>simp at b;have e2:=j.qk;rw[f,e2]at c|-;exact⟨B _ _ (.inl dA) (.inl dA),D _ _ dA dA dA dA c⟩
   ·cases G<;>simp at b
    ·obtain⟨m,f,_⟩:=p.rY;cases t<;>simp at b;have e2:=j.ul;rw[f,e2]at c|-;exact⟨B _ _ (.inl dA) (.inl dA),D _ _ dA dA dA dA c⟩
    ·have f:=p.ul;have e2:(∃Q ap m,a.eval x= .func Q ap m)\/a.eval x= .nilFunc:=by
      cases t<;>simp at b
      ·obtain⟨m,I,_⟩:=j.rY;exact .inl ⟨_,_,_,I⟩
      ·exact .inr j.ul
     rcases e2 with⟨Q,ap,m,e2⟩|e2
     all_goals
      rw[f,e2]at c|-;exact⟨B _ _ (.inl dA) (.inl dA),D _ _ dA dA dA dA c⟩
   ·cases G<;>simp at b
    ·have f:=p.uk;cases t<;>simp at b
     ·have e2:=j.uk;rw[f,e2]at c|-;have al:(Region.isConst E||Region.isConst x)=true:=al;exact⟨Ig al,D _ _ dA dA dA dA c⟩
     ·obtain⟨bB,e2⟩:=j.wK;rw[f,e2]at c|-;exact⟨B _ _ (.inr dA) (.inl dA),D _ _ dA dA dA dA c⟩
    ·obtain⟨bB,f⟩:=p.wK;cases t<;>simp at b;have e2:=j.uk;rw[f,e2]at c|-;exact⟨B _ _ (.inl dA) (.inl dA),D _ _ dA dA dA dA c⟩
   ·simp at b
 refine jn.pure s ?_ (.bool _);simp only[execOp,b6,Sem.run_bind,bn.1,Result.andThen_ok,bn.2,Sem.run_pure]
end
end
noncomputable section
section
variable {P:ai}{cx:Ctx}{base:Nat}{w:World}{μ:Mu}{h:H}{mask:Nat}{e:Env}{a:Act}{o:Oper}{hp:af Obj}
def kL(b off c:Nat):(⟨b,off,none⟩:Addr).add c=⟨b,off+c,none⟩:=by
 unfold Addr.add;split<;>simp_all
def mc(c:T)(b:List T):fw (c::b)=c.cells++fw b:=by simp[fw]
def m8(a b:List T):fw (a++b)=fw a++fw b:=by simp[fw]
def io{sz:Nat}{b:List T}(d:∀c∈b,c.cells.length=sz):(fw b).length=b.length*sz:=by
 induction b with
 |nil=>simp[fw]
 |cons i b g=>
  rw[mc,aT,g (λc f=>d c (by simp[f])),d i dA,bj,cd];omega
def pK{d:Nat}{b:List T}(g:∀f∈b,f.cells.length=d)(c:Nat):(fw b).drop (c*d)=fw (b.drop c):=by
 induction c generalizing b with
 |zero=>simp
 |succ c l=>cases b with
  |nil=>simp[fw]
  |cons i b=>
   have k:=g i dA;rw[mc,cd,Nat.add_comm,<-cW];have:(i.cells++fw b).drop d=fw b:=by rw[<-k];simp
   rw[this,l (λf j=>g f (by simp[j]))];rfl
def rD{g:Nat}{b:List T}(f:∀d∈b,d.cells.length=g)(c:Nat):(fw b).take (c*g)=fw (b.take c):=by
 induction c generalizing b with
 |zero=>simp[fw]
 |succ c k=>cases b with
  |nil=>simp[fw]
  |cons l b=>
   have j:=f l dA;rw[mc,List.take_succ_cons,mc,<-k (λd i=>f d (by simp[i])),cd,List.take_append,j];congr 1
   ·rw[bJ dz]
   ·congr 1;omega
structure sZ(hp:af Obj)(μ:Mu)(iS off:Nat)(cs:List T):Prop where
 row:∃arr t fz,hp[iS]? =some (.cells arr t fz)/\off+cs.length<=arr.size/\∀(k:Nat) v,cs[k]? =some v->fD hp μ v (arr.getD (off+k) Go.undef)
 scalar:∀v∈cs,v.scalar=true
def sZ.cell{g off:Nat}{c:List T}(n:sZ w.heap μ g off c){b:Nat}{d:T}(k:c[b]? =some d):∃i,w.cell? ⟨g,off+b,none⟩=some i/\fD w.heap μ d i:=by
 obtain⟨f,r,fz,l,p,m⟩:=n.row;have q:b<c.length:=by
  rcases aF b c.length with x|x
  ·exact x
  ·simp[aM x]at k
 have j:off+b<f.size:=dz;refine⟨f[off+b],by simp[World.cell?,l,j],?_⟩;have:=m b d k;simpa[bg,j]using this
def sZ.take{d off:Nat}{f:List T}(g:sZ hp μ d off f)(m:Nat):sZ hp μ d off (f.take m):=by
 obtain⟨i,n,fz,j,p,k⟩:=g.row;refine⟨⟨i,n,fz,j,dB,λl c b=>k l c ?_⟩,λc b=>g.scalar c (bF b)⟩;rw[bO]at b;split at b
 ·exact b
 ·simp at b
def sZ.drop{g off:Nat}{d:List T}(i:sZ hp μ g off d)(c:Nat)(q:c<=d.length):sZ hp μ g (off+c) (d.drop c):=by
 obtain⟨j,n,fz,k,p,l⟩:=i.row;refine⟨⟨j,n,fz,k,dB,λm f b=> ?_⟩,λf b=>i.scalar f (bG b)⟩;rw[bK]at b;have:=l (c+m) f b;rwa[<-cH]at this
def sZ.run_loadCells{g off:Nat}{b:List T}(q:sZ w.heap μ g off b):∃i:List am,(loadCells ⟨g,off,none⟩ b.length).run P w= .ok i.toArray w/\gJ w.heap μ b i:=by
 obtain⟨d,t,fz,l,r,m⟩:=q.row;refine⟨(d.toList.drop off).take b.length,?_,?_⟩
 ·have hl:((d.toList.drop off).take b.length).length=b.length:=dB;have:=Go.run_loadCells_list (P:=P) w ⟨g,off,none⟩ ((d.toList.drop off).take b.length) (λs k c=>by
   rw[kL];rw[bO]at c;split at c
   ·rw[bK]at c;simp only[World.cell?,l];simpa using c
   ·simp at c)
  rwa[hl]at this
 ·refine⟨dB,λf k j=> ?_⟩;have n:f<b.length:=by
   rcases aF f b.length with x|x
   ·exact x
   ·simp[aM x]at j
  have:=m f k j;have p:off+f<d.size:=dz;simpa[List.getD,bO,n,bg,p]using this
def yp{s:ab}{c:Ty}{l off:Nat}{f:List T}{k:T}(n:uX P s c)(j:sZ w.heap μ l off f)(b:kl c f=some k):
 ∃d,(loadVar s ⟨l,off,none⟩).run P w= .ok d w/\fD w.heap μ k d:=by
 unfold kl at b;cases i:c.isAgg with
 |true=>
  rw[i]at b;have b:(dU (takeN c.size f) λj=>some (T.agg j))=some k:=b;obtain⟨y,g,p⟩:=dJ.1 b;rw[nR]at g;split at g
  ·rename_i x;simp at g p;subst g;subst p;have r:=j.take c.size;obtain⟨t,q,u⟩:=sZ.run_loadCells (P:=P) r;have v:(f.take c.size).length=c.size:=dB;rw[v]at q;refine⟨.agg t.toArray,?_,fD.xu (by simpa using u) r.scalar⟩;simp[loadVar,n.tP,i,n.run_sizeOf,q]
  ·simp at g
 |false=>
  rw[i]at b;have b:mm f 0=some k:=b;rw[kE]at b;obtain⟨d,m,hr⟩:=j.cell b;refine⟨d,?_,hr⟩;have m:w.cell? ⟨l,off,none⟩=some d:=by simpa using m
  simp[loadVar,n.tP,i,m]
def St.rowAt(K:St cx base hp μ h){m q b:Nat}{c:Loc}{f:T}(E:μ m=some c)(d:h.elem m q b=some f):sZ hp μ c.iS (b*c.sz) f.cells/\f.cells.length=c.sz:=by
 obtain⟨x,F,J⟩:=K.box m c E;unfold H.elem at d;rw[F]at d;obtain⟨O,A,Q,M,v,g⟩:=x;have d:gD (Nat.beq A q) (@Bool.rec (λ_=>aa T) (mm g b) none v)=some f:=d;obtain⟨_,d⟩:=dR.1 d;cases v with
 |true=>simp at d
 |false=>
  have d:g[b]? =some f:=by rw[<-kE];exact d
  have i:=J.plain rfl;obtain⟨p,L,B,C,D⟩:=i.row;have u:f∈g:=ax d;have t:=i.size f u;have s:b<g.length:=by
   rcases aF b g.length with y|y
   ·exact y
   ·simp[aM y]at d
  have N:=io i.size;refine⟨⟨⟨p,L,(0,0),B,?_,λl n k=> ?_⟩,λn k=>i.scalar n ?_⟩,t⟩
  ·rw[t,C];have:b+1<=c.cap:=by have:=i.room;simp only[]at this;omega
   calc b*c.sz+c.sz=(b+1)*c.sz:=by rw[cd]
    _<=c.cap*c.sz:=aW _ this
  ·have I:l<f.cells.length:=by
    rcases aF l f.cells.length with y|y
    ·exact y
    ·simp[aM y]at k
   have G:(fw g)[b*c.sz+l]? =some n:=by
    have r:=pK i.size b;have:g.drop b=f::g.drop (b+1):=by
     rw[aJ s];congr 1;simpa[s]using d
    rw[this,mc]at r;rw[<-bK,r,cm I];exact k
   obtain⟨z,j,hr⟩:=D.get G;rw[bO]at j;split at j
   ·have:p[b*c.sz+l]? =some z:=by simpa using j
    rw[bg,this];exact hr
   ·simp at j
  ·exact List.mem_flatMap.2 ⟨f,u,k⟩
def St.SQ(s:St cx base hp μ h){d f g:Nat}{c:Loc}{i:T}(n:μ d=some c)(b:h.elem d f g=some i):f=c.ep:=by
 obtain⟨j,p,q⟩:=s.box d c n;unfold H.elem at b;rw[p]at b;obtain⟨u,l,v,t,r,k⟩:=j;have b:gD (Nat.beq l f) (@Bool.rec (λ_=>aa T) (mm k g) none r)=some i:=b;obtain⟨m,_⟩:=dR.1 b;have:=aD m;have:=q.ep;simp only[]at this;omega
def Cy{t:ab}{u:Ty}{l g:T}{m:am}(r:uX P t u)(s:St cx base w.heap μ h)(p:fD w.heap μ l m)(b:h.load u l=some g):
 ∃f c,m= .pointer (some f)/\(loadVar t f).run P w= .ok c w/\fD w.heap μ g c:=by
 unfold H.load at b;cases l<;>simp at b
 ·rename_i K N R F;replace b:=dJ.1 b;obtain⟨S,q,b⟩:=b;replace b:=dJ.1 b;obtain⟨M,d,b⟩:=b;obtain⟨J,f,k,n,_,y⟩:=p.pO;have z:=s.SQ n q;obtain⟨G,O⟩:=s.rowAt n q;rw[md]at d;split at d
  ·rename_i B;simp at d;subst d;obtain⟨c,i,j⟩:=yp r (G.drop F B) b;exact⟨f,c,k,by rw[y z];exact i,j⟩
  ·simp at d
 ·rename_i L;obtain⟨x,off,v,I,fz,k,Q,A,C,D,hr⟩:=p.ma;obtain⟨c,i,j⟩:=yp r ⟨⟨v,I,fz,A,C,hr⟩,(λg E=>(D g E).1)⟩ b;exact⟨⟨x,off,none⟩,c,k,i,j⟩
def H6(ja:jg P cx){f:ab}{i:ah}(c:St cx base w.heap μ h)(q:ku w.heap μ mask e a.tmps)(l:o.op= .load f i){g:T}{d:H}
 (b:H7 f i cx mask e h=some (.val g d)):jn cx base w μ h.size ((execOp a.eval o).run P w) g d:=by
 replace b:=dJ.1 b;obtain⟨u,n,b⟩:=b;replace b:=dJ.1 b;obtain⟨t,hp,b⟩:=b;obtain⟨p,rfl⟩:=fV.1 b;obtain⟨r,s,m,j,k⟩:=Cy (ja.ty _ _ n) c (gU c q hp) p;exact jn.pure c (by simp[execOp,l,Instr.loadAt,m,Instr.sureAddr,j]) k
def xj(ja:jg P cx){l:ab}{g:Nat}{i:Nat×ab}(b:wL cx l g=some i):∃d c,P.underlying l=some (.struct d)/\d[g]? =some c/\c.offset=i.1/\c.type=i.2/\
 ∃k,P.info? c.type=some k/\k.size≠0:=by
 replace b:=dJ.1 b;obtain⟨s,q,b⟩:=b;obtain⟨t,m,j⟩:=kR (ja.ty _ _ q);cases r:s.u<;>rw[r]at b j<;>simp at b;obtain⟨d,rfl,p,n⟩:=rH j;subst p;rw[aU]at b;cases f:d.toList[g]? with
 |none=>rw[f]at b;simp at b
 |some c=>
  rw[f]at b;simp at b;refine⟨d,c,m,by simpa using f,by rw[<-b],by rw[<-b],n c (ax f)⟩
def Ao(ja:jg P cx){t:ab}{n:ah}{p:Nat}(m:St cx base w.heap μ h)(U:ku w.heap μ mask e a.tmps)(N:o.op= .fieldAddr t n p){c:T}{q:H}
 (b:pJ t n p cx mask e h=some (.val c q)):jn cx base w μ h.size ((execOp a.eval o).run P w) c q:=by
 replace b:=dJ.1 b;obtain⟨l,K,b⟩:=b;replace b:=dJ.1 b;obtain⟨S,hp,b⟩:=b;obtain⟨Y,Z,A,B,C,ae,i,D,E⟩:=xj ja K;have r:=gU m U hp;have s:∀d:Addr,a.eval n= .pointer (some d)->(execOp a.eval o).run P w= .ok (.value (.pointer (some (d.add l.1)))) w:=by
  intro d g;simp[execOp,N,Instr.fieldAt,run_underlying A,B,g,Instr.sureAddr,fieldPlace,sizeOf,typeInfo,D,E,C]
 cases S<;>simp at b
 ·rename_i x z Q R;obtain⟨rfl,rfl⟩:=b;obtain⟨u,d,g,G,J,F⟩:=r.pO;refine jn.pure m (s d g) (.ptr x z Q (R+l.1) u _ G J λI=> ?_);rw[F I,kL,cH]
 ·rename_i W;replace b:=dJ.1 b;obtain⟨X,f,b⟩:=b;simp at b;obtain⟨rfl,rfl⟩:=b;obtain⟨y,off,v,V,fz,g,M,L,an,O,hr⟩:=r.ma;rw[md]at f;split at f
  ·rename_i al;simp at f;subst f;refine jn.pure m (s _ g) ?_;rw[kL];refine .jy _ y (off+l.1) v V fz M L dB (λc j=>O c (bG j)) λk c j=> ?_;rw[bK]at j;have:=hr _ c j;rwa[<-cH]at this
  ·simp at f
def AJ{r:ab}{c:Ty}{f:List T}{i:af am}{off:Nat}{k:T}(m:uX P r c)(q:gJ hp μ f (i.toList.drop off))(s:∀n∈f,n.scalar=true)(b:kl c f=some k):
 ∃d,(part r i off).run P w= .ok d w/\fD hp μ k d:=by
 unfold kl at b;cases j:c.isAgg with
 |true=>
  rw[j]at b;have b:(dU (takeN c.size f) λu=>some (T.agg u))=some k:=b;obtain⟨x,g,p⟩:=dJ.1 b;rw[nR]at g;split at g
  ·rename_i v;simp at g p;subst g;subst p;refine⟨.agg (i.extract off (off+c.size)),by simp[part,m.tP,j,m.run_sizeOf],fD.xu ?_ λn t=>s n (bF t)⟩;have:=q.take c.size;rw[Array.toList_extract];simpa[List.extract_eq_take_drop]using this
  ·simp at g
 |false=>
  rw[j]at b;have b:mm f 0=some k:=b;rw[kE]at b;obtain⟨d,l,hr⟩:=q.get b;refine⟨d,?_,hr⟩;have l:i[off]? =some d:=by simpa using l
  simp[part,m.tP,j,l]
def FV(ja:jg P cx){j:ab}{d:ah}{f:Nat}(i:St cx base w.heap μ h)(E:ku w.heap μ mask e a.tmps)(x:o.op= .field j d f){k:T}{g:H}
 (b:Ap j d f cx mask e h=some (.val k g)):jn cx base w μ h.size ((execOp a.eval o).run P w) k g:=by
 replace b:=dJ.1 b;obtain⟨l,v,b⟩:=b;replace b:=dJ.1 b;obtain⟨L,A,b⟩:=b;replace b:=dJ.1 b;obtain⟨D,hp,b⟩:=b;obtain⟨J,K,m,n,p,q,_⟩:=xj ja v;have s:=gU i E hp;cases D<;>simp at b;replace b:=dJ.1 b;obtain⟨G,c,b⟩:=b;obtain⟨B,rfl⟩:=fV.1 b;obtain⟨I,y,r,z⟩:=s.pP;rw[md]at c;split at c
 ·simp at c;subst c;obtain⟨F,t,u⟩:=AJ (P:=P) (w:=w) (ja.ty _ _ A) (r.drop l.1) (λd C=>z d (bG C)) B;refine jn.pure i ?_ u;simp[execOp,x,Instr.field,run_underlying m,n,y,asAgg,p,q,t]
 ·simp at c
def nQ{f:T}{g:Nat}(b:pV f=some g):∃c,f= .int c (.ofNat g):=by
 unfold pV at b;cases f<;>simp at b;rename_i c d;cases d with
 |ofNat d=>simp at b;subst b;exact⟨c,rfl⟩
 |negSucc d=>simp at b
def FS(ja:jg P cx){G:ab}{p J:ah}(m:St cx base w.heap μ h)(F:ku w.heap μ mask e a.tmps)(B:o.op= .index G p J){I:T}{v:H}
 (b:Am G p J cx mask e h=some (.val I v)):jn cx base w μ h.size ((execOp a.eval o).run P w) I v:=by
 replace b:=dJ.1 b;obtain⟨an,Z,b⟩:=b;replace b:=dJ.1 b;obtain⟨E,hp,b⟩:=b;replace b:=dJ.1 b;obtain⟨q,W,b⟩:=b;replace b:=dJ.1 b;obtain⟨f,S,b⟩:=b;obtain⟨k,U⟩:=nQ S;obtain⟨d,A,t⟩:=kR (ja.ty _ _ Z);have l:=gU m F hp;have D:=(U▸gU m F W).jV;cases ae:an.u<;>rw[ae]at b t<;>simp at b
 ·
  have:=sx t;subst this;cases E<;>simp at b;rename_i g;replace b:=dJ.1 b;obtain⟨c,x,b⟩:=b;obtain⟨j,rfl⟩:=fV.1 b;simp at j;subst j;obtain⟨r,K⟩:=l.lU;refine jn.pure (c:= .int .u8 (c:Int)) m ?_ (.int _ _);have s:f<g.length:=by
   rcases aF f g.length with z|z
   ·exact z
   ·simp[aM z]at x
  have y:g[f]=c:=by simpa[s]using x
  have Q:c<256:=K c (by rw[<-y];exact aC s);have R:(bytesOf g)[f]? =some (UInt8.ofNat c):=by
   have X:f<(bytesOf g).size:=by rw[jU];exact s
   rw[getElem?_pos (bytesOf g) f X];congr 1;show(bytesOf g).data[f]=_;simp[bytesOf,y]
  simp[execOp,B,Instr.index,D,asIntOf,run_underlying A,r,R,jG Q]
 ·rename_i n aE;have:=rj t;subst this;cases E<;>simp at b;rename_i ap;replace b:=dJ.1 b;obtain⟨al,C,b⟩:=b;replace b:=dR.1 b;obtain⟨M,b⟩:=b;replace b:=dJ.1 b;obtain⟨av,i,b⟩:=b;obtain⟨j,rfl⟩:=fV.1 b;obtain⟨aA,r,L,Y⟩:=l.pP;rw[md]at i;split at i
  ·simp at i;subst i;obtain⟨c,N,O⟩:=AJ (P:=P) (w:=w) (ja.ty _ _ C) (L.drop (f*al.size)) (λp l=>Y p (bG l)) j;refine jn.pure m ?_ O;rw[aH]at M;have V:¬n<=f:=dz;simp[execOp,B,Instr.index,D,asIntOf,run_underlying A,r,V,(ja.ty _ _ C).run_sizeOf,N]
  ·simp at i
end
end
noncomputable section
section
variable {P:ai}{cx:Ctx}{base:Nat}{w:World}{μ:Mu}{h:H}{mask:Nat}{e:Env}{a:Act}{o:Oper}{hp:af Obj}
def St.KN(k:St cx base hp μ h){c:Nat}{b:Loc}{d:iZ}(j:μ c=some b)(f:h.get c=some d):d.sz=b.sz/\d.ep=b.ep:=by
 obtain⟨l,i,g⟩:=k.box c b j;rw[i]at f;simp at f;subst f;exact⟨g.sz,g.ep⟩
def flat_get{g:Nat}{es:List T}(l:∀v∈es,v.cells.length=g){i k:Nat}{v z:T}(b:es[i]? =some v)(c:v.cells[k]? =some z):(fw es)[i*g+k]? =some z:=by
 have f:i<es.length:=by
  rcases aF i es.length with y|y
  ·exact y
  ·rw[aM y]at b;simp at b
 have j:k<v.cells.length:=by
  rcases aF k v.cells.length with y|y
  ·exact y
  ·rw[aM y]at c;simp at c
 have d:=pK l i;have m:es[i]=v:=by rw[az f]at b;simpa using b
 rw[aJ f,m,mc]at d;rw[<-bK,d,cm j];exact c
def L8{f:T}{c:List T}{j off d g:Nat}{i:af am}{r:ab}{fz:Nat×Nat}{b:T}(z:¬nC μ j)(u:hp[j]? =some (.cells i r fz))
 (k:∀b∈f::c,b.cells.length=d) (A:off+(fw (f::c)).length<=i.size) (s:∀b∈fw (f::c),vj b)
 (hr:∀(n:Nat) b,(fw (f::c))[n]? =some b->fD hp μ b (i.getD (off+n) Go.undef)) (l:(f::c)[g]? =some b):
 fD hp μ (.jy b.cells) (.pointer (some ⟨j,off+g*d,none⟩)):=by
 have q:=ax l;have v:g<(f::c).length:=by
  rcases aF g (f::c).length with y|y
  ·exact y
  ·simp[aM y]at l
 have t:=io k;have x:=k b q;refine .jy b.cells j (off+g*d) i r fz z u ?_ (λp m=>s p (List.mem_flatMap.2 ⟨b,q,m⟩)) λn p m=> ?_
 ·rw[x];have:g*d+d<=(fw (f::c)).length:=by
   rw[t]
   calc g*d+d=(g+1)*d:=by rw[cd]
    _<=(f::c).length*d:=aW _ v
  omega
 ·have:=hr _ p (flat_get k l m);rwa[<-cH]at this
def Al(ja:jg P cx){t:ab}{x y:ah}(i:St cx base w.heap μ h)(r:ku w.heap μ mask e a.tmps)(an:o.op= .indexAddr t x y){s:T}{K:H}
 (b:pI t x y cx mask e h=some (.val s K)):jn cx base w μ h.size ((execOp a.eval o).run P w) s K:=by
 replace b:=dJ.1 b;obtain⟨ce,b9,b⟩:=b;replace b:=dJ.1 b;obtain⟨p,hp,b⟩:=b;replace b:=dJ.1 b;obtain⟨q,ap,b⟩:=b;replace b:=dJ.1 b;obtain⟨f,bT,b⟩:=b;obtain⟨k,bX⟩:=nQ bT;obtain⟨d,X,aE⟩:=kR (ja.ty _ _ b9);have Q:=gU i r hp;have aN:=(bX▸gU i r ap).jV;cases ca:ce.u<;>rw[ca]at b aE<;>simp at b
 ·rename_i bz;have:=mE aE;subst this;replace b:=dJ.1 b;obtain⟨m,aA,b⟩:=b;have N:=(ja.ty _ _ aA).run_sizeOf w;unfold kK at b;cases p<;>simp at b
  ·rename_i C bB;replace b:=dJ.1 b;obtain⟨z,I,b⟩:=b;replace b:=dR.1 b;obtain⟨hl,b⟩:=b;simp at b;obtain⟨rfl,rfl⟩:=b;have hl:=aD hl;cases C with
   |nil=>simp at I
   |cons cp C=>
    obtain⟨a6,off,c1,cb,aX,bp,fz,J,al,Z,dd,c9,bn,bk,bN,hr⟩:=Q.uj;have b8:cb=m.size:=by rw[<-bn z (ax I)];exact hl
    have di:f<C.length+1:=by
     rcases aF f (cp::C).length with y|y
     ·simpa using y
     ·rw[aM y]at I;simp at I
    have dk:¬((C.length:Int)+1<=(f:Int)):=dz;refine jn.pure i ?_ (L8 al Z bn bk bN hr I);rw[<-kL,b8];have G:¬C.length+1<=f:=dz;simp[execOp,an,Instr.indexAt,aN,asIntOf,run_underlying X,J,N,G]
  ·rename_i A B S l bB;replace b:=dR.1 b;obtain⟨hl,b⟩:=b;replace b:=dJ.1 b;obtain⟨a7,W,b⟩:=b;replace b:=dR.1 b;obtain⟨V,b⟩:=b;replace b:=dR.1 b;obtain⟨a8,b⟩:=b;simp at b;obtain⟨rfl,rfl⟩:=b;rw[aH]at hl;have V:=aD V;have a8:=aD a8;obtain⟨g,v,bu,J,D,L,c7,bS⟩:=Q.sS;obtain⟨U,bC⟩:=i.KN D W;obtain⟨cL,cX,bs⟩:=bS dz;have b6:bu≠0:=dz;rw[bs b6]at J;refine jn.pure (c:= .pointer (some ⟨g.iS,(S+f)*g.sz,none⟩)) i ?_ (.ptr A B (S+f) 0 g _ D L λ_=>by simp);have G:¬l<=f:=dz;have bH:(⟨g.iS,S*g.sz,none⟩:Addr).add (f*m.size)=⟨g.iS,(S+f)*g.sz,none⟩:=by
    rw[kL,<-V,U,co]
   simp[execOp,an,Instr.indexAt,aN,asIntOf,run_underlying X,J,N,G,bH]
 ·rename_i n bz;have:=rj aE;subst this;replace b:=dJ.1 b;obtain⟨m,aA,b⟩:=b;have N:=(ja.ty _ _ aA).run_sizeOf w;unfold oY at b;replace b:=dR.1 b;obtain⟨hl,b⟩:=b;rw[aH]at hl;have G:¬n<=f:=dz;have av:∀v:Addr,a.eval x= .pointer (some v)->(execOp a.eval o).run P w= .ok (.value (.pointer (some (v.add (f*m.size))))) w:=by
   intro v ap;simp[execOp,an,Instr.indexAt,aN,asIntOf,run_underlying X,ap,Instr.sureAddr,N,G]
  cases p<;>simp at b
  ·rename_i A B R j;replace b:=dJ.1 b;obtain⟨a7,W,b⟩:=b;obtain⟨g,v,M,D,L,bi⟩:=Q.pO;obtain⟨U,bC⟩:=i.KN D W;cases E:Nat.beq a7.sz m.size with
   |false=>
    rw[E]at b;have b:some (lN.val (T.ptr A B R (j+f*m.size)) h)=some (.val s K):=b;simp only[ar,lN.val.injEq]at b;obtain⟨rfl,rfl⟩:=b;refine jn.pure i (av v M) (.ptr A B R (j+f*m.size) g _ D L λY=> ?_);rw[bi Y,kL,cH]
   |true=>
    rw[E]at b;have b:gD (Nat.beq j 0) (some (lN.val (T.ptr A B (R+f) 0) h))=some (.val s K):=b;replace b:=dR.1 b;obtain⟨ae,b⟩:=b;have ae:=aD ae;subst ae;simp only[ar]at b;obtain⟨rfl,rfl⟩:=b;have E:=aD E;refine jn.pure i (av v M) (.ptr A B (R+f) 0 g _ D L λY=> ?_);rw[bi Y,kL,<-E,U,co];simp
  ·rename_i c4;replace b:=dJ.1 b;obtain⟨c6,F,b⟩:=b;simp at b;obtain⟨rfl,rfl⟩:=b;obtain⟨a6,off,aX,bp,fz,M,al,Z,bk,b7,hr⟩:=Q.ma;rw[md]at F;split at F
   ·rename_i de;simp at F;subst F;refine jn.pure i (av _ M) ?_;rw[kL];refine .jy _ a6 (off+f*m.size) aX bp fz al Z dB (λs O=>b7 s (bG O)) λk s O=> ?_;rw[bK]at O;have:=hr _ s O;rwa[<-cH]at this
   ·simp at F
end
end
end Go.TI
