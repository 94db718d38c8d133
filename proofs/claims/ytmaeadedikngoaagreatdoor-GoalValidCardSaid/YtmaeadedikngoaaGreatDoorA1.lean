/- Texts TiBase to TiRead2. -/
import Derived.Test.YtmaeadedikngoaaGreatDoorA0
import Derived.IntWalk
import Derived.Calls
import Derived.Laws.CopyRow
import Derived.Laws.Cells
import Derived.Laws.Entries
import Derived.WalkCall
import Derived.Laws.Strings
import Derived.Lib.Strings
import Derived.Laws.StructEq
import Derived.ChangeKeysEq
set_option linter.unusedVariables false
set_option linter.unusedSimpArgs false
set_option linter.defProp false
namespace Go.TI
abbrev dw(n:Int):T:=.int .i64 n
abbrev dx:T:=.dC [] false
abbrev dy(s v:Nat)(e:List T):iJ:=⟨s,0,v,true,false,e⟩
@[simp] abbrev dz(v:fJ)(n:Nat)(t:T):Prop:=TI.dF v n=some t
end Go.TI
namespace Go.TI
noncomputable section
@[simp] theorem dO {α β:Type} (a:α) (b:α->aa β):dJ (some a) b=b a:=rfl
@[simp] theorem Z1 {α β:Type} (a:α->aa β):dJ (none:aa α) a=none:=rfl
def dA{α β:Type}{a:aa α}{c:α->aa β}{d:β}:dJ a c=some d↔∃b,a=some b/\c b=some d:=by
 cases a<;>simp
@[simp] theorem gX {α:Type} (a:aa α):fP true a=a:=rfl
@[simp] theorem LM {α:Type} (a:aa α):fP false a=none:=rfl
def dI{α:Type}{a:Bool}{b:aa α}{c:α}:fP a b=some c↔a=true/\b=some c:=by
 cases a<;>simp
@[simp] theorem j9 {α β d:Type} (a:α) (b:β) (c:α->β->d):two (a,b) c=c a b:=rfl
@[simp] theorem ks {e:Type} (d:Ex) (a:Env) (c:H) (b:Ex->Env->H->e):three (d,a,c) b=b d a c:=rfl
section lists
variable {α β:Type}
@[simp] theorem kl (b:List α) (a:Nat):lF b a=b[a]? :=by
 induction b generalizing a with
 |nil=>simp[lF]
 |cons e d c=>cases a with
  |zero=>rfl
  |succ a=>exact(c a).trans dp 
def km(b:List α)(a:Nat)(c:α):kj b a c=if a<b.length then some (b.set a c)else none:=by
 induction b generalizing a with
 |nil=>rfl
 |cons h d f=>cases a with
  |zero=>rfl
  |succ a=>
   show(dJ (kj d a c) λg=>some (h::g))=_;rw[f];by_cases e:a<d.length<;>simp[e]
def mX(a:Nat)(b:List α):takeN a b=if a<=b.length then some (b.take a)else none:=by
 induction a generalizing b with
 |zero=>rfl
 |succ a e=>cases b with
  |nil=>rfl
  |cons g c=>
   show(dJ (takeN a c) λf=>some (g::f))=_;rw[e];by_cases d:a<=c.length<;>simp[d]
def ls(a:Nat)(b:List α):jF a b=if a<=b.length then some (b.drop a)else none:=by
 induction a generalizing b with
 |zero=>rfl
 |succ a e=>cases b with
  |nil=>rfl
  |cons f c=>
   show jF a c=_;rw[e];by_cases d:a<=c.length<;>simp[d]
@[simp] theorem jq (a:List α):kx a=a.length:=by
 induction a with
 |nil=>rfl
 |cons d c b=>show Nat.succ (kx c)=_;rw[b];rfl
@[simp] theorem qm (a b:List α):Dp a b=some (a++b):=by
 induction a with
 |nil=>rfl
 |cons f d c=>show(dJ (Dp d b) λe=>some (f::e))=_;rw[c];rfl
def jn(a:α->aa β)(c:α)(b:List α):fw a (c::b)=dJ (a c) λe=>dJ (fw a b) λd=>some (e::d):=rfl
@[simp] theorem Ux (a:α->aa β):fw a []=some []:=rfl
def qP{i:α->aa β}{e:List α}{c:List β}:fw i e=some c↔e.length=c.length/\∀(b:Nat) h,e[b]? =some h->∃f,c[b]? =some f/\i h=some f:=by
 induction e generalizing c with
 |nil=>
  constructor
  ·intro a;simp at a;subst a;simp
  ·rintro⟨a,_⟩;simp at a;simp[aY a.symm]
 |cons h e m=>
  rw[jn];constructor
  ·intro a;obtain⟨f,o,a⟩:=dA.1 a;obtain⟨q,ht,a⟩:=dA.1 a;simp at a;subst a;obtain⟨hl,g⟩:=m.1 ht;refine⟨by simp[hl],λb k d=> ?_⟩;cases b with
   |zero=>simp at d;subst d;exact⟨f,dp,o⟩
   |succ b=>simp at d;obtain⟨p,n,j⟩:=g b k d;exact⟨p,by simpa using n,j⟩
  ·rintro⟨hl,g⟩;cases c with
   |nil=>simp at hl
   |cons f c=>
    obtain⟨r,l,j⟩:=g 0 h dp;simp at l;subst l;have:fw i e=some c:=m.2 ⟨by simpa using hl,λb k d=>by simpa using g (b+1) k (by simpa using d)⟩;rw[j,this];rfl
@[simp] theorem m6 (b:α) (a:Nat):oE b a=List.replicate a b:=by
 induction a with
 |zero=>rfl
 |succ a c=>show b::oE b a=_;rw[c];rfl
@[simp] theorem yq (a:α->Bool) (b:List α):we a b=b.all a:=by
 induction b with
 |nil=>rfl
 |cons c b e=>
  show @Bool.rec (λ_=>Bool) false (we a b) (a c)=_;rw[e];cases d:a c<;>simp[d]
end lists
@[simp] theorem iq (a:Nat):f6 a=some a:=by cases a<;>rfl
@[simp] theorem Us (b:Int):JR b=some b:=by
 cases b with
 |ofNat a=>cases a<;>rfl
 |negSucc a=>cases a<;>rfl
@[simp] theorem nU (a:ak) (b:Int):wP a b=some (.int a b):=by simp[wP]
@[simp] theorem qJ (a:Bool):wn a=some (.bool a):=by cases a<;>rfl
@[simp] theorem xc (a b:ak):(CD a b=true)↔a=b:=by cases a<;>cases b<;>decide
def w8(c b:Int):JV c b=decide (c<b):=by
 cases c with
 |ofNat d=>cases b with
  |ofNat a=>
   show Nat.blt d a=_;rw[bD,aG];simp
  |negSucc a=>show false=_;symm;simp;omega
 |negSucc d=>cases b with
  |ofNat a=>show true=_;symm;simp;omega
  |negSucc a=>
   show Nat.blt a d=_;rw[bD,aG];simp;omega
def xf(c b:Int):P5 c b=(c==b):=by
 cases c with
 |ofNat d=>cases b with
  |ofNat a=>
   show Nat.beq d a=_;rw[bD,Nat.beq_eq];simp;omega
  |negSucc a=>rfl
 |negSucc d=>cases b with
  |ofNat a=>rfl
  |negSucc a=>
   show Nat.beq d a=_;rw[bD,Nat.beq_eq];simp
def ji(c:ak)(d:Int):Jp c d=c.wrap d:=by
 cases c<;>try rfl
 cases d with
 |ofNat a=>
  show @Bool.rec (λ_=>Int) (IntKind.i64.wrap (.ofNat a)) (Int.ofNat a) (Nat.ble a 9223372036854775807)=_;cases b:Nat.ble a 9223372036854775807
  ·rfl
  ·have:=bm b;show Int.ofNat a=_;exact(IntWalk.i64_in _ dq).symm
 |negSucc a=>
  show @Bool.rec (λ_=>Int) (IntKind.i64.wrap (.negSucc a)) (Int.negSucc a) (Nat.ble a 9223372036854775807)=_;cases b:Nat.ble a 9223372036854775807
  ·rfl
  ·have:=bm b;show Int.negSucc a=_;exact(IntWalk.i64_in _ dj).symm
@[simp] theorem xG (a:ak) (b:Int):o8 a b=some (.int a (a.wrap b)):=by simp[o8,ji]
def Fc(b a:List Nat):Tc b a=(b==a):=by
 induction b generalizing a with
 |nil=>cases a<;>rfl
 |cons c b f=>cases a with
  |nil=>rfl
  |cons d a=>
   show @Bool.rec (λ_=>Bool) false (Tc b a) (Nat.beq c d)=_;rw[f];rw[List.cons_beq_cons];cases e:Nat.beq c d
   ·have:(c==d)=false:=by rw[<-Bool.not_eq_true,beq_iff_eq,<-Nat.beq_eq];simp[e]
    simp[this]
   ·have:(c==d)=true:=by rw[beq_iff_eq,<-Nat.beq_eq];exact e
    simp[this]
def H.get_eq(b:H)(a:Nat):b.get a=if a<b.size then b.eY[b.size-1-a]? else none:=by
 obtain⟨d,f,e⟩:=b;show fP (Nat.blt a d) (lF e _)=_;by_cases c:a<d
 ·have:Nat.blt a d=true:=by rw[aG];exact c
  simp[this,c]
 ·have:Nat.blt a d=false:=by rw[<-Bool.not_eq_true,aG];exact c
  simp[this,c]
def H.Ob(b:Nat->T)(a:H)(c:iJ):a.new b c=some (b a.size,⟨a.size+1,a.low,c::a.eY⟩):=by
 obtain⟨d,f,e⟩:=a;show(dJ (f6 (Nat.succ d)) λg=>some (b d,(⟨g,f,c::e⟩:H)))=_;simp
def H.uO{b k:H}{a:Nat}{j:iJ}:b.put a j=some k↔
 a<b.size/\b.size-1-a<b.eY.length/\k=⟨b.size,if a<b.low then a else b.low,b.eY.set (b.size-1-a) j⟩:=by
 obtain⟨g,d,l⟩:=b;show fP (Nat.blt a g) (dJ (kj l (g-1-a) j) λh=> @Bool.rec (λ_=>aa H) (some (⟨g,d,h⟩:H)) (some ⟨g,a,h⟩) (Nat.blt a d))=_↔_;rw[dI,aG,km];constructor
 ·rintro⟨i,m⟩;obtain⟨h,f,e⟩:=dA.1 m;split at f
  ·rename_i hl;simp at f;subst f;refine⟨i,hl,?_⟩;by_cases c:a<d
   ·have:Nat.blt a d=true:=by rw[aG];exact c
    rw[this]at e;simp at e;simp[c,<-e]
   ·have:Nat.blt a d=false:=by rw[<-Bool.not_eq_true,aG];exact c
    rw[this]at e;simp at e;simp[c,<-e]
  ·simp at f
 ·rintro⟨i,hl,rfl⟩;refine⟨i,?_⟩;simp only[]at hl;rw[aq hl];by_cases c:a<d
  ·have:Nat.blt a d=true:=by rw[aG];exact c
   simp[this,c]
  ·have:Nat.blt a d=false:=by rw[<-Bool.not_eq_true,aG];exact c
   simp[this,c]
end
noncomputable section
structure Loc where
 ep:Nat
 iD:Nat
 cap:Nat
 sz:Nat
structure Mu where
 loc:Nat->aa Loc
 oD:Nat->Prop
instance :CoeFun Mu (λ_=>Nat->aa Loc):=⟨Mu.loc⟩
def mN(c:Mu)(b:Nat):Prop:=(∃d a,c d=some a/\a.iD=b)\/c.oD b
def T.scalar:T->Bool
 | .undef| .agg _| .tuple _=>false
 |_=>true
inductive j2:T->Prop where
 |bool (b:Bool):j2 (.bool b)
 |int (k:ak) (n:Int):j2 (.int k n)
 |str (s:List Nat):j2 (.str s)
 |j4:j2 .j4
 |je (cs:List T) (h:∀v∈cs,j2 v):j2 (.je cs)
 |dC (es:List T) (full:Bool) (h:∀v∈es,j2 v):j2 (.dC es full)
 |fO:j2 .fO
 |kq:j2 .kq
 |ko:j2 .ko
 |agg (cs:List T) (h:∀v∈cs,j2 v):j2 (.agg cs)
def uB(a:T):Prop:=a.scalar=true/\j2 a
def eQ(a:List T):List T:=a.flatMap T.cells
def bytesOf(a:List Nat):ByteArray:=⟨(a.map UInt8.ofNat).toArray⟩
inductive fa (hp:af Obj) (μ:Mu):T->am->Prop where
 |undef:fa hp μ .undef (.tuple #[])
 |bool (b:Bool):fa hp μ (.bool b) (.bool b)
 |int (k:ak) (n:Int):fa hp μ (.int k n) (.int k n)
 |str (s:List Nat) (h:∀c∈s,c<256):fa hp μ (.str s) (.string (bytesOf s))
 |j4:fa hp μ .j4 (.pointer none)
 |ptr (b ep i j:Nat) (L:Loc) (a:Addr) (hb:μ b=some L) (he:ep<=L.ep) (ha:ep=L.ep->a=⟨L.iD,i*L.sz+j,none⟩):
  fa hp μ (.ptr b ep i j) (.pointer (some a))
 |je (cells:List T) (iD off:Nat) (arr:af am) (t:ab) (fz:Nat×Nat) (hn:¬mN μ iD) (hh:hp[iD]? =some (.cells arr t fz))
  (hs:off+cells.length<=arr.size) (hc:∀v∈cells,uB v)
  (hr:∀(k:Nat) v,cells[k]? =some v->fa hp μ v (arr.getD (off+k) Go.undef)):fa hp μ (.je cells) (.pointer (some ⟨iD,off,none⟩))
 |mV (full:Bool) (a:aa Addr):fa hp μ (.dC [] full) (.slice a 0 0)
 |dC (e:T) (es:List T) (full:Bool) (iD off cap sz:Nat) (arr:af am) (t:ab) (fz:Nat×Nat) (hn:¬mN μ iD)
  (hh:hp[iD]? =some (.cells arr t fz)) (hl:es.length+1<=cap) (hf:full=true->cap=es.length+1)
  (hu:∀v∈e::es,v.cells.length=sz) (hs:off+(eQ (e::es)).length<=arr.size) (hc:∀v∈eQ (e::es),uB v)
  (hr:∀(k:Nat) v,(eQ (e::es))[k]? =some v->fa hp μ v (arr.getD (off+k) Go.undef)):
  fa hp μ (.dC (e::es) full) (.slice (some ⟨iD,off,none⟩) (es.length+1) cap)
 |fO (a:aa Addr) (cap:Nat):fa hp μ .fO (.slice a 0 cap)
 |arr (b ep o l:Nat) (full:Bool) (L:Loc) (a:aa Addr) (cp:Nat) (hb:μ b=some L) (he:ep<=L.ep) (hl:l<=cp)
  (h:ep=L.ep->(full=true->cp=l)/\(full=false->o+cp=L.cap)/\(cp≠0->a=some ⟨L.iD,o*L.sz,none⟩)):
  fa hp μ (.arr b ep o l full) (.slice a l cp)
 |func (f:aj) (caps:List T) (cs:af am) (hs:cs.size=caps.length)
  (hr:∀(k:Nat) v,caps[k]? =some v->fa hp μ v (cs.getD k Go.undef)):fa hp μ (.func f caps) (.func (.func f) #[] cs)
 |kq:fa hp μ .kq .nilFunc
 |ko:fa hp μ .ko .nilIface
 |iface (t:ab) (v:T) (c:am) (h:fa hp μ v c):fa hp μ (.iface t v) (.iface t c)
 |iter (b:Nat) (L:Loc) (a:Addr) (hb:μ b=some L) (h:L.ep=0->a=⟨L.iD,0,none⟩):fa hp μ (.iter b) (.pointer (some a))
 |map (b:Nat) (L:Loc) (i:Nat) (hb:μ b=some L) (h:L.ep=0->i=L.iD):fa hp μ (.map b) (.map (some i))
 |m7:fa hp μ .m7 (.map none)
 |agg (cells:List T) (cs:af am) (hs:cs.size=cells.length) (hc:∀v∈cells,v.scalar=true)
  (hr:∀(k:Nat) v,cells[k]? =some v->fa hp μ v (cs.getD k Go.undef)):fa hp μ (.agg cells) (.agg cs)
 |tuple (vs:List T) (cs:af am) (hs:cs.size=vs.length)
  (hr:∀(k:Nat) v,vs[k]? =some v->fa hp μ v (cs.getD k Go.undef)):fa hp μ (.tuple vs) (.tuple cs)
structure Ext(hp:af Obj)(μ:Mu)(hp':af Obj)(μ':Mu):Prop where
 size:hp.size<=hp'.size
 mT:∀i,i<hp.size->¬mN μ i->hp'[i]? =hp[i]? /\¬mN μ' i
 mu:∀b L,μ b=some L->∃L',μ' b=some L'/\(L'=L\/L.ep<L'.ep)
 oD:μ'.oD=μ.oD
 kept:∀i,i<hp.size->μ.oD i->hp'[i]? =hp[i]?
structure oP(w:World)(μ:Mu)(w':World)(μ':Mu):Prop where
 ext:Ext w.heap μ w'.heap μ'
 os:w'.os=w.os
 tape:w'.tape=w.tape
 output:w'.output=w.output
def Ext.refl(b:af Obj)(c:Mu):Ext b c b c:=⟨au _,λ_ _ a=>⟨rfl,a⟩,λ_ d a=>⟨d,a,.inl rfl⟩,rfl,λ_ _ _=>rfl⟩
def Ext.trans{hp f g:af Obj}{h i j:Mu}(a:Ext hp h f i)(d:Ext f i g j):Ext hp h g j:=by
 refine⟨aS a.size d.size,λc b s=> ?_,λe k r=> ?_,d.oD.trans a.oD,λc b hr=> ?_⟩
 rotate_right
 ·rw[d.kept c (bE b a.size) (by rw[a.oD];exact hr),a.kept c b hr]
 ·obtain⟨n,t⟩:=a.mT c b s;obtain⟨o,u⟩:=d.mT c (bE b a.size) t;exact⟨o.trans n,u⟩
 ·obtain⟨l,p,r1⟩:=a.mu e k r;obtain⟨m,q,r2⟩:=d.mu e l p;refine⟨m,q,?_⟩;rcases r1 with rfl|r1
  ·exact r2
  ·rcases r2 with rfl|r2
   ·exact .inr r1
   ·exact .inr (Nat.lt_trans r1 r2)
def oP.refl(a:World)(b:Mu):oP a b a b:=⟨Ext.refl _ _,rfl,rfl,rfl⟩
def oP.trans{c w1 d:World}{e f g:Mu}(a:oP c e w1 f)(b:oP w1 f d g):oP c e d g:=
 ⟨a.ext.trans b.ext,b.os.trans a.os,b.tape.trans a.tape,b.output.trans a.output⟩
def oI{a:af Obj}{b:Nat}{f:Obj}(c:a[b]? =some f):b<a.size:=by
 rcases aD b a.size with e|d
 ·exact e
 ·simp[cO d]at c
def fa.ext{A B:af Obj}{C D:Mu}{u:T}{t:am}(e:fa A C u t)(k:Ext A C B D):fa B D u t:=by
 induction e with
 |undef=>exact .undef
 |bool a=>exact .bool a
 |int N q=>exact .int N q
 |str R e=>exact .str R e
 |j4=>exact .j4
 |ptr a x z M g d i J I=>
  obtain⟨h,j,r⟩:=k.mu a g i;refine .ptr a x z M h d j ?_ ?_
  ·rcases r with rfl|r<;>omega
  ·intro b;rcases r with rfl|r
   ·exact I b
   ·omega
 |je w l off arr s fz y p f o _ c=>
  obtain⟨b,q⟩:=k.mT l (oI p) y;exact .je w l off arr s fz q (b.trans p) f o c
 |mV n d=>exact .mV n d
 |dC b G n l off v S arr s fz y p hl K L f o _ c=>
  obtain⟨Q,q⟩:=k.mT l (oI p) y;exact .dC b G n l off v S arr s fz q (Q.trans p) hl K L f o c
 |fO d v=>exact .fO d v
 |arr a x P O n g d F i J hl e=>
  obtain⟨h,j,r⟩:=k.mu a g i;refine .arr a x P O n h d F j ?_ hl ?_
  ·rcases r with rfl|r<;>omega
  ·intro b;rcases r with rfl|r
   ·exact e b
   ·omega
 |func H E m f _ c=>exact .func H E m f c
 |kq=>exact .kq
 |ko=>exact .ko
 |iface s u t _ c=>exact .iface s u t c
 |iter a g d i e=>
  obtain⟨h,j,r⟩:=k.mu a g i;refine .iter a h d j ?_;intro b;rcases r with rfl|r
  ·exact e b
  ·omega
 |map a g z i e=>
  obtain⟨h,j,r⟩:=k.mu a g i;refine .map a h z j ?_;intro b;rcases r with rfl|r
  ·exact e b
  ·omega
 |m7=>exact .m7
 |agg w m f o _ c=>exact .agg w m f o c
 |tuple U m f _ c=>exact .tuple U m f c
def fQ(e:af Obj)(f:Mu)(d:List T)(a:List am):Prop:=
 d.length=a.length/\∀(b:Nat) c,d[b]? =some c->fa e f c (a.getD b Go.undef)
def fQ.ext{c d:af Obj}{f g:Mu}{e:List T}{a:List am}(b:fQ c f e a)(k:Ext c f d g):fQ d g e a:=
 ⟨b.1,λi j h=>(b.2 i j h).ext k⟩
def fQ.nil{b:af Obj}{c:Mu}:fQ b c [] []:=⟨rfl,λd e a=>by simp at a⟩
def fQ.cons{b:af Obj}{d:Mu}{h:T}{e:am}{i:List T}{f:List am}(j:fa b d h e)(g:fQ b d i f):fQ b d (h::i) (e::f):=by
 refine⟨by simp[g.1],λc k a=> ?_⟩;cases c with
 |zero=>simp at a;subst a;simpa using j
 |succ c=>simp at a;simpa using g.2 c k a
def fQ.lV{d:af Obj}{f:Mu}{e:T}{g:List T}{c:List am}(h:fQ d f (e::g) c):∃a b,c=a::b/\fa d f e a/\fQ d f g b:=by
 obtain⟨hl,hr⟩:=h;cases c with
 |nil=>simp at hl
 |cons a b=>exact⟨a,b,rfl,by simpa using hr 0 e dp,by simpa using hl,λj k i=>by simpa using hr (j+1) k (by simpa using i)⟩
def fQ.append{c:af Obj}{d:Mu}{a g:List T}{b e:List am}(f:fQ c d a b)(h:fQ c d g e):fQ c d (a++g) (b++e):=by
 induction a generalizing b with
 |nil=>obtain⟨hl,_⟩:=f;simp at hl;rw[aY hl.symm];simpa using h
 |cons n a k=>obtain⟨l,m,rfl,j,i⟩:=f.lV;exact fQ.cons j (k i)
def fQ.take{e:af Obj}{f:Mu}{a:List T}{c:List am}(d:fQ e f a c)(b:Nat):fQ e f (a.take b) (c.take b):=by
 induction b generalizing a c with
 |zero=>simpa using fQ.nil
 |succ b i=>cases a with
  |nil=>obtain⟨hl,_⟩:=d;simp at hl;rw[aY hl.symm];simpa using fQ.nil
  |cons l a=>obtain⟨j,k,rfl,h,g⟩:=d.lV;exact fQ.cons h (i g)
def fQ.drop{e:af Obj}{f:Mu}{a:List T}{c:List am}(d:fQ e f a c)(b:Nat):fQ e f (a.drop b) (c.drop b):=by
 induction b generalizing a c with
 |zero=>simpa using d
 |succ b h=>cases a with
  |nil=>obtain⟨hl,_⟩:=d;simp at hl;rw[aY hl.symm];simpa using fQ.nil
  |cons k a=>obtain⟨i,j,rfl,_,g⟩:=d.lV;simpa using h g
def fQ.get{f:af Obj}{h:Mu}{b:List T}{a:List am}(d:fQ f h b a){k:Nat}{v:T}(g:b[k]? =some v):∃c,a[k]? =some c/\fa f h v c:=by
 have e:k<a.length:=by
  rw[<-d.1];rcases aD k b.length with j|i
  ·exact j
  ·simp[aK i]at g
 refine⟨a[k],by simp[e],?_⟩;simpa[List.getD,e]using d.2 k v g
def qD{d:af Obj}{f:Mu}{b:T}{a:am}(c:fa d f b a)(e:b.scalar=true):a.oneCell'=true:=by
 cases c<;>first|rfl|(simp[T.scalar]at e)
def fa.cells{p:af Obj}{r:Mu}{b:T}{c:am}(d:fa p r b c)(C:b.gD=true):
 fQ p r b.cells c.cells.toList/\(∀e∈b.cells,e.scalar=true)/\∀e∈c.cells.toList,e.oneCell'=true:=by
 have a:∀{b:T} {c:am},fa p r b c->b.scalar=true->b.cells=[b]->c.cells= #[c]->
  fQ p r b.cells c.cells.toList/\(∀e∈b.cells,e.scalar=true)/\∀e∈c.cells.toList,e.oneCell'=true:=by
  intro b c d f A j;rw[A,j];refine⟨fQ.cons d fQ.nil,?_,?_⟩
  ·intro e l;simp at l;rw[l];exact f
  ·intro e l;simp at l;rw[l];exact qD d f
 cases d with
 |agg n s f j hr=>
  have K:fQ p r n s.toList:=⟨by simp[f],λm b A=>by simpa[aV,List.getD]using hr m b A⟩;refine⟨K,j,?_⟩;intro e O;have l:e∈s.toList:=O;obtain⟨m,y,rfl⟩:=List.getElem_of_mem l;have D:m<n.length:=by simp at y;omega
  have:=hr m n[m] (by simp[D]);have J:=qD this (j _ (aF D));simp at y;simpa[aV,y]using J
 |undef=>simp[T.gD]at C
 |tuple=>simp[T.gD]at C
 |bool h=>exact a (.bool h) rfl rfl rfl
 |int m R=>exact a (.int m R) rfl rfl rfl
 |str U i=>exact a (.str U i) rfl rfl rfl
 |j4=>exact a .j4 rfl rfl rfl
 |ptr h v B P k g i w L=>exact a (.ptr h v B P k g i w L) rfl rfl rfl
 |je n t off arr q fz z x f j hr=>exact a (.je n t off arr q fz z x f j hr) rfl rfl rfl
 |mV o g=>exact a (.mV o g) rfl rfl rfl
 |dC G H o t off u V arr q fz z x hl M N f j hr=>exact a (.dC G H o t off u V arr q fz z x hl M N f j hr) rfl rfl rfl
 |fO g u=>exact a (.fO g u) rfl rfl rfl
 |arr h v S Q o k g F i w hl d=>exact a (.arr h v S Q o k g F i w hl d) rfl rfl rfl
 |func I E s f hr=>exact a (.func I E s f hr) rfl rfl rfl
 |kq=>exact a .kq rfl rfl rfl
 |ko=>exact a .ko rfl rfl rfl
 |iface q b c d=>exact a (.iface q b c d) rfl rfl rfl
 |iter h k g i d=>exact a (.iter h k g i d) rfl rfl rfl
 |map h k B i d=>exact a (.map h k B i d) rfl rfl rfl
 |m7=>exact a .m7 rfl rfl rfl
structure yy(hp:af Obj)(μ:Mu)(L:Loc)(sh:Bool)(ee:List T):Prop where
 row:∃arr t,hp[L.iD]? =some (.cells arr t (0,0))/\arr.size=L.cap*L.sz/\fQ hp μ (eQ ee) (arr.toList.take (eQ ee).length)
 room:ee.length<=L.cap
 sh:sh=true->L.cap=ee.length
 size:∀v∈ee,v.cells.length=L.sz
 scalar:∀v∈eQ ee,v.scalar=true
def aae(c:af Obj)(i:Mu)(j:Loc)(e:List T):Prop:=
 ∃a:af MapEntry,c[j.iD]? =some (.map a a.size)/\a.size=e.length/\
  ∀(d:Nat) h,e[d]? =some h->∃f g b,h= .tuple [f,g]/\a[d]? =some b/\b.born=d/\fa c i f b.key/\fa c i g b.val
def aaf(c:af Obj)(i:Mu)(g:Loc)(h:List T):Prop:=
 ∃e d f b a,h=[.map e,.int .i64 (.ofNat f),.int .i64 (.ofNat b),.int .i64 (.ofNat a)]/\fa c i (.map e) (.map (some d))/\b<=a/\
  c[g.iD]? =some (.mapIter (some d) b (Array.range f) a)
structure pV(hp:af Obj)(μ:Mu)(L:Loc)(x:iJ):Prop where
 ep:x.ep=L.ep
 sz:x.sz=L.sz
 plain:x.it=false->yy hp μ L x.exact x.ee
 iter:x.it=true->x.ep=0/\((∃s pos,x.ee=[.str s,.int .i64 (.ofNat pos)]/\(∀c∈s,c<256)/\hp[L.iD]? =some (.stringIter (bytesOf s) pos))\/aae hp μ L x.ee\/aaf hp μ L x.ee)
structure St(cx:Ctx)(base:Nat)(hp:af Obj)(μ:Mu)(h:H):Prop where
 wf:h.eY.length=h.size
 fit:base<=hp.size
 box:∀b L,μ b=some L->∃x,h.get b=some x/\pV hp μ L x
 inj:∀b b' L L',μ b=some L->μ b'=some L'->L.iD=L'.iD->b=b'
 low:∀b L,μ b=some L->base<=L.iD
 apart:∀b L,μ b=some L->¬μ.oD L.iD
 pS:∀i,μ.oD i->i<hp.size
 x6:∀g cs,cx.gl g=some cs->fa hp μ (.je cs) (.pointer (some ⟨g,0,none⟩))
def yy.ext{c d:af Obj}{g h:Mu}{b:Loc}{f:Bool}{e:List T}(a:yy c g b f e)(j:Ext c g d h)(n:d[b.iD]? =c[b.iD]?):yy d h b f e:=by
 obtain⟨i,o,k,l,m⟩:=a.row;exact⟨⟨i,o,n.trans k,l,m.ext j⟩,a.room,a.sh,a.size,a.scalar⟩
def pV.ext{k l:af Obj}{n o:Mu}{e:Loc}{i:iJ}(g:pV k n e i)(f:Ext k n l o)(h:l[e.iD]? =k[e.iD]?):pV l o e i:=
 ⟨g.ep,g.sz,λd=>(g.plain d).ext f h,λd=>by
   obtain⟨j,⟨C,m,a,b,c⟩|⟨q,a,b,c⟩|⟨A,z,m,D,p,a,b,c,w⟩⟩:=g.iter d
   ·exact⟨j,.inl ⟨C,m,a,b,h.trans c⟩⟩
   ·refine⟨j,.inr (.inl ⟨q,h.trans a,b,λy i x=> ?_⟩)⟩;obtain⟨d,E,B,r,s,t,u,v⟩:=c y i x;exact⟨d,E,B,r,s,t,u.ext f,v.ext f⟩
   ·exact⟨j,.inr (.inr ⟨A,z,m,D,p,a,b.ext f,c,h.trans w⟩)⟩⟩
def pV.lt{e:af Obj}{i:Mu}{b:Loc}{f:iJ}(c:pV e i b f):b.iD<e.size:=by
 cases d:f.it with
 |false=>obtain⟨j,m,a,_⟩:=(c.plain d).row;exact oI a
 |true=>
  obtain⟨_,⟨s,l,_,_,g⟩|⟨k,a,_⟩|⟨_,_,_,_,_,_,_,_,h⟩⟩:=c.iter d
  ·exact oI g
  ·exact oI a
  ·exact oI h
def St.lt{cx:Ctx}{e:Nat}{c:af Obj}{d:Mu}{f:H}(s:St cx e c d f){b:Nat}{a:Loc}(g:d b=some a):a.iD<c.size:=by
 obtain⟨i,_,h⟩:=s.box b a g;exact h.lt
section
variable {P:ai}{cx:Ctx}
structure uo(P:ai)(t:ab)(ty:Ty):Prop where
 is:∃cmp,TK P t cmp=some ty
def jm{a:Nat}(b:a<256):(UInt8.ofNat a).toNat=a:=by
 simp[UInt8.toNat_ofNat'];omega
def LS(a:List UInt8):zr a=some (a.map UInt8.toNat):=by
 induction a with
 |nil=>rfl
 |cons d a b=>
  show(dJ (f6 d.toNat) λe=>dJ (zr a) λc=>some (e::c))=_;rw[b];simp
def wE(a:ByteArray):bytesOf (a.data.toList.map UInt8.toNat)=a:=by
 unfold bytesOf;rw[cF];have:(UInt8.ofNat∘UInt8.toNat)=id:=by funext b;simp
 rw[this];simp
def fa.nl{hp:af Obj}{μ:Mu}{d:am}{b:T}(a:nl d=some b):fa hp μ b d/\b.scalar=true:=by
 unfold TI.nl at a;split at a
 ·simp at a;subst a;exact⟨.bool _,rfl⟩
 ·simp at a;subst a;exact⟨.int _ _,rfl⟩
 ·rename_i f;rw[LS]at a;simp at a;subst a;refine⟨?_,rfl⟩;have:=fa.str (hp:=hp) (μ:=μ) (f.data.toList.map UInt8.toNat) (by intro g c;simp at c;obtain⟨e,_,rfl⟩:=c;exact e.toNat_lt);rwa[wE]at this
 ·simp at a;subst a;exact⟨.j4,rfl⟩
 ·simp at a;subst a;exact⟨.m7,rfl⟩
 ·simp at a;subst a;exact⟨.mV _ _,rfl⟩
 ·simp at a;subst a;exact⟨.kq,rfl⟩
 ·simp at a;subst a;exact⟨.ko,rfl⟩
 ·simp at a
def fQ.rL{hp:af Obj}{μ:Mu}{d:List am}{g:List T}(k:fw TI.nl d=some g):fQ hp μ g d/\∀i∈g,i.scalar=true:=by
 obtain⟨hl,j⟩:=qP.1 k;refine⟨⟨hl.symm,λb i f=> ?_⟩,λi f=> ?_⟩
 ·have e:b<d.length:=by
   rcases aD b g.length with a|a
   ·omega
   ·simp[aK a]at f
  obtain⟨m,c,h⟩:=j b d[b] (by simp[e]);rw[f]at c;simp at c;subst c;simpa[List.getD,e]using(fa.nl h).1
 ·obtain⟨b,e,rfl⟩:=List.getElem_of_mem f;have l:b<d.length:=dj;obtain⟨m,c,h⟩:=j b d[b] (by simp[l]);simp[e]at c;subst c;exact(fa.nl (hp:=hp) (μ:=μ) h).2
def fa.wH{e:af Obj}{f:Mu}{a:List T}{b:af am}(d:fQ e f a b.toList)(g:∀c∈a,c.scalar=true):fa e f (.agg a) (.agg b):=
 .agg a b (by simpa using d.1.symm) g λi c h=>by simpa[aV,List.getD]using d.2 i c h
def fa.xR{hp:af Obj}{μ:Mu}{c:am}{d:T}(a:xR c=some d):fa hp μ d c:=by
 unfold TI.xR at a;split at a
 ·rename_i h;obtain⟨i,e,b⟩:=dA.1 a;simp at b;subst b;obtain⟨f,g⟩:=fQ.rL (hp:=hp) (μ:=μ) e;exact fa.wH f g
 ·exact(fa.nl a).1
def uo.unfold{f:ab}{c:Ty}(a:uo P f c):∃b d g,P.info? f=some b/\P.underlying f=some d/\b.zero=some g/\fw nl g.cells.toList=some c.zero/\
 Ap P d=some c.u/\sk d g=true/\c.zero.length=b.size/\b.size=c.size/\b.bytes=c.bytes/\
 (c.cmp=true->P.stoodInHeld f=false/\P.eqGuardType P.depth f=false/\JT d=true):=by
 obtain⟨p,a⟩:=a.is;unfold TK at a;obtain⟨b,j,a⟩:=dA.1 a;obtain⟨d,k,a⟩:=dA.1 a;obtain⟨g,l,a⟩:=dA.1 a;obtain⟨r,m,a⟩:=dA.1 a;obtain⟨q,n,a⟩:=dA.1 a;obtain⟨o,a⟩:=dI.1 a;obtain⟨h,a⟩:=dI.1 a;obtain⟨e,a⟩:=dI.1 a;simp at a;rw[<-a];refine⟨b,d,g,j,k,l,m,n,o,?_,rfl,rfl,?_⟩
 ·rw[jq]at h;exact aC h
 ·intro i;simp only[]at i;rw[i]at e;simp at e;exact⟨e.1.1,e.1.2,e.2⟩
def uo.run_sizeOf{a:ab}{b:Ty}(d:uo P a b)(c:World):(sizeOf a).run P c= .ok b.size c:=by
 obtain⟨h,g,i,e,_,_,_,_,_,_,f,_⟩:=d.unfold;simp[sizeOf,typeInfo,e,f]
def uo.run_typeInfo{c:ab}{b:Ty}(e:uo P c b)(d:World):∃a,(typeInfo c).run P d= .ok a d/\a.bytes=b.bytes/\a.size=b.size:=by
 obtain⟨a,i,j,f,_,_,_,_,_,_,g,h,_⟩:=e.unfold;exact⟨a,by simp[typeInfo,f],h,g⟩
def Z5:TypeDesc->Bool
 | .struct _| .array _ _=>true
 |_=>false
def yY{b:TypeDesc}{c:Ty}(a:Ap P b=some c.u):c.isAgg=Z5 b:=by
 unfold Ty.isAgg;cases b<;>simp only[Ap]at a<;>first|(injection a with a;rw[<-a];rfl)|(split at a<;>simp at a;rw[<-a];rfl)
def uo.sJ{a:ab}{b:Ty}(e:uo P a b)(c:World):(isAgg a).run P c= .ok b.isAgg c:=by
 obtain⟨h,d,i,_,f,_,_,g,_⟩:=e.unfold;rw[yY g];simp only[isAgg,Sem.run_bind,run_underlying f,Result.andThen_ok];cases d<;>rfl
def uo.zero{s:ab}{a:Ty}(e:uo P s a)(t:World):∃b,(zeroValue s).run P t= .ok b t/\(∀hp μ,fa hp μ a.jV b)/\(∀hp μ,fQ hp μ a.zero b.cells.toList)/\
 (∀z∈a.zero,z.scalar=true)/\a.zero.length=a.size/\a.jV.cells=a.zero/\a.jV.gD=true/\b.cells.size=a.size:=by
 obtain⟨H,n,b,u,D,v,f,o,g,E,F,G,_⟩:=e.unfold;have h:=(fQ.rL (hp:= #[]) (μ:=⟨λ_=>none,λ_=>False⟩) f).2;have l:a.zero.length=b.cells.size:=by
  have:=(fQ.rL (hp:= #[]) (μ:=⟨λ_=>none,λ_=>False⟩) f).1.1;simpa using this
 refine⟨b,by simp[zeroValue,typeInfo,u,v],?_,λhp μ=>(fQ.rL f).1,h,dj,?_⟩
 ·intro hp μ;have d:=(fQ.rL (hp:=hp) (μ:=μ) f).1;unfold Ty.jV;rw[yY o];cases n with
  |struct C=>cases b with
   |agg m=>exact fa.wH d h
   |_=>simp[sk]at g
  |array I B=>cases b with
   |agg m=>exact fa.wH d h
   |_=>simp[sk]at g
  |_=>
   have i:b.cells= #[b]:=by cases b<;>simp[sk]at g<;>rfl
   rw[i]at d;obtain⟨hl,_⟩:=d;simp at hl
   match j:a.zero,hl with
   | [c],_=>
    have d:=(fQ.rL (hp:=hp) (μ:=μ) f).1;rw[i,j]at d;obtain⟨A,m,q,x,_⟩:=d.lV;simp at q;show fa hp μ c b;rw[q.1];exact x
 ·have p:=yY o;have w:(a.isAgg=true/\a.jV= .agg a.zero)\/(a.isAgg=false/\∃c,a.zero=[c]/\a.jV=c/\c.scalar=true):=by
   cases k:a.isAgg with
   |true=>left;exact⟨rfl,by unfold Ty.jV;rw[k]⟩
   |false=>
    right;refine⟨rfl,?_⟩;have i:b.cells= #[b]:=by
     rw[k]at p;cases n<;>simp[Z5]at p<;>cases b<;>simp[sk]at g<;>rfl
    rw[i]at l;simp at l
    match j:a.zero,l with
    | [c],_=>exact⟨c,rfl,by unfold Ty.jV;rw[k,j];rfl,h c (by simp[j])⟩
  rcases w with⟨_,e⟩|⟨_,c,y,e,r⟩
  ·rw[e];exact⟨rfl,rfl,dj⟩
  ·rw[e,y];refine⟨?_,?_,dj⟩
   ·cases c<;>simp[T.scalar]at r<;>rfl
   ·cases c<;>simp[T.scalar]at r<;>rfl
structure iM(P:ai)(cx:Ctx):Prop where
 ty:∀t ty,cx.ty t=some ty->uo P t ty
def j1(d:af Obj)(g:Mu)(e:Nat)(c:Env)(f:af am):Prop:=
 ∀a b,c.get e a=some b->fa d g b (f.getD a Go.undef)
def j1.ext{b c:af Obj}{f g:Mu}{d:Nat}{a:Env}{e:af am}(h:j1 b f d a e)(l:Ext b f c g):j1 c g d a e:=
 λj k i=>(h j k i).ext l
def fT{k:Nat}{c:af Obj}{e:Mu}{n:H}{j:Nat}{g:Env}{f:Act}(r:St cx k c e n)(q:j1 c e j g f.tmps){d:ah}{a:T}
 (b:fy cx j g d=some a):fa c e a (f.eval d):=by
 cases d with
 |tmp s=>exact q s a b
 |const t=>exact fa.xR b
 |global m=>
  obtain⟨l,o,i⟩:=dA.1 b;simp at i;subst i;exact r.x6 m l o
 |func h=>
  have:T.func h []=a:=by simpa[fy]using b
  subst this;exact .func h [] #[] rfl λu a p=>by simp at p
def uQ{i:Nat}{c:af Obj}{e:Mu}{j:H}{h:Nat}{g:Env}{f:Act}(o:St cx i c e j)(n:j1 c e h g f.tmps){b:List ah}{d:List T}
 (a:pi cx h g b=some d):fQ c e d (b.map f.eval):=by
 induction b generalizing d with
 |nil=>simp[pi]at a;subst a;exact fQ.nil
 |cons p b m=>
  unfold pi at a;rw[jn]at a;obtain⟨r,k,a⟩:=dA.1 a;obtain⟨q,l,a⟩:=dA.1 a;simp at a;subst a;exact fQ.cons (fT o n k) (m l)
end
end
noncomputable section
section inv
variable {hp:af Obj}{μ:Mu}{c:am}
def fa.pz{b:Bool}(h:fa hp μ (.bool b) c):c= .bool b:=by cases h;rfl
def fa.jD{b:ak}{d:Int}(h:fa hp μ (.int b d) c):c= .int b d:=by cases h;rfl
def fa.kZ{b:List Nat}(h:fa hp μ (.str b) c):c= .string (bytesOf b)/\∀d∈b,d<256:=by cases h;exact⟨rfl,by assumption⟩
def fa.py(h:fa hp μ .j4 c):c= .pointer none:=by cases h;rfl
def fa.oQ{f d g i:Nat}(h:fa hp μ (.ptr f d g i) c):∃b a,c= .pointer (some a)/\μ f=some b/\d<=b.ep/\(d=b.ep->a=⟨b.iD,g*b.sz+i,none⟩):=by
 cases h with|ptr _ _ _ _ b a k l j=>exact⟨b,a,rfl,k,l,j⟩
def fa.lm{f:List T}(h:fa hp μ (.je f) c):∃d off b i fz,c= .pointer (some ⟨d,off,none⟩)/\¬mN μ d/\hp[d]? =some (.cells b i fz)/\
 off+f.length<=b.size/\(∀g∈f,uB g)/\∀(j:Nat) g,f[j]? =some g->fa hp μ g (b.getD (off+j) Go.undef):=by
 cases h with|je _ d off b i fz m l n k hr=>exact⟨d,off,b,i,fz,rfl,m,l,n,k,hr⟩
def fa.rQ{j g o f:Nat}{i:Bool}(h:fa hp μ (.arr j g o f i) c):∃b a d,c= .slice a f d/\μ j=some b/\g<=b.ep/\f<=d/\
 (g=b.ep->(i=true->d=f)/\(i=false->o+d=b.cap)/\(d≠0->a=some ⟨b.iD,o*b.sz,none⟩)):=by
 cases h with|arr _ _ _ _ _ b a d k l hl h=>exact⟨b,a,d,rfl,k,l,hl,h⟩
def fa.y8(h:fa hp μ .fO c):∃a b,c= .slice a 0 b:=by cases h;exact⟨_,_,rfl⟩
def fa.tu{b:Bool}(h:fa hp μ (.dC [] b) c):∃a,c= .slice a 0 0:=by cases h;exact⟨_,rfl⟩
def fa.tv{j:T}{b:List T}{m:Bool}(h:fa hp μ (.dC (j::b) m) c):∃g off i k f l fz,c= .slice (some ⟨g,off,none⟩) (b.length+1) i/\¬mN μ g/\
 hp[g]? =some (.cells f l fz)/\b.length+1<=i/\(m=true->i=b.length+1)/\(∀d∈j::b,d.cells.length=k)/\off+(eQ (j::b)).length<=f.size/\
 (∀d∈eQ (j::b),uB d)/\∀(n:Nat) d,(eQ (j::b))[n]? =some d->fa hp μ d (f.getD (off+n) Go.undef):=by
 cases h with|dC _ _ _ g off i k f l fz s r hl q u t p hr=>exact⟨g,off,i,k,f,l,fz,rfl,s,r,hl,q,u,t,p,hr⟩
def fa.qT{f:aj}{d:List T}(h:fa hp μ (.func f d) c):∃b,c= .func (.func f) #[] b/\fQ hp μ d b.toList:=by
 cases h with|func _ _ b g hr=>exact⟨b,rfl,by simpa using g.symm,λj k i=>by simpa[aV,List.getD]using hr j k i⟩
def fa.tF(h:fa hp μ .kq c):c= .nilFunc:=by cases h;rfl
def fa.tz(h:fa hp μ .ko c):c= .nilIface:=by cases h;rfl
def fa.vV{b:ab}{f:T}(h:fa hp μ (.iface b f) c):∃d,c= .iface b d:=by cases h;exact⟨_,rfl⟩
def fa.Oo{d:Nat}(h:fa hp μ (.iter d) c):∃b a,c= .pointer (some a)/\μ d=some b/\(b.ep=0->a=⟨b.iD,0,none⟩):=by
 cases h with|iter _ b a f h=>exact⟨b,a,rfl,f,h⟩
def fa.oR{d:List T}(h:fa hp μ (.agg d) c):∃b,c= .agg b/\fQ hp μ d b.toList/\∀f∈d,f.scalar=true:=by
 cases h with|agg _ b i g hr=>exact⟨b,rfl,⟨by simpa using i.symm,λk f j=>by simpa[aV,List.getD]using hr k f j⟩,g⟩
def fa.yZ{d:List T}(h:fa hp μ (.tuple d) c):∃b,c= .tuple b/\fQ hp μ d b.toList:=by
 cases h with|tuple _ b f hr=>exact⟨b,rfl,by simpa using f.symm,λi j g=>by simpa[aV,List.getD]using hr i j g⟩
end inv
section
variable {P:ai}{cx:Ctx}{base:Nat}{w:World}{μ:Mu}{h:H}{mask:Nat}{e:Env}{a:Act}{o:Oper}
def xu(μ g:Mu)(d f:Nat):Prop:=d<=f/\(∀b,g b≠none->μ b≠none\/(d<=b/\b<f))/\∀b,d<=b->b<f->g b≠none
def xu.refl(μ:Mu)(b:Nat):xu μ μ b b:=⟨au _,λ_ h=> .inl h,λf g d=>absurd d dj⟩
def xu.trans{hp s t:af Obj}{μ i j:Mu}{k g l:Nat}(h:xu μ i k g)(d:xu i j g l)(x:Ext s i t j):xu μ j k l:=by
 have v:=h.1;have z:=d.1;refine⟨aS h.1 d.1,λb f=> ?_,λb f q=> ?_⟩
 ·rcases d.2.1 b f with x|x
  ·rcases h.2.1 b x with y|y
   ·exact .inl y
   ·exact .inr ⟨y.1,dj⟩
  ·exact .inr ⟨dj,x.2⟩
 ·by_cases r:b<g
  ·obtain⟨m,n⟩:=Option.ne_none_iff_exists'.1 (h.2.2 b f r);obtain⟨u,p,_⟩:=x.mu b m n;rw[p];simp
  ·exact d.2.2 b dj q
def iV(cx:Ctx)(base:Nat)(w:World)(μ:Mu)(i:Nat)(g:Result Next)(j:T)(f:H):Prop:=
 ∃c b d,(g= .ok (.value c) b\/(g= .ok .skip b/\c=Go.undef))/\fa b.heap d j c/\St cx base b.heap d f/\oP w μ b d/\xu μ d i f.size
def iV.pure{b:Result Next}{d:T}{c:am}(g:St cx base w.heap μ h)(hr:b= .ok (.value c) w)(f:fa w.heap μ d c):iV cx base w μ h.size b d h:=
 ⟨c,w,μ,.inl hr,f,g,oP.refl _ _,xu.refl _ _⟩
def fH{h d:H}{b:aa T}{f:T}:val h b=some (.val f d)↔b=some f/\d=h:=by
 unfold val;cases b with
 |none=>simp
 |some g=>simp;intro _;exact eq_comm
def zw{h:H}{b:aa T}{f:aj}{d:List T}:val h b≠some (.call f d):=by
 unfold val;cases b<;>simp
def Af{d:ah}(g:St cx base w.heap μ h)(l:j1 w.heap μ mask e a.tmps)(b:o.op= .move d\/o.op= .assign d){i:T}{f:H}
 (j:BT d cx mask e h=some (.val i f)):iV cx base w μ h.size ((execOp a.eval o).run P w) i f:=by
 obtain⟨k,rfl⟩:=fH.1 j;refine iV.pure g ?_ (fT g l k);rcases b with b|b<;>simp[execOp,b]
def GU{c n p:ah}(d:St cx base w.heap μ h)(i:j1 w.heap μ mask e a.tmps)(l:o.op= .pick c n p){m:T}{j:H}
 (b:D4 c n p cx mask e h=some (.val m j)):iV cx base w μ h.size ((execOp a.eval o).run P w) m j:=by
 obtain⟨f,q,b⟩:=dA.1 b;have r:=fT d i q;cases f<;>simp at b;rename_i f;have k:=r.pz;cases f with
 |false=>
  obtain⟨g,rfl⟩:=fH.1 b;exact iV.pure d (by simp[execOp,l,k,asBool]) (fT d i g)
 |true=>
  obtain⟨g,rfl⟩:=fH.1 b;exact iV.pure d (by simp[execOp,l,k,asBool]) (fT d i g)
def As{l:ah}(g:St cx base w.heap μ h)(p:j1 w.heap μ mask e a.tmps)(i:o.op= .nilCheck l){k:T}{j:H}
 (f:qv l cx mask e h=some (.val k j)):iV cx base w μ h.size ((execOp a.eval o).run P w) k j:=by
 obtain⟨m,n,f⟩:=dA.1 f;have d:=fT g p n;cases m<;>simp at f
 ·obtain⟨rfl,rfl⟩:=f;obtain⟨q,r,b,_⟩:=d.oQ;exact iV.pure g (by simp[execOp,i,b]) (b▸d)
 ·obtain⟨rfl,rfl⟩:=f;obtain⟨t,off,s,v,fz,b,_⟩:=d.lm;exact iV.pure g (by simp[execOp,i,b]) (b▸d)
 ·obtain⟨rfl,rfl⟩:=f;obtain⟨u,b,_⟩:=d.qT;exact iV.pure g (by simp[execOp,i,b]) (b▸d)
def ES(iH:iM P cx){d:ab}{g:ah}(p:St cx base w.heap μ h)(B:j1 w.heap μ mask e a.tmps)(x:o.op= .makeInterface d g){f:T}{k:H}
 (b:zg d g cx mask e h=some (.val f k)):iV cx base w μ h.size ((execOp a.eval o).run P w) f k:=by
 obtain⟨q,y,b⟩:=dA.1 b;obtain⟨F,j,G,C,s,D,E,l,_⟩:=(iH.ty d q y).unfold;have A:∀{i:H},(dJ (fy cx mask e g) λa=>fP a.gD (val h (some (.iface d a))))=some (.val f i)->(∀n,j≠ .interface n)->iV cx base w μ h.size ((execOp a.eval o).run P w) f i:=by
  intro i b v;obtain⟨r,t,b⟩:=dA.1 b;obtain⟨_,b⟩:=dI.1 b;obtain⟨m,rfl⟩:=fH.1 b;simp at m;subst m;refine iV.pure (c:= .iface d (a.eval g)) p ?_ (.iface d r _ (fT p B t));simp only[execOp,x,Instr.makeInterface,Sem.run_bind,run_underlying s,Result.andThen_ok];cases j<;>first|rfl|exact absurd rfl (v _)
 cases z:q.u<;>rw[z]at b l<;>first|(exact A b (by rintro n rfl;simp[Ap]at l))|(simp at b)
def G4{j:Fn}{first g:af ah}(m:St cx base w.heap μ h)(t:j1 w.heap μ mask e a.tmps)(r:o.op= .makeFunc j first g){f:T}{k:H}
 (b:BU j first g cx mask e h=some (.val f k)):iV cx base w μ h.size ((execOp a.eval o).run P w) f k:=by
 unfold BU at b;split at b
 ·rename_i i;split at b
  ·rename_i q;obtain⟨n,p,b⟩:=dA.1 b;obtain⟨d,rfl⟩:=fH.1 b;simp at d;subst d;have l:=uQ m t p;refine iV.pure (c:= .func (.func i) #[] (g.map a.eval)) m ?_ (.func i n _ (by simpa using l.1.symm) λs f d=> ?_)
   ·have:first= #[]:=by cases first;simpa using q
    simp[execOp,r,Instr.makeFunc,this]
   ·have:=l.2 s f d;simpa[aV,List.getD]using this
  ·simp at b
 ·simp at b
def BV{k:ah}{g:Nat}(i:St cx base w.heap μ h)(u:j1 w.heap μ mask e a.tmps)(r:o.op= .extract k g){j:T}{d:H}
 (b:tH k g cx mask e h=some (.val j d)):iV cx base w μ h.size ((execOp a.eval o).run P w) j d:=by
 obtain⟨l,n,b⟩:=dA.1 b;have p:=fT i u n;cases l<;>simp at b;obtain⟨t,rfl⟩:=fH.1 b;obtain⟨v,s,m⟩:=p.yZ;obtain⟨c,f,q⟩:=m.get t;exact iV.pure i (by simp only[execOp,r,s,Instr.extract];simp at f;simp[f]) q
end
end
noncomputable section
section
variable {P:ai}{cx:Ctx}{base:Nat}{w:World}{μ:Mu}{h:H}{mask:Nat}{e:Env}{a:Act}{o:Oper}{hp:af Obj}
def uf{j k i:T}{f:ak->Int->Int->aa T}(h:wc j k f=some i):∃b c d,j= .int b c/\k= .int b d/\f b c d=some i:=by
 unfold wc at h;split at h
 ·rename_i b c;split at h
  ·rename_i m d;obtain⟨g,l⟩:=dI.1 h;rw[xc]at g;subst g;exact⟨b,c,d,rfl,rfl,l⟩
  ·simp at h
 ·simp at h
def uJ{j k i:T}{g:ak->Int->Nat->aa T}(h:yF j k g=some i):∃c d f b,j= .int c d/\k= .int f (.ofNat b)/\g c d (min b c.bits)=some i:=by
 unfold yF at h;split at h
 ·rename_i c d;split at h
  ·rename_i f b;cases b with
   |ofNat b=>exact⟨c,d,f,b,rfl,rfl,h⟩
   |negSucc b=>simp at h
  ·simp at h
 ·simp at h
def Fl{k l j:T}{m:Int->Int->Bool}{n:List Nat->List Nat->Bool}(h:I6 k l m n=some j):
 (∃b c d,k= .int b c/\l= .int b d/\j= .bool (m c d))\/(∃f g,k= .str f/\l= .str g/\j= .bool (n f g)):=by
 unfold I6 at h;split at h
 ·rename_i b c;split at h
  ·rename_i q d;obtain⟨p,i⟩:=dI.1 h;rw[xc]at p;subst p;rw[qJ]at i;simp at i;exact .inl ⟨b,c,d,rfl,rfl,i.symm⟩
  ·simp at h
 ·rename_i f;split at h
  ·rename_i g;rw[qJ]at h;simp at h;exact .inr ⟨f,g,rfl,rfl,h.symm⟩
  ·simp at h
 ·simp at h
def nO(b:List Nat):(bytesOf b).toList=b.map UInt8.ofNat:=by
 rw[ByteArray.toList_eq];rfl
def jB(b:List Nat):(bytesOf b).size=b.length:=by simp[bytesOf,ByteArray.size]
def ofNat_inj{b c:Nat}(d:b<256)(f:c<256)(h:UInt8.ofNat b=UInt8.ofNat c):b=c:=by
 have:=bM UInt8.toNat h;rwa[jm d,jm f]at this
def CO{c b:List Nat}(i:∀d∈c,d<256)(ht:∀d∈b,d<256)(h:c.map UInt8.ofNat=b.map UInt8.ofNat):c=b:=by
 induction c generalizing b with
 |nil=>cases b with
  |nil=>rfl
  |cons j b=>simp at h
 |cons d c k=>cases b with
  |nil=>simp at h
  |cons j b=>
   simp only[aR,aJ]at h;rw[ofNat_inj (i d dp) (ht j dp) h.1,k (λg f=>i g (by simp[f])) (λg f=>ht g (by simp[f])) h.2]
def yc{b c:List Nat}(f:∀d∈b,d<256)(ht:∀d∈c,d<256):((bytesOf b).toList==(bytesOf c).toList)=Tc b c:=by
 rw[Fc,nO,nO,bD,beq_iff_eq,beq_iff_eq];exact⟨CO f ht,λh=>by rw[h]⟩
def BE(b:Nat)(d:List Nat)(c:Nat)(f:List Nat):PY (b::d) (c::f)=(decide (b<c)||(b==c&&PY d f)):=by
 show @Bool.rec (λ_=>Bool) (@Bool.rec (λ_=>Bool) false (PY d f) (Nat.beq b c)) true (Nat.blt b c)=_;have g:Nat.blt b c=decide (b<c):=by rw[bD,aG];simp
 have i:Nat.beq b c=(b==c):=by rw[bD,Nat.beq_eq];simp
 rw[g,i];cases decide (b<c)<;>cases (b==c)<;>rfl
def xW{d c:List Nat}(j:∀b∈d,b<256)(ht:∀b∈c,b<256):Op.bytesLess (bytesOf d).toList (bytesOf c).toList=PY d c:=by
 rw[nO,nO];induction d generalizing c with
 |nil=>cases c<;>rfl
 |cons b d p=>cases c with
  |nil=>rfl
  |cons f c=>
   have k:=j b dp;have l:=ht f dp;rw[BE];simp only[aR,Op.bytesLess];rw[p (λi g=>j i (by simp[g])) (λi g=>ht i (by simp[g]))];have m:(decide (UInt8.ofNat b<UInt8.ofNat f))=decide (b<f):=by
    rw[bD,decide_eq_true_iff,decide_eq_true_iff,UInt8.lt_iff_toNat_lt,jm k,jm l]
   have n:(UInt8.ofNat b==UInt8.ofNat f)=(b==f):=by
    rw[bD,beq_iff_eq,beq_iff_eq];exact⟨ofNat_inj k l,λh=>by rw[h]⟩
   rw[m,n]
def DV(c b:List Nat):(PY c b||Tc c b)= !PY b c:=by
 induction c generalizing b with
 |nil=>cases b<;>rfl
 |cons d c m=>cases b with
  |nil=>rfl
  |cons f b=>
   rw[BE,BE,Fc,List.cons_beq_cons,<-Fc];have:=m b;rcases cP d f with l|j|k
   ·have g:¬f<d:=dj;have i:(f==d)=false:=dq;simp[l,g,i]
   ·subst j;simpa using this
   ·have g:¬d<f:=dj;have i:(d==f)=false:=dq;simp[k,g,i]
def Cp(b c:List Nat):bytesOf (b++c)=bytesOf b++bytesOf c:=by
 apply ByteArray.ext;simp[bytesOf,ByteArray.data_append]
def Ht{p:BinOp}{i q l:T}{y A:am}(x:ab)(S:p≠ .eql)(U:p≠ .neq)(u:fa hp μ i y)(v:fa hp μ q A)(b:binop p i q=some l):
 ∃j,(binOp p x y A).run P w= .ok j w/\fa hp μ l j:=by
 have ge:∀{t:ak->Int->Int->aa T},wc i q t=some l->
  (∀k d c,t k d c=some l->∃j,(binOp p x (.int k d) (.int k c)).run P w= .ok j w/\fa hp μ l j)->∃j,(binOp p x y A).run P w= .ok j w/\fa hp μ l j:=by
  intro t I R;obtain⟨k,d,c,rfl,rfl,m⟩:=uf I;rw[u.jD,v.jD];exact R k d c m
 have z:∀{t:Int->Int->Bool} {G:List Nat->List Nat->Bool},I6 i q t G=some l->
  (∀k d c,(binOp p x (.int k d) (.int k c)).run P w= .ok (.bool (t d c)) w)->
  (∀f g,(∀i∈f,i<256)->(∀i∈g,i<256)->(binOp p x (.string (bytesOf f)) (.string (bytesOf g))).run P w= .ok (.bool (G f g)) w)->∃j,(binOp p x y A).run P w= .ok j w/\fa hp μ l j:=by
  intro t G I B m;rcases Fl I with⟨k,d,c,rfl,rfl,rfl⟩|⟨f,g,rfl,rfl,rfl⟩
  ·rw[u.jD,v.jD];exact⟨_,B k d c,.bool _⟩
  ·obtain⟨E,C⟩:=u.kZ;obtain⟨F,D⟩:=v.kZ;rw[E,F];exact⟨_,m f g C D,.bool _⟩
 cases p with
 |eql=>exact absurd rfl S
 |neq=>exact absurd rfl U
 |add=>
  have b:RL i q=some l:=b;by_cases M:∃f,i= .str f
  ·obtain⟨f,rfl⟩:=M;by_cases N:∃g,q= .str g
   ·obtain⟨g,rfl⟩:=N;have b:(dJ (Dp f g) λL=>fP (Nat.ble (kx L) 4294967296) (some (T.str L)))=some l:=b;obtain⟨L,B,b⟩:=dA.1 b;obtain⟨hl,b⟩:=dI.1 b;simp at B b;subst B;subst b;have hl:=bm hl;rw[jq,bh]at hl;obtain⟨E,C⟩:=u.kZ;obtain⟨F,D⟩:=v.kZ;rw[E,F];refine⟨.string (bytesOf (f++g)),?_,.str _ (by intro j n;rcases List.mem_append.1 n with k|k;exact C j k;exact D j k)⟩;rw[Cp];have Q:¬(((bytesOf f).size+(bytesOf g).size:Nat):Int)>IntKind.i64.max:=by
     rw[jB,jB];have:IntKind.i64.max=9223372036854775807:=du;rw[this];omega
    simp only[binOp,Op.stringOp,Q,br,Sem.run_pure]
   ·exfalso;unfold RL at b;cases q<;>first|(simp at b;done)|exact N ⟨_,rfl⟩
  ·have b:wc i q (λk a O=>o8 k (a+O))=some l:=by
    unfold RL at b;cases i<;>first|exact b|exact absurd ⟨_,rfl⟩ M
   refine ge b λk d c h=> ?_;rw[xG]at h;simp at h;subst h;exact⟨_,by simp[binOp,Op.intArith],.int _ _⟩
 |sub=>
  refine ge b λk d c h=> ?_;rw[xG]at h;simp at h;subst h;exact⟨_,by simp[binOp,Op.intArith],.int _ _⟩
 |mul=>
  refine ge b λk d c h=> ?_;rw[xG]at h;simp at h;subst h;exact⟨_,by simp[binOp,Op.intArith],.int _ _⟩
 |quo=>
  refine ge b λk d c h=> ?_;cases n:P5 c 0 with
  |true=>rw[n]at h;simp at h
  |false=>
   rw[n]at h;have K:¬c=0:=by rw[xf]at n;simpa using n
   simp only[xG]at h;simp at h;subst h;exact⟨_,by simp[binOp,Op.intDiv,K],.int _ _⟩
 |rem=>
  refine ge b λk d c h=> ?_;cases n:P5 c 0 with
  |true=>rw[n]at h;simp at h
  |false=>
   rw[n]at h;have K:¬c=0:=by rw[xf]at n;simpa using n
   simp only[nU]at h;simp at h;subst h;exact⟨_,by simp[binOp,Op.intDiv,K],.int _ _⟩
 |and=>
  refine ge b λk d c h=> ?_;rw[nU]at h;simp only[ar]at h;subst h;exact⟨_,by simp[binOp,Op.intBits],.int _ _⟩
 |or=>
  refine ge b λk d c h=> ?_;rw[nU]at h;simp only[ar]at h;subst h;exact⟨_,by simp[binOp,Op.intBits],.int _ _⟩
 |xor=>
  refine ge b λk d c h=> ?_;rw[nU]at h;simp only[ar]at h;subst h;exact⟨_,by simp[binOp,Op.intBits],.int _ _⟩
 |shl=>
  have b:yF i q (λk a c=>wP k (k.wrap (a*2^c)))=some l:=b;obtain⟨k,d,V,c,rfl,rfl,m⟩:=uJ b;rw[u.jD,v.jD];rw[nU]at m;simp only[ar]at m;subst m;have J:¬((c:Nat):Int)<0:=dj;exact⟨_,by simp[binOp,Op.shift,J],.int _ _⟩
 |shr=>
  have b:yF i q (λk a c=>wP k (a.fdiv (2^c)))=some l:=b;obtain⟨k,d,V,c,rfl,rfl,m⟩:=uJ b;rw[u.jD,v.jD];rw[nU]at m;simp only[ar]at m;subst m;have J:¬((c:Nat):Int)<0:=dj;exact⟨_,by simp[binOp,Op.shift,J],.int _ _⟩
 |lss=>exact z b (λk d c=>by simp[binOp,Op.intCmp,w8]) (λf g r s=>by simp only[binOp,Op.stringOp,xW r s,Sem.run_pure])
 |leq=>exact z b (λk d c=>by simp only[binOp,Op.intCmp,w8,ne_eq,not_true,br,Sem.run_pure];congr 2;rw[bD];simp) (λf g r s=>by simp only[binOp,Op.stringOp,xW r s,yc r s,Sem.run_pure,DV])
 |gtr=>exact z b (λk d c=>by simp[binOp,Op.intCmp,w8]) (λf g r s=>by simp only[binOp,Op.stringOp,xW r s,yc r s,Sem.run_pure,DV,Bool.not_not])
 |geq=>exact z b (λk d c=>by simp only[binOp,Op.intCmp,w8,ne_eq,not_true,br,Sem.run_pure];congr 2;rw[bD];simp) (λf g r s=>by simp only[binOp,Op.stringOp,xW r s,Sem.run_pure])
 |_=>simp[binop]at b
def Di{b:BinOp}{i:ab}{j k:ah}{c d:am}(f:b≠ .eql)(g:b≠ .neq):(eqGuard b i j k c d).run P w= .ok () w:=by
 cases b<;>first|(exact absurd rfl f)|(exact absurd rfl g)|(simp[eqGuard])
def IM{c:BinOp}{k t:ab}{m n:ah}(g:c≠ .eql)(i:c≠ .neq)(d:St cx base w.heap μ h)(j:j1 w.heap μ mask e a.tmps)(p:o.op= .binOp c k m n t){l:T}{f:H}
 (b:LE c m n cx mask e h=some (.val l f)):iV cx base w μ h.size ((execOp a.eval o).run P w) l f:=by
 obtain⟨u,hp,b⟩:=dA.1 b;obtain⟨v,q,b⟩:=dA.1 b;obtain⟨r,rfl⟩:=fH.1 b;obtain⟨x,s,hr⟩:=Ht (P:=P) (w:=w) k g i (fT d j hp) (fT d j q) r;refine iV.pure d ?_ hr;simp only[execOp,p,Sem.run_bind,Di g i,Result.andThen_ok,s,Sem.run_pure]
def LB{d:UnOp}{r:ab}{m:ah}(f:St cx base w.heap μ h)(q:j1 w.heap μ mask e a.tmps)(j:o.op= .unOp d r m){l:T}{g:H}
 (c:Zu d m cx mask e h=some (.val l g)):iV cx base w μ h.size ((execOp a.eval o).run P w) l g:=by
 obtain⟨k,hp,c⟩:=dA.1 c;obtain⟨b,rfl⟩:=fH.1 c;have i:=fT f q hp;cases d with
 |neg=>
  cases k<;>simp[unop]at b;subst b;exact iV.pure f (by simp[execOp,j,i.jD,Op.unary,Op.intArith]) (.int _ _)
 |not=>
  cases k<;>simp[unop]at b;rename_i n;have p:=i.pz;cases n<;>simp at b<;>subst b<;>exact iV.pure f (by simp[execOp,j,p,Op.unary]) (.bool _)
 |_=>simp[unop]at b
end
end
noncomputable section
section
variable {P:ai}{cx:Ctx}{base:Nat}{w:World}{μ:Mu}{h:H}{mask:Nat}{e:Env}{a:Act}{o:Oper}{hp:af Obj}
def kr{c:ab}{d:Ty}(h:uo P c d):∃b,P.underlying c=some b/\Ap P b=some d.u:=by
 obtain⟨i,b,j,_,f,_,_,g,_⟩:=h.unfold;exact⟨b,f,g⟩
def xy{b:TypeDesc}{c:ak}(h:Ap P b=some (.int c)):b= .int c:=by
 cases b<;>simp only[Ap]at h<;>first|(split at h<;>simp at h;done)|(simp at h;done)|(simp at h;rw[h])
def Ml{b:TypeDesc}(h:Ap P b=some .bool):b= .bool:=by
 cases b<;>simp only[Ap]at h<;>first|rfl|(split at h<;>simp at h;done)|(simp at h;done)
def rE{b:TypeDesc}(h:Ap P b=some .str):b= .string:=by
 cases b<;>simp only[Ap]at h<;>first|rfl|(split at h<;>simp at h;done)|(simp at h;done)
def lP{b:TypeDesc}{e:ab}(h:Ap P b=some (.slice e)):b= .slice e:=by
 cases b<;>simp only[Ap]at h<;>first|(split at h<;>simp at h;done)|(simp at h;done)|(simp at h;rw[h])
def qq{b:TypeDesc}{c:Nat}{e:ab}(h:Ap P b=some (.array c e)):b= .array c e:=by
 cases b<;>simp only[Ap]at h<;>first|(split at h<;>simp at h;done)|(simp at h;done)|(simp at h;rw[h.1,h.2])
def Qd{b:TypeDesc}{e:ab}(h:Ap P b=some (.ptr e)):b= .pointer e:=by
 cases b<;>simp only[Ap]at h<;>first|(split at h<;>simp at h;done)|(simp at h;done)|(simp at h;rw[h])
def Mj{b:TypeDesc}(h:Ap P b=some .func):∃c d f,b= .func c d f:=by
 cases b<;>simp only[Ap]at h<;>first|(split at h<;>simp at h;done)|(simp at h;done)|exact⟨_,_,_,rfl⟩
def KI{b:TypeDesc}(h:Ap P b=some .iface):∃c,b= .interface c:=by
 cases b<;>simp only[Ap]at h<;>first|(split at h<;>simp at h;done)|(simp at h;done)|exact⟨_,rfl⟩
def qC{f:TypeDesc}{g:List (Nat×ab)}(h:Ap P f=some (.struct g)):
 ∃c,f= .struct c/\g=c.toList.map (λb=>(b.offset,b.type))/\∀b∈c.toList,∃d,P.info? b.type=some d/\d.size≠0:=by
 cases f<;>simp only[Ap]at h<;>try (simp at h;done)
 rename_i c;split at h
 ·rename_i j;simp only[ar,U.struct.injEq]at h;refine⟨c,rfl,h.symm,λb k=> ?_⟩;have:=List.all_eq_true.1 j b k;cases i:P.info? b.type with
  |none=>rw[i]at this;simp at this
  |some d=>rw[i]at this;exact⟨d,rfl,by simpa using this⟩
 ·simp at h
def bytes_beq{b c:List Nat}(f:∀d∈b,d<256)(ht:∀d∈c,d<256):(bytesOf b==bytesOf c)=Tc b c:=by
 rw[beq_toListBytes,yc f ht]
def ug{l:ab}{p:TypeDesc}{t:U}{j g:T}{n s:am}{m:Bool}(d:P.underlying l=some p)(k:Ap P p=some t)(i:fa hp μ j n)(f:fa hp μ g s)
 (b:qX t j g=some m) (F:Nat):(Op.equalIn (F+1) l n s).run P w= .ok m w:=by
 unfold qX at b;split at b
 ·have:=xy k;subst this;cases j<;>simp at b;cases g<;>simp at b;obtain⟨q,r⟩:=dI.1 b;rw[xc]at q;subst q;simp at r;subst r;rw[i.jD,f.jD];simp[Op.equalIn,run_underlying d,xf]
 ·have:=Ml k;subst this;cases j<;>simp at b;cases g<;>simp at b;rename_i G I;rw[i.pz,f.pz];cases G<;>cases I<;>simp at b<;>subst b<;>simp[Op.equalIn,run_underlying d]
 ·have:=rE k;subst this;cases j<;>simp at b;cases g<;>simp at b;subst b;obtain⟨D,y⟩:=i.kZ;obtain⟨E,z⟩:=f.kZ;rw[D,E];simp[Op.equalIn,run_underlying d,bytes_beq y z]
 ·have:=Qd k;subst this;cases j<;>simp at b
  ·rw[i.py];cases g<;>simp at b<;>subst b
   ·rw[f.py];simp[Op.equalIn,run_underlying d]
   ·obtain⟨u,v,c,_⟩:=f.oQ;rw[c];simp[Op.equalIn,run_underlying d]
   ·obtain⟨A,off,x,l,fz,c,_⟩:=f.lm;rw[c];simp[Op.equalIn,run_underlying d]
  ·obtain⟨u,v,c,_⟩:=i.oQ;cases g<;>simp at b;subst b;rw[f.py,c];simp[Op.equalIn,run_underlying d]
  ·obtain⟨A,off,x,l,fz,c,_⟩:=i.lm;cases g<;>simp at b;subst b;rw[f.py,c];simp[Op.equalIn,run_underlying d]
 ·obtain⟨K,L,M,rfl⟩:=Mj k;cases j<;>simp at b
  ·obtain⟨B,c,_⟩:=i.qT;cases g<;>simp at b;subst b;rw[f.tF,c];simp[Op.equalIn,run_underlying d]
  ·rw[i.tF];cases g<;>simp at b<;>subst b
   ·obtain⟨B,c,_⟩:=f.qT;rw[c];simp[Op.equalIn,run_underlying d]
   ·rw[f.tF];simp[Op.equalIn,run_underlying d]
 ·obtain⟨J,rfl⟩:=KI k;cases j<;>simp at b
  ·rw[i.tz];cases g<;>simp at b<;>subst b
   ·rw[f.tz];simp[Op.equalIn,run_underlying d]
   ·obtain⟨C,c⟩:=f.vV;rw[c];simp[Op.equalIn,run_underlying d]
  ·obtain⟨C,c⟩:=i.vV;cases g<;>simp at b;subst b;rw[f.tz,c];simp[Op.equalIn,run_underlying d]
 ·simp at b
def Dj(b:Nat×ab)(d:List (Nat×ab))(c:Nat)(j:T)(g:List T)(k:T)(f:List T):eqFields cx (b::d) c (j::g) (k::f)=
 fP (Nat.beq b.1 c) (dJ (cx.ty b.2) λi=>fP i.u.plain (dJ (qX i.u j k) λl=> @Bool.rec (λ_=>aa Bool) (some false) (eqFields cx d (c+1) g f) l)):=rfl
def run_part_plain{g:ab}{b:Ty}(h:uo P g b)(hp:b.u.plain=true){d:af am}{f:Nat}{c:am}(j:d[f]? =some c):(part g d f).run P w= .ok c w:=by
 have i:b.isAgg=false:=by
  unfold Ty.isAgg;cases k:b.u<;>simp[k,U.plain]at hp<;>rfl
 simp[part,h.sJ,i,j]
def B9(iH:iM P cx)(t:Nat):∀(m:List Field) (c:Nat) (g i:List T) (j l:af am) (f:Bool),
 fQ hp μ g (j.toList.drop c)->fQ hp μ i (l.toList.drop c)->(∀d∈m,d.name≠ "_")->eqFields cx (m.map λd=>(d.offset,d.type)) c g i=some f->
 (Op.eqFields (t+1) j l m).run P w= .ok f w:=by
 intro m;induction m with
 |nil=>
  intro c g i j l f _ _ _ b;have:f=true:=by simpa[eqFields]using b.symm
  subst this;simp[Op.eqFields]
 |cons d m Q=>
  intro c g i j l f r s q b;rw[aR]at b;cases g with
  |nil=>simp[eqFields]at b
  |cons S g=>cases i with
   |nil=>simp[eqFields]at b
   |cons U i=>
    rw[Dj]at b;obtain⟨z,b⟩:=dI.1 b;obtain⟨W,A,b⟩:=dA.1 b;obtain⟨p,b⟩:=dI.1 b;obtain⟨R,B,b⟩:=dA.1 b;have L:d.offset=c:=aC z;obtain⟨u,C,N⟩:=r.get (k:=0) (v:=S) dp;obtain⟨x,E,O⟩:=s.get (k:=0) (v:=U) dp;have D:j[c]? =some u:=by simpa using C
    have G:l[c]? =some x:=by simpa using E
    have n:=iH.ty _ _ A;obtain⟨V,F,M⟩:=kr n;have I:=ug (P:=P) (w:=w) F M N O B t;have K:d.name≠ "_" :=q d dp;simp only[Op.eqFields,K,ne_eq,not_false_eq_true,bo,Sem.run_bind,L,run_part_plain n p D,run_part_plain n p G,Result.andThen_ok,I];cases R with
    |false=>
     have:f=false:=by simpa using b.symm
     subst this;simp
    |true=>
     simp only[cG,cd,br];refine Q (c+1) g i j l f ?_ ?_ (λy J=>q y (by simp[J])) b
     ·have:=r.drop 1;simpa[cQ,Nat.add_comm]using this
     ·have:=s.drop 1;simpa[cQ,Nat.add_comm]using this
def Dk{e:ab}{l:Ty}(m:uo P e l)(n:l.u.plain=true)(r:Nat):∀(g d:List T) (f:Nat) (i j:af am) (c:Bool),
 fQ hp μ g (i.toList.drop f)->fQ hp μ d (j.toList.drop f)->yd l.u g d=some c->(Op.eqItems (r+1) e 1 i j (List.range' f g.length)).run P w= .ok c w:=by
 intro g;induction g with
 |nil=>
  intro d f i j c _ _ b;have:c=true:=by
   cases d with
   |nil=>have b:some true=some c:=b;simpa using b.symm
   |cons=>simp[yd]at b
  subst this;simp[Op.eqItems]
 |cons s g K=>
  intro d f i j c p q b;cases d with
  |nil=>simp[yd]at b
  |cons t d=>
   have b:(dJ (qX l.u s t) λM=> @Bool.rec (λ_=>aa Bool) (some false) (yd l.u g d) M)=some c:=b;obtain⟨L,z,b⟩:=dA.1 b;obtain⟨x,A,I⟩:=p.get (k:=0) (v:=s) dp;obtain⟨y,C,J⟩:=q.get (k:=0) (v:=t) dp;have B:i[f]? =some x:=by simpa using A
   have E:j[f]? =some y:=by simpa using C
   obtain⟨N,D,G⟩:=kr m;have F:=ug (P:=P) (w:=w) D G I J z r;rw[aZ,List.range'_succ];simp only[Op.eqItems,Sem.run_bind,Nat.mul_one,run_part_plain m n B,run_part_plain m n E,Result.andThen_ok,F];cases L with
   |false=>
    have:c=false:=by simpa using b.symm
    subst this;simp
   |true=>
    simp only[cG,cd,br];refine K d (f+1) i j c ?_ ?_ b
    ·have:=p.drop 1;simpa[cQ,Nat.add_comm]using this
    ·have:=q.drop 1;simpa[cQ,Nat.add_comm]using this
def Hb{f:BinOp}{g:ab}{b c:ah}(d:(Region.isConst b||Region.isConst c)=true):(eqGuard f g b c .nilIface .nilIface).run P w= .ok () w:=by
 unfold eqGuard;cases b<;>cases c<;>simp[Region.isConst]at d<;>simp
def D5(iH:iM P cx){neg:Bool}{G:BinOp}{t u:ab}{F y:ah}(j:G=(if neg then BinOp.neq else BinOp.eql))(s:St cx base w.heap μ h)(r:j1 w.heap μ mask e a.tmps)
 (b8:o.op= .binOp G t F y u) {v:T} {aX:H} (B:UJ neg t F y cx mask e h=some (.val v aX)):iV cx base w μ h.size ((execOp a.eval o).run P w) v aX:=by
 obtain⟨ds,cL,B⟩:=dA.1 B;obtain⟨I,hp,B⟩:=dA.1 B;obtain⟨x,J,B⟩:=dA.1 B;obtain⟨an,B⟩:=dI.1 B;obtain⟨A,b,B⟩:=dA.1 B;obtain⟨bl,rfl⟩:=fH.1 B;have q:=fT s r hp;have k:=fT s r J;have cp:=iH.ty _ _ cL;have bS:v= .bool (if neg then !A else A):=by
  rw[qJ]at bl;cases neg<;>simpa using bl.symm
 subst bS;have bn:(eqGuard G t F y (a.eval F) (a.eval y)).run P w= .ok () w/\(binOp G t (a.eval F) (a.eval y)).run P w= .ok (.bool (if neg then !A else A)) w:=by
  obtain⟨i,d,z,_,S,_,_,N,_,_,_,_,a6⟩:=cp.unfold;unfold Md at b;split at b
  ·rename_i di al;rw[al]at N;obtain⟨aA,rfl,bT,_⟩:=qC N;cases I<;>simp at b;cases x<;>simp at b;obtain⟨ae,b⟩:=dI.1 b;obtain⟨Q,M,ap⟩:=a6 ae;obtain⟨p,g,W,_⟩:=q.oR;obtain⟨D,c,X,_⟩:=k.oR;rw[g,c];refine⟨run_eqGuard_agg w G t F y p D M,?_⟩;have a8:P.fieldsOf t=aA:=by simp[Program.fieldsOf,S]
   have f:(Op.equalIn 10000 t (.agg p) (.agg D)).run P w= .ok A w:=by
    rw[run_equalIn_struct w 9999 t p D (by rw[a8];exact S) Q,a8];rw[bT]at b;refine B9 iH 9998 aA.toList 0 _ _ p D A (by simpa using W) (by simpa using X) ?_ b;intro R bN;have:=List.all_eq_true.1 ap R bN;simpa using this
   cases neg with
   |false=>simp at j;subst j;rw[run_eql_struct,f];rfl
   |true=>simp at j;subst j;rw[run_neq_struct,f];rfl
  ·rename_i n e al;rw[al]at N;have bH:=qq N;subst bH;cases I<;>simp at b;cases x<;>simp at b;obtain⟨ae,b⟩:=dI.1 b;obtain⟨dn,ce,b⟩:=dA.1 b;obtain⟨ca,b⟩:=dI.1 b;obtain⟨cb,b⟩:=dI.1 b;obtain⟨b7,b⟩:=dI.1 b;obtain⟨Q,M,ap⟩:=a6 ae;obtain⟨p,g,W,_⟩:=q.oR;obtain⟨D,c,X,_⟩:=k.oR;rw[g,c];refine⟨run_eqGuard_agg w G t F y p D M,?_⟩;have bk:=iH.ty _ _ ce;have f:(Op.equalIn 10000 t (.agg p) (.agg D)).run P w= .ok A w:=by
    obtain⟨dm,de,dv,bi,_,_,_,_,_,_,dk,_⟩:=bk.unfold;rw[run_equalIn_array w 9999 p D S bi,List.range_eq_range'];have b9:P.cellsOf e=1:=by
     have:=aC cb;simp only[Program.cellsOf,bi,cH,Option.getD_some];omega
    have b6:=aC b7;rw[b9,<-b6];exact Dk bk ca 9998 _ _ 0 p D A (by simpa using W) (by simpa using X) b
   cases neg with
   |false=>simp at j;subst j;rw[run_eql_struct,f];rfl
   |true=>simp at j;subst j;rw[run_neq_struct,f];rfl
  ·have f:=ug (P:=P) (w:=w) S N q k b 9999;have C:∀l m:am,(l≠ .nilIface\/m≠ .nilIface)->((∀c9,l≠ .agg c9)\/∀dd,m≠ .agg dd)->(eqGuard G t F y l m).run P w= .ok () w:=by
    intro l m aE aN;cases neg with
    |false=>
     simp at j;subst j;cases l<;>cases m<;>first|(simp[eqGuard];done)|(simp at aE;done)|(simp at aN;done)
    |true=>
     simp at j;subst j;cases l<;>cases m<;>first|(simp[eqGuard];done)|(simp at aE;done)|(simp at aN;done)
   have E:∀l m:am,(∀U c1 V c4,(l,m)≠(.int U c1,.int V c4))->(∀c6 c7,(l,m)≠(.string c6,.string c7))->(∀Y K Z L,(l,m)≠(.float Y K,.float Z L))->(∀Y K Q Z L M,(l,m)≠(.complex Y K Q,.complex Z L M))->
    (Op.equalIn 10000 t l m).run P w= .ok A w->(binOp G t l m).run P w= .ok (.bool (if neg then !A else A)) w:=by
    intro l m bs bu bz bB a7;cases neg with
    |false=>
     simp at j;subst j;cases l<;>cases m<;>first|(exact absurd rfl (bs _ _ _ _))|(exact absurd rfl (bu _ _))|(exact absurd rfl (bz _ _ _ _))|(exact absurd rfl (bB _ _ _ _ _ _))|(simp[binOp,Op.equal,Op.maxDepth,a7])
    |true=>
     simp at j;subst j;cases l<;>cases m<;>first|(exact absurd rfl (bs _ _ _ _))|(exact absurd rfl (bu _ _))|(exact absurd rfl (bz _ _ _ _))|(exact absurd rfl (bB _ _ _ _ _ _))|(simp[binOp,Op.equal,Op.maxDepth,a7])
   unfold qX at b;split at b
   ·cases I<;>simp at b;cases x<;>simp at b;obtain⟨U,V⟩:=dI.1 b;rw[xc]at U;subst U;simp at V;subst V;rw[q.jD,k.jD];refine⟨C _ _ (.inl dp) (.inl dp),?_⟩;cases neg<;>simp at j<;>subst j<;>simp[binOp,Op.intCmp,xf,bne]
   ·cases I<;>simp at b;cases x<;>simp at b;rw[q.pz,k.pz]at f|-;exact⟨C _ _ (.inl dp) (.inl dp),E _ _ dp dp dp dp f⟩
   ·cases I<;>simp at b;cases x<;>simp at b;subst b;obtain⟨g,K⟩:=q.kZ;obtain⟨c,L⟩:=k.kZ;rw[g,c];refine⟨C _ _ (.inl dp) (.inl dp),?_⟩;cases neg<;>simp at j<;>subst j<;>simp[binOp,Op.stringOp,yc K L]
   ·cases I<;>simp at b
    ·have g:=q.py;rw[g]at f|-;have c:∃O,a.eval y= .pointer O:=by
      cases x<;>simp at b
      ·exact⟨_,k.py⟩
      ·obtain⟨_,O,J,_⟩:=k.oQ;exact⟨_,J⟩
      ·obtain⟨_,_,_,_,_,J,_⟩:=k.lm;exact⟨_,J⟩
     obtain⟨O,c⟩:=c;rw[c]at f|-;exact⟨C _ _ (.inl dp) (.inl dp),E _ _ dp dp dp dp f⟩
    ·obtain⟨_,O,g,_⟩:=q.oQ;cases x<;>simp at b;have c:=k.py;rw[g,c]at f|-;exact⟨C _ _ (.inl dp) (.inl dp),E _ _ dp dp dp dp f⟩
    ·obtain⟨_,_,_,_,_,g,_⟩:=q.lm;cases x<;>simp at b;have c:=k.py;rw[g,c]at f|-;exact⟨C _ _ (.inl dp) (.inl dp),E _ _ dp dp dp dp f⟩
   ·cases I<;>simp at b
    ·obtain⟨p,g,_⟩:=q.qT;cases x<;>simp at b;have c:=k.tF;rw[g,c]at f|-;exact⟨C _ _ (.inl dp) (.inl dp),E _ _ dp dp dp dp f⟩
    ·have g:=q.tF;have c:(∃R av p,a.eval y= .func R av p)\/a.eval y= .nilFunc:=by
      cases x<;>simp at b
      ·obtain⟨p,J,_⟩:=k.qT;exact .inl ⟨_,_,_,J⟩
      ·exact .inr k.tF
     rcases c with⟨R,av,p,c⟩|c
     all_goals
      rw[g,c]at f|-;exact⟨C _ _ (.inl dp) (.inl dp),E _ _ dp dp dp dp f⟩
   ·cases I<;>simp at b
    ·have g:=q.tz;cases x<;>simp at b
     ·have c:=k.tz;rw[g,c]at f|-;have an:(Region.isConst F||Region.isConst y)=true:=an;exact⟨Hb an,E _ _ dp dp dp dp f⟩
     ·obtain⟨bC,c⟩:=k.vV;rw[g,c]at f|-;exact⟨C _ _ (.inr dp) (.inl dp),E _ _ dp dp dp dp f⟩
    ·obtain⟨bC,g⟩:=q.vV;cases x<;>simp at b;have c:=k.tz;rw[g,c]at f|-;exact⟨C _ _ (.inl dp) (.inl dp),E _ _ dp dp dp dp f⟩
   ·simp at b
 refine iV.pure s ?_ (.bool _);simp only[execOp,b8,Sem.run_bind,bn.1,Result.andThen_ok,bn.2,Sem.run_pure]
end
end
noncomputable section
section
variable {P:ai}{cx:Ctx}{base:Nat}{w:World}{μ:Mu}{h:H}{mask:Nat}{e:Env}{a:Act}{o:Oper}{hp:af Obj}
def kh(b off c:Nat):(⟨b,off,none⟩:Addr).add c=⟨b,off+c,none⟩:=by
 unfold Addr.add;split<;>simp_all
def lr(c:T)(b:List T):eQ (c::b)=c.cells++eQ b:=by simp[eQ]
def mE(a b:List T):eQ (a++b)=eQ a++eQ b:=by simp[eQ]
def f9{sz:Nat}{b:List T}(d:∀c∈b,c.cells.length=sz):(eQ b).length=b.length*sz:=by
 induction b with
 |nil=>simp[eQ]
 |cons i b g=>
  rw[lr,bh,g (λc f=>d c (by simp[f])),d i dp,aZ,bX];omega
def oM{d:Nat}{b:List T}(g:∀f∈b,f.cells.length=d)(c:Nat):(eQ b).drop (c*d)=eQ (b.drop c):=by
 induction c generalizing b with
 |zero=>simp
 |succ c l=>cases b with
  |nil=>simp[eQ]
  |cons i b=>
   have k:=g i dp;rw[lr,bX,Nat.add_comm,<-cQ];have:(i.cells++eQ b).drop d=eQ b:=by rw[<-k];simp
   rw[this,l (λf j=>g f (by simp[j]))];rfl
def qy{g:Nat}{b:List T}(f:∀d∈b,d.cells.length=g)(c:Nat):(eQ b).take (c*g)=eQ (b.take c):=by
 induction c generalizing b with
 |zero=>simp[eQ]
 |succ c k=>cases b with
  |nil=>simp[eQ]
  |cons l b=>
   have j:=f l dp;rw[lr,List.take_succ_cons,lr,<-k (λd i=>f d (by simp[i])),bX,List.take_append,j];congr 1
   ·rw[bF dj]
   ·congr 1;omega
structure rX(hp:af Obj)(μ:Mu)(iD off:Nat)(cs:List T):Prop where
 row:∃arr t fz,hp[iD]? =some (.cells arr t fz)/\off+cs.length<=arr.size/\∀(k:Nat) v,cs[k]? =some v->fa hp μ v (arr.getD (off+k) Go.undef)
 scalar:∀v∈cs,v.scalar=true
def rX.cell{g off:Nat}{c:List T}(n:rX w.heap μ g off c){b:Nat}{d:T}(k:c[b]? =some d):∃i,w.cell? ⟨g,off+b,none⟩=some i/\fa w.heap μ d i:=by
 obtain⟨f,r,fz,l,p,m⟩:=n.row;have q:b<c.length:=by
  rcases aD b c.length with x|x
  ·exact x
  ·simp[aK x]at k
 have j:off+b<f.size:=dj;refine⟨f[off+b],by simp[World.cell?,l,j],?_⟩;have:=m b d k;simpa[aV,j]using this
def rX.take{d off:Nat}{f:List T}(g:rX hp μ d off f)(m:Nat):rX hp μ d off (f.take m):=by
 obtain⟨i,n,fz,j,p,k⟩:=g.row;refine⟨⟨i,n,fz,j,dq,λl c b=>k l c ?_⟩,λc b=>g.scalar c (bw b)⟩;rw[bJ]at b;split at b
 ·exact b
 ·simp at b
def rX.drop{g off:Nat}{d:List T}(i:rX hp μ g off d)(c:Nat)(q:c<=d.length):rX hp μ g (off+c) (d.drop c):=by
 obtain⟨j,n,fz,k,p,l⟩:=i.row;refine⟨⟨j,n,fz,k,dq,λm f b=> ?_⟩,λf b=>i.scalar f (bA b)⟩;rw[bG]at b;have:=l (c+m) f b;rwa[<-cz]at this
def rX.run_loadCells{g off:Nat}{b:List T}(q:rX w.heap μ g off b):∃i:List am,(loadCells ⟨g,off,none⟩ b.length).run P w= .ok i.toArray w/\fQ w.heap μ b i:=by
 obtain⟨d,t,fz,l,r,m⟩:=q.row;refine⟨(d.toList.drop off).take b.length,?_,?_⟩
 ·have hl:((d.toList.drop off).take b.length).length=b.length:=dq;have:=Go.run_loadCells_list (P:=P) w ⟨g,off,none⟩ ((d.toList.drop off).take b.length) (λs k c=>by
   rw[kh];rw[bJ]at c;split at c
   ·rw[bG]at c;simp only[World.cell?,l];simpa using c
   ·simp at c)
  rwa[hl]at this
 ·refine⟨dq,λf k j=> ?_⟩;have n:f<b.length:=by
   rcases aD f b.length with x|x
   ·exact x
   ·simp[aK x]at j
  have:=m f k j;have p:off+f<d.size:=dj;simpa[List.getD,bJ,n,aV,p]using this
def xE{s:ab}{c:Ty}{l off:Nat}{f:List T}{k:T}(n:uo P s c)(j:rX w.heap μ l off f)(b:jW c f=some k):
 ∃d,(loadVar s ⟨l,off,none⟩).run P w= .ok d w/\fa w.heap μ k d:=by
 unfold jW at b;cases i:c.isAgg with
 |true=>
  rw[i]at b;have b:(dJ (takeN c.size f) λj=>some (T.agg j))=some k:=b;obtain⟨y,g,p⟩:=dA.1 b;rw[mX]at g;split at g
  ·rename_i x;simp at g p;subst g;subst p;have r:=j.take c.size;obtain⟨t,q,u⟩:=rX.run_loadCells (P:=P) r;have v:(f.take c.size).length=c.size:=dq;rw[v]at q;refine⟨.agg t.toArray,?_,fa.wH (by simpa using u) r.scalar⟩;simp[loadVar,n.sJ,i,n.run_sizeOf,q]
  ·simp at g
 |false=>
  rw[i]at b;have b:lF f 0=some k:=b;rw[kl]at b;obtain⟨d,m,hr⟩:=j.cell b;refine⟨d,?_,hr⟩;have m:w.cell? ⟨l,off,none⟩=some d:=by simpa using m
  simp[loadVar,n.sJ,i,m]
def St.rowAt(K:St cx base hp μ h){m q b:Nat}{c:Loc}{f:T}(E:μ m=some c)(d:h.elem m q b=some f):rX hp μ c.iD (b*c.sz) f.cells/\f.cells.length=c.sz:=by
 obtain⟨x,F,J⟩:=K.box m c E;unfold H.elem at d;rw[F]at d;obtain⟨O,A,Q,M,v,g⟩:=x;have d:fP (Nat.beq A q) (@Bool.rec (λ_=>aa T) (lF g b) none v)=some f:=d;obtain⟨_,d⟩:=dI.1 d;cases v with
 |true=>simp at d
 |false=>
  have d:g[b]? =some f:=by rw[<-kl];exact d
  have i:=J.plain rfl;obtain⟨p,L,B,C,D⟩:=i.row;have u:f∈g:=ax d;have t:=i.size f u;have s:b<g.length:=by
   rcases aD b g.length with y|y
   ·exact y
   ·simp[aK y]at d
  have N:=f9 i.size;refine⟨⟨⟨p,L,(0,0),B,?_,λl n k=> ?_⟩,λn k=>i.scalar n ?_⟩,t⟩
  ·rw[t,C];have:b+1<=c.cap:=by have:=i.room;simp only[]at this;omega
   calc b*c.sz+c.sz=(b+1)*c.sz:=by rw[bX]
    _<=c.cap*c.sz:=aW _ this
  ·have I:l<f.cells.length:=by
    rcases aD l f.cells.length with y|y
    ·exact y
    ·simp[aK y]at k
   have G:(eQ g)[b*c.sz+l]? =some n:=by
    have r:=oM i.size b;have:g.drop b=f::g.drop (b+1):=by
     rw[aI s];congr 1;simpa[s]using d
    rw[this,lr]at r;rw[<-bG,r,co I];exact k
   obtain⟨z,j,hr⟩:=D.get G;rw[bJ]at j;split at j
   ·have:p[b*c.sz+l]? =some z:=by simpa using j
    rw[aV,this];exact hr
   ·simp at j
  ·exact List.mem_flatMap.2 ⟨f,u,k⟩
def St.Q8(s:St cx base hp μ h){d f g:Nat}{c:Loc}{i:T}(n:μ d=some c)(b:h.elem d f g=some i):f=c.ep:=by
 obtain⟨j,p,q⟩:=s.box d c n;unfold H.elem at b;rw[p]at b;obtain⟨u,l,v,t,r,k⟩:=j;have b:fP (Nat.beq l f) (@Bool.rec (λ_=>aa T) (lF k g) none r)=some i:=b;obtain⟨m,_⟩:=dI.1 b;have:=aC m;have:=q.ep;simp only[]at this;omega
def BI{t:ab}{u:Ty}{l g:T}{m:am}(r:uo P t u)(s:St cx base w.heap μ h)(p:fa w.heap μ l m)(b:h.load u l=some g):
 ∃f c,m= .pointer (some f)/\(loadVar t f).run P w= .ok c w/\fa w.heap μ g c:=by
 unfold H.load at b;cases l<;>simp at b
 ·rename_i K N R F;replace b:=dA.1 b;obtain⟨S,q,b⟩:=b;replace b:=dA.1 b;obtain⟨M,d,b⟩:=b;obtain⟨J,f,k,n,_,y⟩:=p.oQ;have z:=s.Q8 n q;obtain⟨G,O⟩:=s.rowAt n q;rw[ls]at d;split at d
  ·rename_i B;simp at d;subst d;obtain⟨c,i,j⟩:=xE r (G.drop F B) b;exact⟨f,c,k,by rw[y z];exact i,j⟩
  ·simp at d
 ·rename_i L;obtain⟨x,off,v,I,fz,k,Q,A,C,D,hr⟩:=p.lm;obtain⟨c,i,j⟩:=xE r ⟨⟨v,I,fz,A,C,hr⟩,(λg E=>(D g E).1)⟩ b;exact⟨⟨x,off,none⟩,c,k,i,j⟩
def GY(iH:iM P cx){f:ab}{i:ah}(c:St cx base w.heap μ h)(q:j1 w.heap μ mask e a.tmps)(l:o.op= .load f i){g:T}{d:H}
 (b:GZ f i cx mask e h=some (.val g d)):iV cx base w μ h.size ((execOp a.eval o).run P w) g d:=by
 replace b:=dA.1 b;obtain⟨u,n,b⟩:=b;replace b:=dA.1 b;obtain⟨t,hp,b⟩:=b;obtain⟨p,rfl⟩:=fH.1 b;obtain⟨r,s,m,j,k⟩:=BI (iH.ty _ _ n) c (fT c q hp) p;exact iV.pure c (by simp[execOp,l,Instr.loadAt,m,Instr.sureAddr,j]) k
def wz(iH:iM P cx){l:ab}{g:Nat}{i:Nat×ab}(b:vX cx l g=some i):∃d c,P.underlying l=some (.struct d)/\d[g]? =some c/\c.offset=i.1/\c.type=i.2/\
 ∃k,P.info? c.type=some k/\k.size≠0:=by
 replace b:=dA.1 b;obtain⟨s,q,b⟩:=b;obtain⟨t,m,j⟩:=kr (iH.ty _ _ q);cases r:s.u<;>rw[r]at b j<;>simp at b;obtain⟨d,rfl,p,n⟩:=qC j;subst p;rw[aQ]at b;cases f:d.toList[g]? with
 |none=>rw[f]at b;simp at b
 |some c=>
  rw[f]at b;simp at b;refine⟨d,c,m,by simpa using f,by rw[<-b],by rw[<-b],n c (ax f)⟩
def zh(iH:iM P cx){t:ab}{n:ah}{p:Nat}(m:St cx base w.heap μ h)(U:j1 w.heap μ mask e a.tmps)(N:o.op= .fieldAddr t n p){c:T}{q:H}
 (b:oL t n p cx mask e h=some (.val c q)):iV cx base w μ h.size ((execOp a.eval o).run P w) c q:=by
 replace b:=dA.1 b;obtain⟨l,K,b⟩:=b;replace b:=dA.1 b;obtain⟨S,hp,b⟩:=b;obtain⟨Y,Z,A,B,C,ae,i,D,E⟩:=wz iH K;have r:=fT m U hp;have s:∀d:Addr,a.eval n= .pointer (some d)->(execOp a.eval o).run P w= .ok (.value (.pointer (some (d.add l.1)))) w:=by
  intro d g;simp[execOp,N,Instr.fieldAt,run_underlying A,B,g,Instr.sureAddr,fieldPlace,sizeOf,typeInfo,D,E,C]
 cases S<;>simp at b
 ·rename_i x z Q R;obtain⟨rfl,rfl⟩:=b;obtain⟨u,d,g,G,J,F⟩:=r.oQ;refine iV.pure m (s d g) (.ptr x z Q (R+l.1) u _ G J λI=> ?_);rw[F I,kh,cz]
 ·rename_i W;replace b:=dA.1 b;obtain⟨X,f,b⟩:=b;simp at b;obtain⟨rfl,rfl⟩:=b;obtain⟨y,off,v,V,fz,g,M,L,an,O,hr⟩:=r.lm;rw[ls]at f;split at f
  ·rename_i al;simp at f;subst f;refine iV.pure m (s _ g) ?_;rw[kh];refine .je _ y (off+l.1) v V fz M L dq (λc j=>O c (bA j)) λk c j=> ?_;rw[bG]at j;have:=hr _ c j;rwa[<-cz]at this
  ·simp at f
def zL{r:ab}{c:Ty}{f:List T}{i:af am}{off:Nat}{k:T}(m:uo P r c)(q:fQ hp μ f (i.toList.drop off))(s:∀n∈f,n.scalar=true)(b:jW c f=some k):
 ∃d,(part r i off).run P w= .ok d w/\fa hp μ k d:=by
 unfold jW at b;cases j:c.isAgg with
 |true=>
  rw[j]at b;have b:(dJ (takeN c.size f) λu=>some (T.agg u))=some k:=b;obtain⟨x,g,p⟩:=dA.1 b;rw[mX]at g;split at g
  ·rename_i v;simp at g p;subst g;subst p;refine⟨.agg (i.extract off (off+c.size)),by simp[part,m.sJ,j,m.run_sizeOf],fa.wH ?_ λn t=>s n (bw t)⟩;have:=q.take c.size;rw[Array.toList_extract];simpa[List.extract_eq_take_drop]using this
  ·simp at g
 |false=>
  rw[j]at b;have b:lF f 0=some k:=b;rw[kl]at b;obtain⟨d,l,hr⟩:=q.get b;refine⟨d,?_,hr⟩;have l:i[off]? =some d:=by simpa using l
  simp[part,m.sJ,j,l]
def ET(iH:iM P cx){j:ab}{d:ah}{f:Nat}(i:St cx base w.heap μ h)(E:j1 w.heap μ mask e a.tmps)(x:o.op= .field j d f){k:T}{g:H}
 (b:zi j d f cx mask e h=some (.val k g)):iV cx base w μ h.size ((execOp a.eval o).run P w) k g:=by
 replace b:=dA.1 b;obtain⟨l,v,b⟩:=b;replace b:=dA.1 b;obtain⟨L,A,b⟩:=b;replace b:=dA.1 b;obtain⟨D,hp,b⟩:=b;obtain⟨J,K,m,n,p,q,_⟩:=wz iH v;have s:=fT i E hp;cases D<;>simp at b;replace b:=dA.1 b;obtain⟨G,c,b⟩:=b;obtain⟨B,rfl⟩:=fH.1 b;obtain⟨I,y,r,z⟩:=s.oR;rw[ls]at c;split at c
 ·simp at c;subst c;obtain⟨F,t,u⟩:=zL (P:=P) (w:=w) (iH.ty _ _ A) (r.drop l.1) (λd C=>z d (bA C)) B;refine iV.pure i ?_ u;simp[execOp,x,Instr.field,run_underlying m,n,y,asAgg,p,q,t]
 ·simp at c
def mW{f:T}{g:Nat}(b:oZ f=some g):∃c,f= .int c (.ofNat g):=by
 unfold oZ at b;cases f<;>simp at b;rename_i c d;cases d with
 |ofNat d=>simp at b;subst b;exact⟨c,rfl⟩
 |negSucc d=>simp at b
def ER(iH:iM P cx){G:ab}{p J:ah}(m:St cx base w.heap μ h)(F:j1 w.heap μ mask e a.tmps)(B:o.op= .index G p J){I:T}{v:H}
 (b:zf G p J cx mask e h=some (.val I v)):iV cx base w μ h.size ((execOp a.eval o).run P w) I v:=by
 replace b:=dA.1 b;obtain⟨an,Z,b⟩:=b;replace b:=dA.1 b;obtain⟨E,hp,b⟩:=b;replace b:=dA.1 b;obtain⟨q,W,b⟩:=b;replace b:=dA.1 b;obtain⟨f,S,b⟩:=b;obtain⟨k,U⟩:=mW S;obtain⟨d,A,t⟩:=kr (iH.ty _ _ Z);have l:=fT m F hp;have D:=(U▸fT m F W).jD;cases ae:an.u<;>rw[ae]at b t<;>simp at b
 ·
  have:=rE t;subst this;cases E<;>simp at b;rename_i g;replace b:=dA.1 b;obtain⟨c,x,b⟩:=b;obtain⟨j,rfl⟩:=fH.1 b;simp at j;subst j;obtain⟨r,K⟩:=l.kZ;refine iV.pure (c:= .int .u8 (c:Int)) m ?_ (.int _ _);have s:f<g.length:=by
   rcases aD f g.length with z|z
   ·exact z
   ·simp[aK z]at x
  have y:g[f]=c:=by simpa[s]using x
  have Q:c<256:=K c (by rw[<-y];exact aF s);have R:(bytesOf g)[f]? =some (UInt8.ofNat c):=by
   have X:f<(bytesOf g).size:=by rw[jB];exact s
   rw[getElem?_pos (bytesOf g) f X];congr 1;show(bytesOf g).data[f]=_;simp[bytesOf,y]
  simp[execOp,B,Instr.index,D,asIntOf,run_underlying A,r,R,jm Q]
 ·rename_i n aE;have:=qq t;subst this;cases E<;>simp at b;rename_i ap;replace b:=dA.1 b;obtain⟨al,C,b⟩:=b;replace b:=dI.1 b;obtain⟨M,b⟩:=b;replace b:=dA.1 b;obtain⟨av,i,b⟩:=b;obtain⟨j,rfl⟩:=fH.1 b;obtain⟨aA,r,L,Y⟩:=l.oR;rw[ls]at i;split at i
  ·simp at i;subst i;obtain⟨c,N,O⟩:=zL (P:=P) (w:=w) (iH.ty _ _ C) (L.drop (f*al.size)) (λp l=>Y p (bA l)) j;refine iV.pure m ?_ O;rw[aG]at M;have V:¬n<=f:=dj;simp[execOp,B,Instr.index,D,asIntOf,run_underlying A,r,V,(iH.ty _ _ C).run_sizeOf,N]
  ·simp at i
end
end
noncomputable section
section
variable {P:ai}{cx:Ctx}{base:Nat}{w:World}{μ:Mu}{h:H}{mask:Nat}{e:Env}{a:Act}{o:Oper}{hp:af Obj}
def St.Jw(k:St cx base hp μ h){c:Nat}{b:Loc}{d:iJ}(j:μ c=some b)(f:h.get c=some d):d.sz=b.sz/\d.ep=b.ep:=by
 obtain⟨l,i,g⟩:=k.box c b j;rw[i]at f;simp at f;subst f;exact⟨g.sz,g.ep⟩
def flat_get{g:Nat}{es:List T}(l:∀v∈es,v.cells.length=g){i k:Nat}{v z:T}(b:es[i]? =some v)(c:v.cells[k]? =some z):(eQ es)[i*g+k]? =some z:=by
 have f:i<es.length:=by
  rcases aD i es.length with y|y
  ·exact y
  ·rw[aK y]at b;simp at b
 have j:k<v.cells.length:=by
  rcases aD k v.cells.length with y|y
  ·exact y
  ·rw[aK y]at c;simp at c
 have d:=oM l i;have m:es[i]=v:=by rw[az f]at b;simpa using b
 rw[aI f,m,lr]at d;rw[<-bG,d,co j];exact c
def KK{f:T}{c:List T}{j off d g:Nat}{i:af am}{r:ab}{fz:Nat×Nat}{b:T}(z:¬mN μ j)(u:hp[j]? =some (.cells i r fz))
 (k:∀b∈f::c,b.cells.length=d) (A:off+(eQ (f::c)).length<=i.size) (s:∀b∈eQ (f::c),uB b)
 (hr:∀(n:Nat) b,(eQ (f::c))[n]? =some b->fa hp μ b (i.getD (off+n) Go.undef)) (l:(f::c)[g]? =some b):
 fa hp μ (.je b.cells) (.pointer (some ⟨j,off+g*d,none⟩)):=by
 have q:=ax l;have v:g<(f::c).length:=by
  rcases aD g (f::c).length with y|y
  ·exact y
  ·simp[aK y]at l
 have t:=f9 k;have x:=k b q;refine .je b.cells j (off+g*d) i r fz z u ?_ (λp m=>s p (List.mem_flatMap.2 ⟨b,q,m⟩)) λn p m=> ?_
 ·rw[x];have:g*d+d<=(eQ (f::c)).length:=by
   rw[t]
   calc g*d+d=(g+1)*d:=by rw[bX]
    _<=(f::c).length*d:=aW _ v
  omega
 ·have:=hr _ p (flat_get k l m);rwa[<-cz]at this
def ze(iH:iM P cx){t:ab}{x y:ah}(i:St cx base w.heap μ h)(r:j1 w.heap μ mask e a.tmps)(an:o.op= .indexAddr t x y){s:T}{K:H}
 (b:oK t x y cx mask e h=some (.val s K)):iV cx base w μ h.size ((execOp a.eval o).run P w) s K:=by
 replace b:=dA.1 b;obtain⟨cp,ca,b⟩:=b;replace b:=dA.1 b;obtain⟨p,hp,b⟩:=b;replace b:=dA.1 b;obtain⟨q,ap,b⟩:=b;replace b:=dA.1 b;obtain⟨f,bT,b⟩:=b;obtain⟨k,b6⟩:=mW bT;obtain⟨d,X,aE⟩:=kr (iH.ty _ _ ca);have Q:=fT i r hp;have aN:=(b6▸fT i r ap).jD;cases cb:cp.u<;>rw[cb]at b aE<;>simp at b
 ·rename_i bz;have:=lP aE;subst this;replace b:=dA.1 b;obtain⟨m,aA,b⟩:=b;have N:=(iH.ty _ _ aA).run_sizeOf w;unfold kf at b;cases p<;>simp at b
  ·rename_i C bB;replace b:=dA.1 b;obtain⟨z,I,b⟩:=b;replace b:=dI.1 b;obtain⟨hl,b⟩:=b;simp at b;obtain⟨rfl,rfl⟩:=b;have hl:=aC hl;cases C with
   |nil=>simp at I
   |cons cL C=>
    obtain⟨a6,off,c6,ce,aX,bn,fz,J,al,Z,di,de,bl,bk,bN,hr⟩:=Q.tv;have b9:ce=m.size:=by rw[<-bl z (ax I)];exact hl
    have dm:f<C.length+1:=by
     rcases aD f (cL::C).length with y|y
     ·simpa using y
     ·rw[aK y]at I;simp at I
    have dn:¬((C.length:Int)+1<=(f:Int)):=dj;refine iV.pure i ?_ (KK al Z bl bk bN hr I);rw[<-kh,b9];have G:¬C.length+1<=f:=dj;simp[execOp,an,Instr.indexAt,aN,asIntOf,run_underlying X,J,N,G]
  ·rename_i A B S l bB;replace b:=dI.1 b;obtain⟨hl,b⟩:=b;replace b:=dA.1 b;obtain⟨a7,W,b⟩:=b;replace b:=dI.1 b;obtain⟨V,b⟩:=b;replace b:=dI.1 b;obtain⟨a8,b⟩:=b;simp at b;obtain⟨rfl,rfl⟩:=b;rw[aG]at hl;have V:=aC V;have a8:=aC a8;obtain⟨g,v,bu,J,D,L,dd,bS⟩:=Q.rQ;obtain⟨U,bC⟩:=i.Jw D W;obtain⟨c1,c4,bs⟩:=bS dj;have b7:bu≠0:=dj;rw[bs b7]at J;refine iV.pure (c:= .pointer (some ⟨g.iD,(S+f)*g.sz,none⟩)) i ?_ (.ptr A B (S+f) 0 g _ D L λ_=>by simp);have G:¬l<=f:=dj;have bH:(⟨g.iD,S*g.sz,none⟩:Addr).add (f*m.size)=⟨g.iD,(S+f)*g.sz,none⟩:=by
    rw[kh,<-V,U,bY]
   simp[execOp,an,Instr.indexAt,aN,asIntOf,run_underlying X,J,N,G,bH]
 ·rename_i n bz;have:=qq aE;subst this;replace b:=dA.1 b;obtain⟨m,aA,b⟩:=b;have N:=(iH.ty _ _ aA).run_sizeOf w;unfold oc at b;replace b:=dI.1 b;obtain⟨hl,b⟩:=b;rw[aG]at hl;have G:¬n<=f:=dj;have av:∀v:Addr,a.eval x= .pointer (some v)->(execOp a.eval o).run P w= .ok (.value (.pointer (some (v.add (f*m.size))))) w:=by
   intro v ap;simp[execOp,an,Instr.indexAt,aN,asIntOf,run_underlying X,ap,Instr.sureAddr,N,G]
  cases p<;>simp at b
  ·rename_i A B R j;replace b:=dA.1 b;obtain⟨a7,W,b⟩:=b;obtain⟨g,v,M,D,L,bi⟩:=Q.oQ;obtain⟨U,bC⟩:=i.Jw D W;cases E:Nat.beq a7.sz m.size with
   |false=>
    rw[E]at b;have b:some (kW.val (T.ptr A B R (j+f*m.size)) h)=some (.val s K):=b;simp only[ar,kW.val.injEq]at b;obtain⟨rfl,rfl⟩:=b;refine iV.pure i (av v M) (.ptr A B R (j+f*m.size) g _ D L λY=> ?_);rw[bi Y,kh,cz]
   |true=>
    rw[E]at b;have b:fP (Nat.beq j 0) (some (kW.val (T.ptr A B (R+f) 0) h))=some (.val s K):=b;replace b:=dI.1 b;obtain⟨ae,b⟩:=b;have ae:=aC ae;subst ae;simp only[ar]at b;obtain⟨rfl,rfl⟩:=b;have E:=aC E;refine iV.pure i (av v M) (.ptr A B (R+f) 0 g _ D L λY=> ?_);rw[bi Y,kh,<-E,U,bY];simp
  ·rename_i c7;replace b:=dA.1 b;obtain⟨c9,F,b⟩:=b;simp at b;obtain⟨rfl,rfl⟩:=b;obtain⟨a6,off,aX,bn,fz,M,al,Z,bk,b8,hr⟩:=Q.lm;rw[ls]at F;split at F
   ·rename_i dk;simp at F;subst F;refine iV.pure i (av _ M) ?_;rw[kh];refine .je _ a6 (off+f*m.size) aX bn fz al Z dq (λs O=>b8 s (bA O)) λk s O=> ?_;rw[bG]at O;have:=hr _ s O;rwa[<-cz]at this
   ·simp at F
end
end
end Go.TI
