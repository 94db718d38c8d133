/- TiBase -/
import Derived.Test.YtbappgeamhmmbaaGreatDoorA0
import Derived.IntWalk
import Derived.Calls
import Derived.Laws.CopyRow
import Derived.Laws.Cells
import Derived.Laws.Entries
import Derived.WalkCall
import Derived.Laws.Strings
import Derived.Lib.Strings
import Derived.Laws.StructEq
import Derived.ChangeKeysEq
import Derived.Great.FillDense
set_option linter.all false
namespace Go.TI
abbrev D(n:Int):T:=.int .i64 n
abbrev dw:T:=.Y [] false
abbrev Z(s v:Nat)(e:List T):iI:=⟨s,0,v,true,false,e⟩
@[simp] abbrev dy(v:fH)(n:Nat)(t:T):Prop:=TI.dG v n=some t
end Go.TI
namespace Go.TI
noncomputable section
section
@[simp]theorem dS {α β:Type} (a:α) (b:α->aa β):M (some a) b=b a:=rfl
@[simp]theorem abP {α β:Type} (a:α->aa β):M (none:aa α) a=none:=rfl
theorem dB{α β:Type}{a:aa α}{c:α->aa β}{d:β}:M a c=some d↔∃b,a=some b/\c b=some d:=by
 cases a<;>simp
@[simp]theorem il {α:Type} (a:aa α):fQ true a=a:=rfl
@[simp]theorem LX {α:Type} (a:aa α):fQ false a=none:=rfl
theorem dJ{α:Type}{a:Bool}{b:aa α}{c:α}:fQ a b=some c↔a=true/\b=some c:=by
 cases a<;>simp
@[simp]theorem km {α β d:Type} (a:α) (b:β) (c:α->β->d):two (a,b) c=c a b:=rfl
@[simp]theorem lh {e:Type} (d:Ex) (a:Env) (c:H) (b:Ex->Env->H->e):three (d,a,c) b=b d a c:=rfl
section lists
variable {α β:Type}
@[simp]def ky (b:List α) (a:Nat):lF b a=b[a]? :=by
 induction b generalizing a with
 |nil=>rfl
 |cons e d c=>cases a with
  |zero=>rfl
  |succ a=>exact(c a).trans J 
def kl(b:List α)(a:Nat)(c:α):kf b a c=if a<b.length then some (b.set a c)else none:=by
 induction b generalizing a with
 |nil=>rfl
 |cons h d f=>cases a with
  |zero=>rfl
  |succ a=>
   show(M (kf d a c) λg=>some (h::g))=_;rw[f];by_cases e:a<d.length<;>simp[e]
theorem m6(a:Nat)(b:List α):takeN a b=if a<=b.length then some (b.take a)else none:=by
 induction a generalizing b with
 |zero=>rfl
 |succ a e=>cases b with
  |nil=>rfl
  |cons g c=>
   show(M (takeN a c) λf=>some (g::f))=_;rw[e];by_cases d:a<=c.length<;>simp[d]
def lA(a:Nat)(b:List α):jB a b=if a<=b.length then some (b.drop a)else none:=by
 induction a generalizing b with
 |zero=>rfl
 |succ a e=>cases b with
  |nil=>rfl
  |cons f c=>
   show jB a c=_;rw[e];by_cases d:a<=c.length<;>simp[d]
@[simp]theorem jz (a:List α):kv a=a.length:=by
 induction a with
 |nil=>rfl
 |cons d c b=>show Nat.succ (kv c)=_;rw[b];rfl
@[simp]theorem pf (a b:List α):AV a b=some (a++b):=by
 induction a with
 |nil=>rfl
 |cons f d c=>show(M (AV d b) λe=>some (f::e))=_;rw[c];rfl
theorem jp(a:α->aa β)(c:α)(b:List α):fG a (c::b)=M (a c) λe=>M (fG a b) λd=>some (e::d):=rfl
@[simp]theorem VC (a:α->aa β):fG a []=some []:=rfl
def qP{e:α->aa β}{b:List α}{a:List β}:fG e b=some a↔b.length=a.length/\∀(c:Nat) d,b[c]? =some d->∃f,a[c]? =some f/\e d=some f:=by
 induction b generalizing a with
 |nil=>
  constructor
  ·simp_all
  ·rintro⟨g,_⟩;simp at g;simp[aS g.symm]
 |cons d b k=>
  rw[jp];constructor
  ·grind [dB]
  ·rintro⟨hl,h⟩;cases a with
   |nil=>grind
   |cons f a=>
    have⟨n,i,j⟩:=h 0 d J;simp at i;subst i;have:fG e b=some a:=k.2 ⟨by grind,λc l m=>by simpa using h (c+1) l (by grind)⟩;rw[j,this];rfl
@[simp]theorem oY (b:α) (a:Nat):oG b a=List.replicate a b:=by
 induction a with
 |zero=>rfl
 |succ a c=>show b::oG b a=_;rw[c];rfl
@[simp]def yS (a:α->Bool) (b:List α):wC a b=b.all a:=by
 induction b with
 |nil=>rfl
 |cons c b e=>
  show @Bool.rec (λ_=>Bool) false (wC a b) (a c)=_;rw[e];cases d:a c<;>simp[d]
end lists
@[simp]theorem gX (a:Nat):fU a=some a:=by cases a<;>rfl
@[simp]theorem Vv (b:Int):JW b=some b:=by
 cases b with
 |ofNat a=>cases a<;>rfl
 |negSucc a=>cases a<;>rfl
@[simp]def nV (a:ak) (b:Int):xe a b=some (.int a b):=by simp[xe]
@[simp]theorem qJ (a:Bool):wG a=some (.bool a):=by cases a<;>rfl
@[simp]def xq (a b:ak):(C7 a b=true)↔a=b:=by cases a<;>cases b<;>decide
def xm(c b:Int):J2 c b=decide (c<b):=by
 cases c with
 |ofNat d=>cases b with
  |ofNat a=>
   show Nat.blt d a=_;rw[bg,aF];simp
  |negSucc a=>rfl
 |negSucc d=>cases b with
  |ofNat a=>show true=_;grind
  |negSucc a=>
   show Nat.blt a d=_;rw[bg,aF];grind
def xx(c b:Int):Qh c b=(c==b):=by
 cases c with
 |ofNat d=>cases b with
  |ofNat a=>
   show Nat.beq d a=_;rw[bg,Nat.beq_eq];grind
  |negSucc a=>rfl
 |negSucc d=>cases b with
  |ofNat a=>rfl
  |negSucc a=>
   show Nat.beq d a=_;rw[bg,Nat.beq_eq];simp
def jv(c:ak)(d:Int):Jv c d=c.wrap d:=by
 cases c<;>try rfl
 cases d with
 |ofNat a=>
  show @Bool.rec (λ_=>Int) (IntKind.i64.wrap (.ofNat a)) (Int.ofNat a) (Nat.ble a 9223372036854775807)=_;cases b:Nat.ble a 9223372036854775807
  ·rfl
  ·have:=aU b;show Int.ofNat a=_;exact(IntWalk.i64_in _ (by grind)).symm
 |negSucc a=>
  show @Bool.rec (λ_=>Int) (IntKind.i64.wrap (.negSucc a)) (Int.negSucc a) (Nat.ble a 9223372036854775807)=_;cases b:Nat.ble a 9223372036854775807
  ·rfl
  ·have:=aU b;show Int.negSucc a=_;exact(IntWalk.i64_in _ B).symm
@[simp]def xX (a:ak) (b:Int):pj a b=some (.int a (a.wrap b)):=by simp[pj,jv]
def xw(b a:List Nat):Uk b a=(b==a):=by
 induction b generalizing a with
 |nil=>cases a<;>rfl
 |cons c b f=>cases a with
  |nil=>rfl
  |cons d a=>
   show @Bool.rec (λ_=>Bool) false (Uk b a) (Nat.beq c d)=_;rw[f];rw[List.cons_beq_cons];cases e:Nat.beq c d
   ·have:(c==d)=false:=by rw[<-Bool.not_eq_true,beq_iff_eq,<-Nat.beq_eq];simp[e]
    grind
   simp_all
theorem H.get_eq(b:H)(a:Nat):b.get a=if a<b.size then b.eZ[b.size-1-a]? else none:=by
 obtain⟨d,f,e⟩:=b;show fQ (Nat.blt a d) (lF e _)=_;by_cases c:a<d
 ·have:Nat.blt a d=true:=by rw[aF];exact c
  simp[this,c]
 ·have:Nat.blt a d=false:=by rw[<-Bool.not_eq_true,aF];exact c
  simp[this,c]
def H.Oq(b:Nat->T)(a:H)(c:iI):a.new b c=some (b a.size,⟨a.size+1,a.low,c::a.eZ⟩):=by
 obtain⟨d,f,e⟩:=a;show(M (fU (Nat.succ d)) λg=>some (b d,(⟨g,f,c::e⟩:H)))=_;simp
def H.u0{b j:H}{a:Nat}{i:iI}:b.put a i=some j↔
 a<b.size/\b.size-1-a<b.eZ.length/\j=⟨b.size,if a<b.low then a else b.low,b.eZ.set (b.size-1-a) i⟩:=by
 obtain⟨d,c,l⟩:=b;show fQ (Nat.blt a d) (M (kf l (d-1-a) i) λe=> @Bool.rec (λ_=>aa H) (some (⟨d,c,e⟩:H)) (some ⟨d,a,e⟩) (Nat.blt a c))=_↔_;rw[dJ,aF,kl];constructor
 ·rintro⟨g,m⟩;obtain⟨e,f,k⟩:=dB.1 m;split at f
  ·rename_i hl;simp at f;subst f;refine⟨g,hl,?_⟩;by_cases h:a<c
   ·have:Nat.blt a c=true:=by rw[aF];omega
    rw[this]at k;grind
   ·have:Nat.blt a c=false:=by rw[<-Bool.not_eq_true,aF];omega
    rw[this]at k;grind
  grind
 ·rintro⟨g,hl,rfl⟩;refine⟨g,?_⟩;simp only[]at hl;rw[aq hl];by_cases h:a<c
  ·have:Nat.blt a c=true:=by rw[aF];omega
   simp[this,h]
  ·have:Nat.blt a c=false:=by rw[<-Bool.not_eq_true,aF];omega
   simp[this,h]
end
structure Loc where
 ep:Nat
 iE:Nat
 cap:Nat
 sz:Nat
structure Mu where
 loc:Nat->aa Loc
 mt:Nat->Prop
instance :CoeFun Mu (λ_=>Nat->aa Loc):=⟨Mu.loc⟩
def mR(c:Mu)(b:Nat):Prop:=(∃d a,c d=some a/\a.iE=b)\/c.mt b
def T.scalar:T->Bool
 | .undef| .agg _| .tuple _=>false
 |_=>true
inductive j9:T->Prop where
 |bool (b:Bool):j9 (.bool b)
 |int (k:ak) (n:Int):j9 (.int k n)
 |str (s:List Nat):j9 (.str s)
 |jQ:j9 .jQ
 |jh (cs:List T) (h:∀v∈cs,j9 v):j9 (.jh cs)
 |Y (es:List T) (full:Bool) (h:∀v∈es,j9 v):j9 (.Y es full)
 |fK:j9 .fK
 |kj:j9 .kj
 |kq:j9 .kq
 |agg (cs:List T) (h:∀v∈cs,j9 v):j9 (.agg cs)
def uC(a:T):Prop:=a.scalar=true/\j9 a
def eY(a:List T):List T:=a.flatMap T.cells
def bytesOf(a:List Nat):ByteArray:=⟨(a.map UInt8.ofNat).toArray⟩
inductive eK (hp:af Obj) (μ:Mu):T->am->Prop where
 |undef:eK hp μ .undef (.tuple #[])
 |bool (b:Bool):eK hp μ (.bool b) (.bool b)
 |int (k:ak) (n:Int):eK hp μ (.int k n) (.int k n)
 |str (s:List Nat) (h:∀c∈s,c<256):eK hp μ (.str s) (.string (bytesOf s))
 |jQ:eK hp μ .jQ (.pointer none)
 |ptr (b ep i j:Nat) (L:Loc) (a:Addr) (hb:μ b=some L) (he:ep<=L.ep) (ha:ep=L.ep->a=⟨L.iE,i*L.sz+j,none⟩):
  eK hp μ (.ptr b ep i j) (.pointer (some a))
 |jh (cells:List T) (iE off:Nat) (arr:af am) (t:ab) (fz:Nat×Nat) (hn:¬mR μ iE) (hh:hp[iE]? =some (.cells arr t fz))
  (hs:off+cells.length<=arr.size) (hc:∀v∈cells,uC v)
  (hr:∀(k:Nat) v,cells[k]? =some v->eK hp μ v (arr.getD (off+k) Go.undef)):eK hp μ (.jh cells) (.pointer (some ⟨iE,off,none⟩))
 |mX (full:Bool) (a:aa Addr):eK hp μ (.Y [] full) (.slice a 0 0)
 |Y (e:T) (es:List T) (full:Bool) (iE off cap sz:Nat) (arr:af am) (t:ab) (fz:Nat×Nat) (hn:¬mR μ iE)
  (hh:hp[iE]? =some (.cells arr t fz)) (hl:es.length+1<=cap) (hf:full=true->cap=es.length+1)
  (hu:∀v∈e::es,v.cells.length=sz) (hs:off+(eY (e::es)).length<=arr.size) (hc:∀v∈eY (e::es),uC v)
  (hr:∀(k:Nat) v,(eY (e::es))[k]? =some v->eK hp μ v (arr.getD (off+k) Go.undef)):
  eK hp μ (.Y (e::es) full) (.slice (some ⟨iE,off,none⟩) (es.length+1) cap)
 |fK (a:aa Addr) (cap:Nat):eK hp μ .fK (.slice a 0 cap)
 |arr (b ep o l:Nat) (full:Bool) (L:Loc) (a:aa Addr) (cp:Nat) (hb:μ b=some L) (he:ep<=L.ep) (hl:l<=cp)
  (h:ep=L.ep->(full=true->cp=l)/\(full=false->o+cp=L.cap)/\(cp≠0->a=some ⟨L.iE,o*L.sz,none⟩)):
  eK hp μ (.arr b ep o l full) (.slice a l cp)
 |func (f:aj) (caps:List T) (cs:af am) (hs:cs.size=caps.length)
  (hr:∀(k:Nat) v,caps[k]? =some v->eK hp μ v (cs.getD k Go.undef)):eK hp μ (.func f caps) (.func (.func f) #[] cs)
 |kj:eK hp μ .kj .nilFunc
 |kq:eK hp μ .kq .nilIface
 |iface (t:ab) (v:T) (c:am) (h:eK hp μ v c):eK hp μ (.iface t v) (.iface t c)
 |iter (b:Nat) (L:Loc) (a:Addr) (hb:μ b=some L) (h:L.ep=0->a=⟨L.iE,0,none⟩):eK hp μ (.iter b) (.pointer (some a))
 |map (b:Nat) (L:Loc) (i:Nat) (hb:μ b=some L) (h:L.ep=0->i=L.iE):eK hp μ (.map b) (.map (some i))
 |mw:eK hp μ .mw (.map none)
 |agg (cells:List T) (cs:af am) (hs:cs.size=cells.length) (hc:∀v∈cells,v.scalar=true)
  (hr:∀(k:Nat) v,cells[k]? =some v->eK hp μ v (cs.getD k Go.undef)):eK hp μ (.agg cells) (.agg cs)
 |tuple (vs:List T) (cs:af am) (hs:cs.size=vs.length)
  (hr:∀(k:Nat) v,vs[k]? =some v->eK hp μ v (cs.getD k Go.undef)):eK hp μ (.tuple vs) (.tuple cs)
structure Ext(hp:af Obj)(μ:Mu)(hp':af Obj)(μ':Mu):Prop where
 size:hp.size<=hp'.size
 mV:∀i,i<hp.size->¬mR μ i->hp'[i]? =hp[i]? /\¬mR μ' i
 mu:∀b L,μ b=some L->∃L',μ' b=some L'/\(L'=L\/L.ep<L'.ep)
 mt:μ'.mt=μ.mt
 kept:∀i,i<hp.size->μ.mt i->hp'[i]? =hp[i]?
structure oS(w:World)(μ:Mu)(w':World)(μ':Mu):Prop where
 ext:Ext w.heap μ w'.heap μ'
 os:w'.os=w.os
 tape:w'.tape=w.tape
 output:w'.output=w.output
def Ext.refl(b:af Obj)(c:Mu):Ext b c b c:=⟨au _,λ_ _ a=>⟨rfl,a⟩,λ_ d a=>⟨d,a,.inl rfl⟩,rfl,λ_ _ _=>rfl⟩
def Ext.trans{hp f g:af Obj}{h i j:Mu}(a:Ext hp h f i)(d:Ext f i g j):Ext hp h g j:=by
 refine⟨aO a.size d.size,λc b o=>?_,λe k n=>?_,d.mt.trans a.mt,λc b hr=>?_⟩
 rotate_right
 ·rw[d.kept c (bp b a.size) (by rw[a.mt];exact hr),a.kept c b hr]
 ·have⟨r,p⟩:=a.mV c b o;have⟨s,u⟩:=d.mV c (bp b a.size) p
  grind
 ·have⟨l,m,r1⟩:=a.mu e k n;have⟨q,t,r2⟩:=d.mu e l m
  grind
def oS.refl(a:World)(b:Mu):oS a b a b:=⟨Ext.refl _ _,rfl,rfl,rfl⟩
def oS.trans{c w1 d:World}{e f g:Mu}(a:oS c e w1 f)(b:oS w1 f d g):oS c e d g:=
 ⟨a.ext.trans b.ext,b.os.trans a.os,b.tape.trans a.tape,b.output.trans a.output⟩
def B7{a:af Obj}{b:Nat}{c:Obj}(d:a[b]? =some c):b<a.size:=by
 grind
def eK.ext{A C:af Obj}{E F:Mu}{t:T}{s:am}(i:eK A E t s)(j:Ext A E C F):eK C F t s:=by
 induction i with
 |undef=>exact .undef
 |bool a=>exact .bool a
 |int P p=>exact .int P p
 |str U i=>exact .str U i
 |jQ=>exact .jQ
 |ptr a x z O e c g L X=>
  have⟨f,h,r⟩:=j.mu a e g;refine .ptr a x z O f c h ?_ ?_
  ·rcases r with rfl|r<;>omega
  grind
 |jh v k off arr q fz y o d n _ b=>
  have⟨w,p⟩:=j.mV k (B7 o) y;exact .jh v k off arr q fz p (w.trans o) d n b
 |mX m c=>exact .mX m c
 |Y w I m k off u V arr q fz y o hl M N d n _ b=>
  have⟨S,p⟩:=j.mV k (B7 o) y;exact .Y w I m k off u V arr q fz p (S.trans o) hl M N d n b
 |fK c u=>exact .fK c u
 |arr a x R Q m e c H g L hl i=>
  have⟨f,h,r⟩:=j.mu a e g;refine .arr a x R Q m f c H h ?_ hl ?_
  ·rcases r with rfl|r<;>omega
  grind
 |func K G l d _ b=>exact .func K G l d b
 |kj=>exact .kj
 |kq=>exact .kq
 |iface q t s _ b=>exact .iface q t s b
 |iter a e c g i=>
  have⟨f,h,r⟩:=j.mu a e g;refine .iter a f c h ?_
  grind
 |map a e z g i=>
  have⟨f,h,r⟩:=j.mu a e g;refine .map a f z h ?_
  grind
 |mw=>exact .mw
 |agg v l d n _ b=>exact .agg v l d n b
 |tuple W l d _ b=>exact .tuple W l d b
def fX(e:af Obj)(f:Mu)(d:List T)(a:List am):Prop:=
 d.length=a.length/\∀(b:Nat) c,d[b]? =some c->eK e f c (a.getD b Go.undef)
def fX.ext{c d:af Obj}{f g:Mu}{e:List T}{a:List am}(b:fX c f e a)(k:Ext c f d g):fX d g e a:=
 ⟨b.1,λi j h=>(b.2 i j h).ext k⟩
theorem fX.nil{a:af Obj}{b:Mu}:fX a b [] []:=⟨rfl,λd e c=>by grind⟩
theorem fX.cons{a:af Obj}{c:Mu}{h:T}{d:am}{i:List T}{e:List am}(k:eK a c h d)(f:fX a c i e):fX a c (h::i) (d::e):=by
 refine⟨by simp[f.1],λb j g=>?_⟩;cases b with
 |zero=>grind
 |succ b=>simp at g;simpa using f.2 b j g
def fX.mg{d:af Obj}{f:Mu}{e:T}{g:List T}{c:List am}(h:fX d f (e::g) c):∃a b,c=a::b/\eK d f e a/\fX d f g b:=by
 obtain⟨hl,hr⟩:=h;cases c with
 |nil=>grind
 |cons a b=>exact⟨a,b,rfl,by simpa using hr 0 e J,by grind,λi j k=>by simpa using hr (i+1) j (by grind)⟩
theorem fX.append{c:af Obj}{d:Mu}{a g:List T}{b e:List am}(f:fX c d a b)(j:fX c d g e):fX c d (a++g) (b++e):=by
 induction a generalizing b with
 |nil=>obtain⟨hl,_⟩:=f;simp at hl;rw[aS hl.symm];grind
 |cons n a m=>obtain⟨h,i,rfl,l,k⟩:=f.mg;grind [fX.cons]
def fX.take{e:af Obj}{f:Mu}{a:List T}{c:List am}(d:fX e f a c)(b:Nat):fX e f (a.take b) (c.take b):=by
 induction b generalizing a c with
 |zero=>simp[fX.nil]
 |succ b k=>cases a with
  |nil=>obtain⟨hl,_⟩:=d;simp at hl;rw[aS hl.symm];simp[fX.nil]
  |cons l a=>obtain⟨g,h,rfl,j,i⟩:=d.mg;grind [fX.cons]
def fX.drop{e:af Obj}{f:Mu}{a:List T}{c:List am}(d:fX e f a c)(b:Nat):fX e f (a.drop b) (c.drop b):=by
 induction b generalizing a c with
 |zero=>grind
 |succ b j=>cases a with
  |nil=>obtain⟨hl,_⟩:=d;simp at hl;rw[aS hl.symm];simp[fX.nil]
  |cons k a=>obtain⟨g,h,rfl,_,i⟩:=d.mg;grind
def fX.get{d:af Obj}{f:Mu}{e:List T}{a:List am}(c:fX d f e a){k:Nat}{v:T}(h:e[k]? =some v):∃b,a[k]? =some b/\eK d f v b:=by
 have g:k<a.length:=by
  rw[<-c.1]
  grind
 refine⟨a[k],J,?_⟩;simpa[List.getD,g]using c.2 k v h
theorem qI{d:af Obj}{f:Mu}{b:T}{a:am}(c:eK d f b a)(e:b.scalar=true):a.oneCell'=true:=by
 cases c<;>first|rfl|(simp[T.scalar]at e)
theorem eK.cells{o:af Obj}{q:Mu}{b:T}{c:am}(d:eK o q b c)(X:b.fg=true):
 fX o q b.cells c.cells.toList/\(∀h∈b.cells,h.scalar=true)/\∀h∈c.cells.toList,h.oneCell'=true:=by
 have a:∀{b:T} {c:am},eK o q b c->b.scalar=true->b.cells=[b]->c.cells= #[c]->
  fX o q b.cells c.cells.toList/\(∀h∈b.cells,h.scalar=true)/\∀h∈c.cells.toList,h.oneCell'=true:=by
  intro b c d k z i;rw[z,i]
  grind [fX.nil,fX.cons,qI]
 cases d with
 |agg m r k i hr=>
  have H:fX o q m r.toList:=⟨by grind,λl b z=>by simp_all⟩;refine⟨H,i,?_⟩;intro h O;have N:h∈r.toList:=O;obtain⟨l,ae,rfl⟩:=List.getElem_of_mem N;have L:l<m.length:=by grind
  have:=hr l m[l] J;have W:=qI this (i _ (aD L));simp_all
 |undef=>grind [T.fg]
 |tuple=>grind [T.fg]
 |bool f=>exact a (.bool f) rfl rfl rfl
 |int l R=>exact a (.int l R) rfl rfl rfl
 |str U g=>exact a (.str U g) rfl rfl rfl
 |jQ=>exact a .jQ rfl rfl rfl
 |ptr f u y P j e g v I=>exact a (.ptr f u y P j e g v I) rfl rfl rfl
 |jh m s off arr p fz x w k i hr=>exact a (.jh m s off arr p fz x w k i hr) rfl rfl rfl
 |mX n e=>exact a (.mX n e) rfl rfl rfl
 |Y E F n s off t V arr p fz x w hl K M k i hr=>exact a (.Y E F n s off t V arr p fz x w hl K M k i hr) rfl rfl rfl
 |fK e t=>exact a (.fK e t) rfl rfl rfl
 |arr f u S Q n j e C g v hl d=>exact a (.arr f u S Q n j e C g v hl d) rfl rfl rfl
 |func G A r k hr=>exact a (.func G A r k hr) rfl rfl rfl
 |kj=>exact a .kj rfl rfl rfl
 |kq=>exact a .kq rfl rfl rfl
 |iface p b c d=>exact a (.iface p b c d) rfl rfl rfl
 |iter f j e g d=>exact a (.iter f j e g d) rfl rfl rfl
 |map f j y g d=>exact a (.map f j y g d) rfl rfl rfl
 |mw=>exact a .mw rfl rfl rfl
structure yZ(hp:af Obj)(μ:Mu)(L:Loc)(sw:Bool)(eg:List T):Prop where
 row:∃arr t,hp[L.iE]? =some (.cells arr t (0,0))/\arr.size=L.cap*L.sz/\fX hp μ (eY eg) (arr.toList.take (eY eg).length)
 room:eg.length<=L.cap
 sw:sw=true->L.cap=eg.length
 size:∀v∈eg,v.cells.length=L.sz
 scalar:∀v∈eY eg,v.scalar=true
def HF(c:af Obj)(i:Mu)(j:Loc)(e:List T):Prop:=
 ∃a:af MapEntry,c[j.iE]? =some (.map a a.size)/\a.size=e.length/\
  ∀(d:Nat) h,e[d]? =some h->∃f g b,h= .tuple [f,g]/\a[d]? =some b/\b.born=d/\eK c i f b.key/\eK c i g b.val
def ab6(c:af Obj)(i:Mu)(g:Loc)(h:List T):Prop:=
 ∃e d f b a,h=[.map e,.int .i64 (.ofNat f),.int .i64 (.ofNat b),.int .i64 (.ofNat a)]/\eK c i (.map e) (.map (some d))/\b<=a/\
  c[g.iE]? =some (.mapIter (some d) b (Array.range f) a)
structure p8(hp:af Obj)(μ:Mu)(L:Loc)(x:iI):Prop where
 ep:x.ep=L.ep
 sz:x.sz=L.sz
 plain:x.it=false->yZ hp μ L x.exact x.eg
 iter:x.it=true->x.ep=0/\((∃s pos,x.eg=[.str s,.int .i64 (.ofNat pos)]/\(∀c∈s,c<256)/\hp[L.iE]? =some (.stringIter (bytesOf s) pos))\/HF hp μ L x.eg\/ab6 hp μ L x.eg)
structure St(cx:Ctx)(base:Nat)(hp:af Obj)(μ:Mu)(h:H):Prop where
 wf:h.eZ.length=h.size
 fit:base<=hp.size
 box:∀b L,μ b=some L->∃x,h.get b=some x/\p8 hp μ L x
 inj:∀b b' L L',μ b=some L->μ b'=some L'->L.iE=L'.iE->b=b'
 low:∀b L,μ b=some L->base<=L.iE
 apart:∀b L,μ b=some L->¬μ.mt L.iE
 pY:∀i,μ.mt i->i<hp.size
 yA:∀g cs,cx.gl g=some cs->eK hp μ (.jh cs) (.pointer (some ⟨g,0,none⟩))
def yZ.ext{c d:af Obj}{g h:Mu}{b:Loc}{f:Bool}{e:List T}(a:yZ c g b f e)(j:Ext c g d h)(n:d[b.iE]? =c[b.iE]?):yZ d h b f e:=by
 have⟨i,o,k,l,m⟩:=a.row;exact⟨⟨i,o,n.trans k,l,m.ext j⟩,a.room,a.sw,a.size,a.scalar⟩
def p8.ext{j k:af Obj}{n o:Mu}{b:Loc}{h:iI}(d:p8 j n b h)(c:Ext j n k o)(i:k[b.iE]? =j[b.iE]?):p8 k o b h:=
 ⟨d.ep,d.sz,λa=>(d.plain a).ext c i,λa=>by
   obtain⟨l,⟨G,m,e,f,g⟩|⟨q,e,f,g⟩|⟨A,z,m,E,p,e,f,g,w⟩⟩:=d.iter a
   ·grind
   ·refine⟨l,.inr (.inl ⟨q,i.trans e,f,λy h x=>?_⟩)⟩;have⟨a,F,C,r,s,t,u,v⟩:=g y h x;exact⟨a,F,C,r,s,t,u.ext c,v.ext c⟩
   ·exact⟨l,.inr (.inr ⟨A,z,m,E,p,e,f.ext c,g,i.trans w⟩)⟩⟩
def p8.lt{d:af Obj}{g:Mu}{a:Loc}{e:iI}(b:p8 d g a e):a.iE<d.size:=by
 cases c:e.it with
 |false=>have⟨h,m,f,_⟩:=(b.plain c).row;grind
 |true=>
  obtain⟨_,⟨s,l,_,_,j⟩|⟨i,f,_⟩|⟨_,_,_,_,_,_,_,_,k⟩⟩:=b.iter c
  ·grind
  ·grind
  grind
def St.lt{cx:Ctx}{e:Nat}{c:af Obj}{d:Mu}{f:H}(s:St cx e c d f){b:Nat}{a:Loc}(g:d b=some a):a.iE<c.size:=by
 have⟨i,_,h⟩:=s.box b a g;exact h.lt
section
section
variable {P:ai}{cx:Ctx}
structure uq(P:ai)(t:ab)(ty:Ty):Prop where
 is:∃cmp,UI P t cmp=some ty
def jo{a:Nat}(b:a<256):(UInt8.ofNat a).toNat=a:=by
 simp_all
def L6(a:List UInt8):Af a=some (a.map UInt8.toNat):=by
 induction a with
 |nil=>rfl
 |cons d a b=>
  show(M (fU d.toNat) λe=>M (Af a) λc=>some (e::c))=_;rw[b];simp
def wV(a:ByteArray):bytesOf (a.data.toList.map UInt8.toNat)=a:=by
 unfold bytesOf;rw[cz];have:(UInt8.ofNat∘UInt8.toNat)=id:=by funext b;simp
 rw[this];simp
theorem eK.mF{hp:af Obj}{μ:Mu}{d:am}{b:T}(a:mF d=some b):eK hp μ b d/\b.scalar=true:=by
 unfold TI.mF at a;split at a
 ·simp at a;subst a;exact⟨.bool _,rfl⟩
 ·simp at a;subst a;exact⟨.int _ _,rfl⟩
 ·rename_i f;rw[L6]at a;simp at a;subst a;refine⟨?_,rfl⟩;have:=eK.str (hp:=hp) (μ:=μ) (f.data.toList.map UInt8.toNat) (by intro g c;simp at c;obtain⟨e,_,rfl⟩:=c;exact e.toNat_lt);rwa[wV]at this
 ·simp at a;subst a;exact⟨.jQ,rfl⟩
 ·simp at a;subst a;exact⟨.mw,rfl⟩
 ·simp at a;subst a;exact⟨.mX _ _,rfl⟩
 ·simp at a;subst a;exact⟨.kj,rfl⟩
 ·simp at a;subst a;exact⟨.kq,rfl⟩
 grind
theorem fX.rR{hp:af Obj}{μ:Mu}{b:List am}{e:List T}(j:fG TI.mF b=some e):fX hp μ e b/\∀f∈e,f.scalar=true:=by
 have⟨hl,h⟩:=qP.1 j;refine⟨⟨hl.symm,λa f d=>?_⟩,λf d=>?_⟩
 ·have i:a<b.length:=by
   grind
  have⟨k,c,g⟩:=h a b[a] J;rw[d]at c;grind [eK.mF,List.getD]
 ·obtain⟨a,i,rfl⟩:=List.getElem_of_mem d;have l:a<b.length:=B;have⟨k,c,g⟩:=h a b[a] J;simp[i]at c;subst c;exact(eK.mF (hp:=hp) (μ:=μ) g).2
theorem eK.wX{e:af Obj}{f:Mu}{a:List T}{b:af am}(d:fX e f a b.toList)(g:∀c∈a,c.scalar=true):eK e f (.agg a) (.agg b):=
 .agg a b (by simpa using d.1.symm) g λi c h=>by simpa[bQ,List.getD]using d.2 i c h
def eK.yr{d:af Obj}{e:Mu}{a:am}{b:T}(c:yr a=some b):eK d e b a:=by
 unfold TI.yr at c
 grind [eK.wX,fX.rR,dB,eK.mF]
def uq.unfold{e:ab}{c:Ty}(a:uq P e c):∃b d f,P.info? e=some b/\P.underlying e=some d/\b.zero=some f/\fG mF f.cells.toList=some c.zero/\
 ze P d=some c.u/\sI d f=true/\c.zero.length=b.size/\b.size=c.size/\b.bytes=c.bytes/\
 (c.cmp=true->P.stoodInHeld e=false/\P.eqGuardType P.depth e=false/\JY d=true):=by
 have⟨p,a⟩:=a.is;unfold UI at a;have⟨b,h,a⟩:=dB.1 a;have⟨d,i,a⟩:=dB.1 a;have⟨f,j,a⟩:=dB.1 a;have⟨r,k,a⟩:=dB.1 a;have⟨q,l,a⟩:=dB.1 a;have⟨m,a⟩:=dJ.1 a;have⟨n,a⟩:=dJ.1 a;have⟨o,a⟩:=dJ.1 a;simp at a;rw[<-a];refine⟨b,d,f,h,i,j,k,l,m,?_,rfl,rfl,?_⟩
 ·rw[jz]at n;simp_all
 ·intro g;simp only[]at g;rw[g]at o
  grind
def uq.run_sizeOf{a:ab}{b:Ty}(d:uq P a b)(c:World):(sizeOf a).run P c= .ok b.size c:=by
 have⟨h,g,i,e,_,_,_,_,_,_,f,_⟩:=d.unfold;simp[sizeOf,typeInfo,e,f]
def uq.run_typeInfo{c:ab}{b:Ty}(e:uq P c b)(d:World):∃a,(typeInfo c).run P d= .ok a d/\a.bytes=b.bytes/\a.size=b.size:=by
 have⟨a,i,j,f,_,_,_,_,_,_,g,h,_⟩:=e.unfold;exact⟨a,by simp[typeInfo,f],h,g⟩
def abV:TypeDesc->Bool
 | .struct _| .array _ _=>true
 |_=>false
def zJ{b:TypeDesc}{c:Ty}(a:ze P b=some c.u):c.isAgg=abV b:=by
 unfold Ty.isAgg;cases b<;>simp only[ze]at a<;>first|(injection a with a;rw[<-a];rfl)|(split at a<;>simp at a;rw[<-a];rfl)
def uq.sO{a:ab}{b:Ty}(e:uq P a b)(c:World):(isAgg a).run P c= .ok b.isAgg c:=by
 have⟨h,d,i,_,f,_,_,g,_⟩:=e.unfold;rw[zJ g];simp only[isAgg,Sem.run_bind,run_underlying f,Result.andThen_ok];cases d<;>rfl
def uq.zero{s:ab}{a:Ty}(e:uq P s a)(t:World):∃b,(zeroValue s).run P t= .ok b t/\(∀hp μ,eK hp μ a.jW b)/\(∀hp μ,fX hp μ a.zero b.cells.toList)/\
 (∀z∈a.zero,z.scalar=true)/\a.zero.length=a.size/\a.jW.cells=a.zero/\a.jW.fg=true/\b.cells.size=a.size:=by
 have⟨K,n,b,u,F,v,f,o,g,G,H,I,_⟩:=e.unfold;have h:=(fX.rR (hp:= #[]) (μ:=⟨λ_=>none,λ_=>False⟩) f).2;have k:a.zero.length=b.cells.size:=by
  have:=(fX.rR (hp:= #[]) (μ:=⟨λ_=>none,λ_=>False⟩) f).1.1;omega
 refine⟨b,by simp[zeroValue,typeInfo,u,v],?_,λhp μ=>(fX.rR f).1,h,B,?_⟩
 ·intro hp μ;have d:=(fX.rR (hp:=hp) (μ:=μ) f).1;unfold Ty.jW;rw[zJ o];cases n with
  |struct E=>cases b with
   |agg m=>exact eK.wX d h
   |_=>simp[sI]at g
  |array L C=>cases b with
   |agg m=>exact eK.wX d h
   |_=>simp[sI]at g
  |_=>
   have i:b.cells= #[b]:=by cases b<;>simp[sI]at g<;>rfl
   rw[i]at d;obtain⟨hl,_⟩:=d;simp at hl
   match l:a.zero,hl with
   | [c],_=>
    have d:=(fX.rR (hp:=hp) (μ:=μ) f).1;rw[i,l]at d;have⟨A,m,q,x,_⟩:=d.mg;simp at q;show eK hp μ c b;rw[q.1];exact x
 ·have p:=zJ o;have w:(a.isAgg=true/\a.jW= .agg a.zero)\/(a.isAgg=false/\∃c,a.zero=[c]/\a.jW=c/\c.scalar=true):=by
   cases j:a.isAgg with
   |true=>left;exact⟨rfl,by unfold Ty.jW;rw[j]⟩
   |false=>
    right;refine⟨rfl,?_⟩;have i:b.cells= #[b]:=by
     rw[j]at p;cases n<;>simp[abV]at p<;>cases b<;>simp[sI]at g<;>rfl
    rw[i]at k;simp at k
    match l:a.zero,k with
    | [c],_=>exact⟨c,rfl,by unfold Ty.jW;rw[j,l];rfl,h c (by grind)⟩
  rcases w with⟨_,e⟩|⟨_,c,y,e,r⟩
  ·rw[e];exact⟨rfl,rfl,B⟩
  ·rw[e,y];refine⟨?_,?_,B⟩
   ·cases c<;>simp[T.scalar]at r<;>rfl
   ·cases c<;>simp[T.scalar]at r<;>rfl
structure iG(P:ai)(cx:Ctx):Prop where
 ty:∀t ty,cx.ty t=some ty->uq P t ty
def jY(d:af Obj)(g:Mu)(e:Nat)(c:Env)(f:af am):Prop:=
 ∀a b,c.get e a=some b->eK d g b (f.getD a Go.undef)
def jY.ext{b c:af Obj}{f g:Mu}{d:Nat}{a:Env}{e:af am}(h:jY b f d a e)(l:Ext b f c g):jY c g d a e:=
 λj k i=>(h j k i).ext l
def fN{k:Nat}{c:af Obj}{e:Mu}{n:H}{j:Nat}{g:Env}{f:Act}(q:St cx k c e n)(p:jY c e j g f.tmps){d:ah}{a:T}
 (b:fq cx j g d=some a):eK c e a (f.eval d):=by
 cases d with
 |tmp r=>exact p r a b
 |const s=>exact eK.yr b
 |global m=>
  have⟨l,o,i⟩:=dB.1 b;simp at i;subst i;exact q.yA m l o
 |func h=>
  have:T.func h []=a:=by grind [fq]
  subst this;exact .func h [] #[] rfl λu a t=>by grind
def u5{i:Nat}{c:af Obj}{e:Mu}{j:H}{h:Nat}{g:Env}{f:Act}(o:St cx i c e j)(n:jY c e h g f.tmps){b:List ah}{d:List T}
 (a:py cx h g b=some d):fX c e d (b.map f.eval):=by
 induction b generalizing d with
 |nil=>simp_all[py,fX.nil]
 |cons p b m=>
  unfold py at a;rw[jp]at a;have⟨r,k,a⟩:=dB.1 a;have⟨q,l,a⟩:=dB.1 a;simp at a;subst a;exact fX.cons (fN o n k) (m l)
end
end
section
section inv
variable {hp:af Obj}{μ:Mu}{c:am}
def eK.pI{b:Bool}(h:eK hp μ (.bool b) c):c= .bool b:=by cases h;rfl
def eK.jI{b:ak}{d:Int}(h:eK hp μ (.int b d) c):c= .int b d:=by cases h;rfl
def eK.kz{b:List Nat}(h:eK hp μ (.str b) c):c= .string (bytesOf b)/\∀d∈b,d<256:=by cases h;grind
def eK.pH(h:eK hp μ .jQ c):c= .pointer none:=by cases h;rfl
def eK.o7{f d g i:Nat}(h:eK hp μ (.ptr f d g i) c):∃b a,c= .pointer (some a)/\μ f=some b/\d<=b.ep/\(d=b.ep->a=⟨b.iE,g*b.sz+i,none⟩):=by
 cases h with|ptr _ _ _ _ b a k l j=>grind
def eK.lx{f:List T}(h:eK hp μ (.jh f) c):∃d off b i fz,c= .pointer (some ⟨d,off,none⟩)/\¬mR μ d/\hp[d]? =some (.cells b i fz)/\
 off+f.length<=b.size/\(∀g∈f,uC g)/\∀(j:Nat) g,f[j]? =some g->eK hp μ g (b.getD (off+j) Go.undef):=by
 cases h with|jh _ d off b i fz m l n k hr=>exact⟨d,off,b,i,fz,rfl,m,l,n,k,hr⟩
def eK.rX{j g o f:Nat}{i:Bool}(h:eK hp μ (.arr j g o f i) c):∃b a d,c= .slice a f d/\μ j=some b/\g<=b.ep/\f<=d/\
 (g=b.ep->(i=true->d=f)/\(i=false->o+d=b.cap)/\(d≠0->a=some ⟨b.iE,o*b.sz,none⟩)):=by
 cases h with|arr _ _ _ _ _ b a d k l hl h=>grind
def eK.zL(h:eK hp μ .fK c):∃a b,c= .slice a 0 b:=by cases h;simp
def eK.tv{b:Bool}(h:eK hp μ (.Y [] b) c):∃a,c= .slice a 0 0:=by cases h;simp
def eK.tz{j:T}{b:List T}{m:Bool}(h:eK hp μ (.Y (j::b) m) c):∃g off i k f l fz,c= .slice (some ⟨g,off,none⟩) (b.length+1) i/\¬mR μ g/\
 hp[g]? =some (.cells f l fz)/\b.length+1<=i/\(m=true->i=b.length+1)/\(∀d∈j::b,d.cells.length=k)/\off+(eY (j::b)).length<=f.size/\
 (∀d∈eY (j::b),uC d)/\∀(n:Nat) d,(eY (j::b))[n]? =some d->eK hp μ d (f.getD (off+n) Go.undef):=by
 cases h with|Y _ _ _ g off i k f l fz s r hl q u t p hr=>exact⟨g,off,i,k,f,l,fz,rfl,s,r,hl,q,u,t,p,hr⟩
def eK.qU{f:aj}{d:List T}(h:eK hp μ (.func f d) c):∃b,c= .func (.func f) #[] b/\fX hp μ d b.toList:=by
 cases h with|func _ _ b g hr=>exact⟨b,rfl,by grind,λj k i=>by simp_all⟩
def eK.tH(h:eK hp μ .kj c):c= .nilFunc:=by cases h;rfl
def eK.tF(h:eK hp μ .kq c):c= .nilIface:=by cases h;rfl
def eK.wj{b:ab}{f:T}(h:eK hp μ (.iface b f) c):∃d,c= .iface b d:=by cases h;simp
def eK.OH{d:Nat}(h:eK hp μ (.iter d) c):∃b a,c= .pointer (some a)/\μ d=some b/\(b.ep=0->a=⟨b.iE,0,none⟩):=by
 cases h with|iter _ b a f h=>grind
def eK.J6{f:Nat}(h:eK hp μ (.map f) c):∃b d,c= .map (some d)/\μ f=some b/\(b.ep=0->d=b.iE):=by
 cases h with|map _ b d g h=>grind
def eK.OG(h:eK hp μ .mw c):c= .map none:=by cases h;rfl
def eK.o8{d:List T}(h:eK hp μ (.agg d) c):∃b,c= .agg b/\fX hp μ d b.toList/\∀f∈d,f.scalar=true:=by
 cases h with|agg _ b i g hr=>exact⟨b,rfl,⟨by grind,λk f j=>by simp_all⟩,g⟩
def eK.zK{d:List T}(h:eK hp μ (.tuple d) c):∃b,c= .tuple b/\fX hp μ d b.toList:=by
 cases h with|tuple _ b f hr=>exact⟨b,rfl,by grind,λi j g=>by simp_all⟩
end inv
section
variable {P:ai}{cx:Ctx}{base:Nat}{w:World}{μ:Mu}{h:H}{G:Nat}{e:Env}{a:Act}{o:Oper}
def xJ(μ g:Mu)(d f:Nat):Prop:=d<=f/\(∀b,g b≠none->μ b≠none\/(d<=b/\b<f))/\∀b,d<=b->b<f->g b≠none
def xJ.refl(μ:Mu)(b:Nat):xJ μ μ b b:=⟨au _,λ_ h=> .inl h,λf g d=>absurd d B⟩
def xJ.trans{hp s t:af Obj}{μ i j:Mu}{k g l:Nat}(h:xJ μ i k g)(d:xJ i j g l)(x:Ext s i t j):xJ μ j k l:=by
 have v:=h.1;have z:=d.1;refine⟨aO h.1 d.1,λb f=>?_,λb f q=>?_⟩
 ·rcases d.2.1 b f with x|x
  ·rcases h.2.1 b x with y|y
   ·grind
   omega
  omega
 ·by_cases r:b<g
  ·have⟨m,n⟩:=Option.ne_none_iff_exists'.1 (h.2.2 b f r);have⟨u,p,_⟩:=x.mu b m n;rw[p];simp
  ·exact d.2.2 b B q
def iO(cx:Ctx)(base:Nat)(w:World)(μ:Mu)(i:Nat)(g:Result Next)(j:T)(f:H):Prop:=
 ∃c b d,(g= .ok (.value c) b\/(g= .ok .skip b/\c=Go.undef))/\eK b.heap d j c/\St cx base b.heap d f/\oS w μ b d/\xJ μ d i f.size
def iO.pure{b:Result Next}{d:T}{c:am}(g:St cx base w.heap μ h)(hr:b= .ok (.value c) w)(f:eK w.heap μ d c):iO cx base w μ h.size b d h:=
 ⟨c,w,μ,.inl hr,f,g,oS.refl _ _,xJ.refl _ _⟩
theorem fF{h d:H}{b:aa T}{f:T}:val h b=some (.val f d)↔b=some f/\d=h:=by
 unfold val;cases b with
 |none=>simp
 |some g=>simp;grind
def Ak{h:H}{b:aa T}{f:aj}{d:List T}:val h b≠some (.call f d):=by
 unfold val;cases b<;>simp
theorem AD{d:ah}(g:St cx base w.heap μ h)(l:jY w.heap μ G e a.tmps)(b:o.op= .move d\/o.op= .assign d){i:T}{f:H}
 (j:Co d cx G e h=some (.val i f)):iO cx base w μ h.size ((execOp a.eval o).run P w) i f:=by
 obtain⟨k,rfl⟩:=fF.1 j;refine iO.pure g ?_ (fN g l k);rcases b with b|b<;>simp[execOp,b]
theorem GV{c n p:ah}(d:St cx base w.heap μ h)(i:jY w.heap μ G e a.tmps)(l:o.op= .pick c n p){m:T}{j:H}
 (b:Ea c n p cx G e h=some (.val m j)):iO cx base w μ h.size ((execOp a.eval o).run P w) m j:=by
 obtain⟨f,q,b⟩:=dB.1 b;have r:=fN d i q;cases f<;>simp at b;rename_i f;have k:=r.pI;cases f with
 |false=>
  obtain⟨g,rfl⟩:=fF.1 b;exact iO.pure d (by simp[execOp,l,k,asBool]) (fN d i g)
 |true=>
  obtain⟨g,rfl⟩:=fF.1 b;exact iO.pure d (by simp[execOp,l,k,asBool]) (fN d i g)
theorem AO{l:ah}(g:St cx base w.heap μ h)(p:jY w.heap μ G e a.tmps)(i:o.op= .nilCheck l){k:T}{j:H}
 (f:qy l cx G e h=some (.val k j)):iO cx base w μ h.size ((execOp a.eval o).run P w) k j:=by
 have⟨m,n,f⟩:=dB.1 f;have d:=fN g p n;cases m<;>simp at f
 ·obtain⟨rfl,rfl⟩:=f;have⟨q,r,b,_⟩:=d.o7;exact iO.pure g (by simp[execOp,i,b]) (b▸d)
 ·obtain⟨rfl,rfl⟩:=f;have⟨t,off,s,v,fz,b,_⟩:=d.lx;exact iO.pure g (by simp[execOp,i,b]) (b▸d)
 ·obtain⟨rfl,rfl⟩:=f;have⟨u,b,_⟩:=d.qU;exact iO.pure g (by simp[execOp,i,b]) (b▸d)
theorem EZ(iU:iG P cx){d:ab}{g:ah}(p:St cx base w.heap μ h)(C:jY w.heap μ G e a.tmps)(x:o.op= .makeInterface d g){f:T}{k:H}
 (b:z7 d g cx G e h=some (.val f k)):iO cx base w μ h.size ((execOp a.eval o).run P w) f k:=by
 have⟨q,y,b⟩:=dB.1 b;have⟨K,j,L,E,s,F,I,l,_⟩:=(iU.ty d q y).unfold;have A:∀{i:H},(M (fq cx G e g) λa=>fQ a.fg (val h (some (.iface d a))))=some (.val f i)->(∀n,j≠ .interface n)->iO cx base w μ h.size ((execOp a.eval o).run P w) f i:=by
  intro i b v;have⟨r,t,b⟩:=dB.1 b;have⟨_,b⟩:=dJ.1 b;obtain⟨m,rfl⟩:=fF.1 b;simp at m;subst m;refine iO.pure (c:= .iface d (a.eval g)) p ?_ (.iface d r _ (fN p C t));simp only[execOp,x,Instr.makeInterface,Sem.run_bind,run_underlying s,Result.andThen_ok];cases j<;>first|rfl|exact absurd rfl (v _)
 cases z:q.u<;>rw[z]at b l<;>first|(exact A b (by rintro n rfl;simp[ze]at l))|grind
theorem G5{j:Fn}{first g:af ah}(m:St cx base w.heap μ h)(s:jY w.heap μ G e a.tmps)(q:o.op= .makeFunc j first g){f:T}{k:H}
 (b:Cr j first g cx G e h=some (.val f k)):iO cx base w μ h.size ((execOp a.eval o).run P w) f k:=by
 unfold Cr at b;split at b
 ·rename_i i;split at b
  ·rename_i t;obtain⟨n,p,b⟩:=dB.1 b;obtain⟨d,rfl⟩:=fF.1 b;simp at d;subst d;have l:=u5 m s p;refine iO.pure (c:= .func (.func i) #[] (g.map a.eval)) m ?_ (.func i n _ (by simpa using l.1.symm) λr f d=>?_)
   ·have:first= #[]:=by grind
    simp[execOp,q,Instr.makeFunc,this]
   ·have:=l.2 r f d;simp_all
  grind
 grind
theorem Cs{j:ah}{f:Nat}(g:St cx base w.heap μ h)(t:jY w.heap μ G e a.tmps)(q:o.op= .extract j f){i:T}{d:H}
 (b:tJ j f cx G e h=some (.val i d)):iO cx base w μ h.size ((execOp a.eval o).run P w) i d:=by
 have⟨k,m,b⟩:=dB.1 b;have n:=fN g t m;cases k<;>simp at b;obtain⟨s,rfl⟩:=fF.1 b;have⟨u,r,l⟩:=n.zK;have⟨c,v,p⟩:=l.get s;exact iO.pure g (by simp only[execOp,q,r,Instr.extract];simp_all) p
end
end
section
section
variable {P:ai}{cx:Ctx}{base:Nat}{w:World}{μ:Mu}{h:H}{G:Nat}{e:Env}{a:Act}{o:Oper}{hp:af Obj}
def ug{i j g:T}{f:ak->Int->Int->aa T}(h:wB i j f=some g):∃b c d,i= .int b c/\j= .int b d/\f b c d=some g:=by
 unfold wB at h;split at h
 ·rename_i b c;split at h
  ·rename_i m d;obtain⟨k,l⟩:=dJ.1 h;rw[xq]at k;grind
  grind
 grind
def uJ{j k i:T}{f:ak->Int->Nat->aa T}(h:zi j k f=some i):∃c d g b,j= .int c d/\k= .int g (.ofNat b)/\f c d (min b c.bits)=some i:=by
 unfold zi at h;split at h
 ·rename_i c d;split at h
  ·rename_i g b;cases b with
   |ofNat b=>grind
   |negSucc b=>grind
  grind
 grind
def Fh{j k i:T}{l:Int->Int->Bool}{m:List Nat->List Nat->Bool}(h:Ja j k l m=some i):
 (∃b c d,j= .int b c/\k= .int b d/\i= .bool (l c d))\/(∃f g,j= .str f/\k= .str g/\i= .bool (m f g)):=by
 unfold Ja at h;split at h
 ·rename_i b c;split at h
  ·rename_i q d;obtain⟨n,p⟩:=dJ.1 h;rw[xq]at n;subst n;rw[qJ]at p;grind
  grind
 ·rename_i f;split at h
  ·rename_i g;rw[qJ]at h;grind
  grind
 grind
def nQ(b:List Nat):(bytesOf b).toList=b.map UInt8.ofNat:=by
 rw[ByteArray.toList_eq];rfl
def jH(b:List Nat):(bytesOf b).size=b.length:=by simp[bytesOf,ByteArray.size]
theorem ofNat_inj{b c:Nat}(d:b<256)(f:c<256)(h:UInt8.ofNat b=UInt8.ofNat c):b=c:=by
 have:=bG UInt8.toNat h;rwa[jo d,jo f]at this
theorem Di{c b:List Nat}(g:∀d∈c,d<256)(ht:∀d∈b,d<256)(h:c.map UInt8.ofNat=b.map UInt8.ofNat):c=b:=by
 induction c generalizing b with
 |nil=>simp_all
 |cons d c j=>cases b with
  |nil=>grind
  |cons k b=>
   simp only[aP,bI]at h;rw[ofNat_inj (g d J) (ht k J) h.1,j (λf i=>g f (by grind)) (λf i=>ht f (by grind)) h.2]
def yE{b c:List Nat}(f:∀d∈b,d<256)(ht:∀d∈c,d<256):((bytesOf b).toList==(bytesOf c).toList)=Uk b c:=by
 rw[xw,nQ,nQ,bg,beq_iff_eq,beq_iff_eq]
 grind [Di]
def B8(b:Nat)(d:List Nat)(c:Nat)(f:List Nat):Qf (b::d) (c::f)=(decide (b<c)||(b==c&&Qf d f)):=by
 show @Bool.rec (λ_=>Bool) (@Bool.rec (λ_=>Bool) false (Qf d f) (Nat.beq b c)) true (Nat.blt b c)=_;have g:Nat.blt b c=decide (b<c):=by rw[bg,aF];simp
 have i:Nat.beq b c=(b==c):=by rw[bg,Nat.beq_eq];simp
 rw[g,i];cases decide (b<c)<;>cases (b==c)<;>rfl
def yv{d c:List Nat}(i:∀b∈d,b<256)(ht:∀b∈c,b<256):Op.bytesLess (bytesOf d).toList (bytesOf c).toList=Qf d c:=by
 rw[nQ,nQ];induction d generalizing c with
 |nil=>cases c<;>rfl
 |cons b d p=>cases c with
  |nil=>rfl
  |cons f c=>
   have l:=i b J;have m:=ht f J;rw[B8];simp only[aP,Op.bytesLess];rw[p (λg n=>i g (by grind)) (λg n=>ht g (by grind))];have j:(decide (UInt8.ofNat b<UInt8.ofNat f))=decide (b<f):=by
    rw[bg,decide_eq_true_iff,decide_eq_true_iff,UInt8.lt_iff_toNat_lt,jo l,jo m]
   have k:(UInt8.ofNat b==UInt8.ofNat f)=(b==f):=by
    rw[bg,beq_iff_eq,beq_iff_eq]
    grind [ofNat_inj]
   rw[j,k]
def D2(c b:List Nat):(Qf c b||Uk c b)= !Qf b c:=by
 induction c generalizing b with
 |nil=>cases b<;>rfl
 |cons f c d=>cases b with
  |nil=>rfl
  |cons g b=>
   rw[B8,B8,xw,List.cons_beq_cons,<-xw];have:=d b
   grind
def CT(b c:List Nat):bytesOf (b++c)=bytesOf b++bytesOf c:=by
 apply ByteArray.ext;simp[bytesOf,ByteArray.data_append]
def Hv{p:BinOp}{i q l:T}{y A:am}(x:ab)(W:p≠ .eql)(Y:p≠ .neq)(u:eK hp μ i y)(v:eK hp μ q A)(b:binop p i q=some l):
 ∃j,(binOp p x y A).run P w= .ok j w/\eK hp μ l j:=by
 have gF:∀{t:ak->Int->Int->aa T},wB i q t=some l->
  (∀k d c,t k d c=some l->∃j,(binOp p x (.int k d) (.int k c)).run P w= .ok j w/\eK hp μ l j)->∃j,(binOp p x y A).run P w= .ok j w/\eK hp μ l j:=by
  intro t L V;obtain⟨k,d,c,rfl,rfl,m⟩:=ug L;rw[u.jI,v.jI];exact V k d c m
 have z:∀{t:Int->Int->Bool} {K:List Nat->List Nat->Bool},Ja i q t K=some l->
  (∀k d c,(binOp p x (.int k d) (.int k c)).run P w= .ok (.bool (t d c)) w)->
  (∀f g,(∀i∈f,i<256)->(∀i∈g,i<256)->(binOp p x (.string (bytesOf f)) (.string (bytesOf g))).run P w= .ok (.bool (K f g)) w)->∃j,(binOp p x y A).run P w= .ok j w/\eK hp μ l j:=by
  intro t K L C m;rcases Fh L with⟨k,d,c,rfl,rfl,rfl⟩|⟨f,g,rfl,rfl,rfl⟩
  ·rw[u.jI,v.jI];exact⟨_,C k d c,.bool _⟩
  ·have⟨G,E⟩:=u.kz;have⟨I,F⟩:=v.kz;rw[G,I];exact⟨_,m f g E F,.bool _⟩
 cases p with
 |eql=>exact absurd rfl W
 |neq=>exact absurd rfl Y
 |add=>
  have b:R3 i q=some l:=b;by_cases Q:∃f,i= .str f
  ·obtain⟨f,rfl⟩:=Q;by_cases R:∃g,q= .str g
   ·obtain⟨g,rfl⟩:=R;have b:(M (AV f g) λO=>fQ (Nat.ble (kv O) 4294967296) (some (T.str O)))=some l:=b;have⟨O,C,b⟩:=dB.1 b;have⟨hl,b⟩:=dJ.1 b;simp at C b;subst C;subst b;have hl:=aU hl;rw[jz,bh]at hl;have⟨G,E⟩:=u.kz;have⟨I,F⟩:=v.kz;rw[G,I];refine⟨.string (bytesOf (f++g)),?_,.str _ (by intro j n;rcases List.mem_append.1 n with k|k;exact E j k;exact F j k)⟩;rw[CT];have U:¬(((bytesOf f).size+(bytesOf g).size:Nat):Int)>IntKind.i64.max:=by
     rw[jH,jH];have:IntKind.i64.max=9223372036854775807:=dt;rw[this];omega
    simp only[binOp,Op.stringOp,U,bo,Sem.run_pure]
   ·exfalso;unfold R3 at b;cases q<;>first|(simp at b;done)|exact R ⟨_,rfl⟩
  ·have b:wB i q (λk a S=>pj k (a+S))=some l:=by
    unfold R3 at b;cases i<;>first|exact b|exact absurd ⟨_,rfl⟩ Q
   refine gF b λk d c h=>?_;rw[xX]at h;simp at h;subst h;exact⟨_,by simp[binOp,Op.intArith],.int _ _⟩
 |sub=>
  refine gF b λk d c h=>?_;rw[xX]at h;simp at h;subst h;exact⟨_,by simp[binOp,Op.intArith],.int _ _⟩
 |mul=>
  refine gF b λk d c h=>?_;rw[xX]at h;simp at h;subst h;exact⟨_,by simp[binOp,Op.intArith],.int _ _⟩
 |quo=>
  refine gF b λk d c h=>?_;cases n:Qh c 0 with
  |true=>rw[n]at h;simp at h
  |false=>
   rw[n]at h;have N:¬c=0:=by rw[xx]at n;simpa using n
   simp only[xX]at h;simp at h;subst h;exact⟨_,by simp[binOp,Op.intDiv,N],.int _ _⟩
 |rem=>
  refine gF b λk d c h=>?_;cases n:Qh c 0 with
  |true=>rw[n]at h;grind
  |false=>
   rw[n]at h;have N:¬c=0:=by rw[xx]at n;grind
   simp only[nV]at h;simp at h;subst h;exact⟨_,by simp[binOp,Op.intDiv,N],.int _ _⟩
 |and=>
  refine gF b λk d c h=>?_;rw[nV]at h;simp only[ar]at h;subst h;exact⟨_,by simp[binOp,Op.intBits],.int _ _⟩
 |or=>
  refine gF b λk d c h=>?_;rw[nV]at h;simp only[ar]at h;subst h;exact⟨_,by simp[binOp,Op.intBits],.int _ _⟩
 |xor=>
  refine gF b λk d c h=>?_;rw[nV]at h;simp only[ar]at h;subst h;exact⟨_,by simp[binOp,Op.intBits],.int _ _⟩
 |shl=>
  have b:zi i q (λk a c=>xe k (k.wrap (a*2^c)))=some l:=b;obtain⟨k,d,ae,c,rfl,rfl,m⟩:=uJ b;rw[u.jI,v.jI];rw[nV]at m;simp only[ar]at m;subst m;have X:¬((c:Nat):Int)<0:=B;exact⟨_,by rfl,.int _ _⟩
 |shr=>
  have b:zi i q (λk a c=>xe k (a.fdiv (2^c)))=some l:=b;obtain⟨k,d,ae,c,rfl,rfl,m⟩:=uJ b;rw[u.jI,v.jI];rw[nV]at m;simp only[ar]at m;subst m;have X:¬((c:Nat):Int)<0:=B;exact⟨_,by rfl,.int _ _⟩
 |lss=>exact z b (λk d c=>by simp[binOp,Op.intCmp,xm]) (λf g r s=>by simp only[binOp,Op.stringOp,yv r s,Sem.run_pure])
 |leq=>exact z b (λk d c=>by simp only[binOp,Op.intCmp,xm,ne_eq,not_true,bo,Sem.run_pure];congr 2;rw[bg];simp) (λf g r s=>by simp only[binOp,Op.stringOp,yv r s,yE r s,Sem.run_pure,D2])
 |gtr=>exact z b (λk d c=>by simp[binOp,Op.intCmp,xm]) (λf g r s=>by simp only[binOp,Op.stringOp,yv r s,yE r s,Sem.run_pure,D2,Bool.not_not])
 |geq=>exact z b (λk d c=>by simp only[binOp,Op.intCmp,xm,ne_eq,not_true,bo,Sem.run_pure];congr 2;rw[bg];simp) (λf g r s=>by simp only[binOp,Op.stringOp,yv r s,Sem.run_pure])
 |_=>grind [binop]
def Dt{b:BinOp}{i:ab}{j k:ah}{c d:am}(f:b≠ .eql)(g:b≠ .neq):(eqGuard b i j k c d).run P w= .ok () w:=by
 cases b<;>first|(exact absurd rfl f)|(exact absurd rfl g)|(simp[eqGuard])
def IQ{c:BinOp}{k t:ab}{m n:ah}(g:c≠ .eql)(i:c≠ .neq)(d:St cx base w.heap μ h)(j:jY w.heap μ G e a.tmps)(p:o.op= .binOp c k m n t){l:T}{f:H}
 (b:LQ c m n cx G e h=some (.val l f)):iO cx base w μ h.size ((execOp a.eval o).run P w) l f:=by
 have⟨u,hp,b⟩:=dB.1 b;have⟨v,q,b⟩:=dB.1 b;obtain⟨r,rfl⟩:=fF.1 b;have⟨x,s,hr⟩:=Hv (P:=P) (w:=w) k g i (fN d j hp) (fN d j q) r;refine iO.pure d ?_ hr;simp only[execOp,p,Sem.run_bind,Dt g i,Result.andThen_ok,s,Sem.run_pure]
theorem LM{d:UnOp}{r:ab}{m:ah}(f:St cx base w.heap μ h)(q:jY w.heap μ G e a.tmps)(j:o.op= .unOp d r m){l:T}{g:H}
 (c:hUn d m cx G e h=some (.val l g)):iO cx base w μ h.size ((execOp a.eval o).run P w) l g:=by
 obtain⟨k,hp,c⟩:=dB.1 c;obtain⟨b,rfl⟩:=fF.1 c;have i:=fN f q hp;cases d with
 |neg=>
  cases k<;>simp[unop]at b;subst b;exact iO.pure f (by simp[execOp,j,i.jI,Op.unary,Op.intArith]) (.int _ _)
 |not=>
  cases k<;>simp[unop]at b;rename_i n;have p:=i.pI;cases n<;>simp at b<;>subst b<;>exact iO.pure f (by simp[execOp,j,p,Op.unary]) (.bool _)
 |_=>simp[unop]at b
end
end
section
section
variable {P:ai}{cx:Ctx}{base:Nat}{w:World}{μ:Mu}{h:H}{G:Nat}{e:Env}{a:Act}{o:Oper}{hp:af Obj}
def j3{c:ab}{d:Ty}(h:uq P c d):∃b,P.underlying c=some b/\ze P b=some d.u:=by
 have⟨i,b,j,_,f,_,_,g,_⟩:=h.unfold
 grind
def xQ{b:TypeDesc}{c:ak}(h:ze P b=some (.int c)):b= .int c:=by
 cases b<;>simp only[ze]at h<;>first|(split at h<;>simp at h;done)|(simp at h;done)|grind
def Mz{b:TypeDesc}(h:ze P b=some .bool):b= .bool:=by
 cases b<;>simp only[ze]at h<;>first|rfl|(split at h<;>simp at h;done)|(simp at h;done)
theorem oX{b:TypeDesc}(h:ze P b=some .str):b= .string:=by
 cases b<;>simp only[ze]at h<;>first|rfl|(split at h<;>simp at h;done)|(simp at h;done)
def mc{b:TypeDesc}{e:ab}(h:ze P b=some (.slice e)):b= .slice e:=by
 cases b<;>simp only[ze]at h<;>first|(split at h<;>simp at h;done)|(simp at h;done)|grind
def qq{b:TypeDesc}{c:Nat}{e:ab}(h:ze P b=some (.array c e)):b= .array c e:=by
 cases b<;>simp only[ze]at h<;>first|(split at h<;>simp at h;done)|(simp at h;done)|grind
def Qp{b:TypeDesc}{e:ab}(h:ze P b=some (.ptr e)):b= .pointer e:=by
 cases b<;>simp only[ze]at h<;>first|(split at h<;>simp at h;done)|(simp at h;done)|grind
def My{b:TypeDesc}(h:ze P b=some .func):∃c d f,b= .func c d f:=by
 cases b<;>simp only[ze]at h<;>first|(split at h<;>simp at h;done)|(simp at h;done)|simp
def KP{b:TypeDesc}(h:ze P b=some .iface):∃c,b= .interface c:=by
 cases b<;>simp only[ze]at h<;>first|(split at h<;>simp at h;done)|(simp at h;done)|simp
def qG{d:TypeDesc}{g:List (Nat×ab)}(h:ze P d=some (.struct g)):
 ∃c,d= .struct c/\g=c.toList.map (λb=>(b.offset,b.type))/\∀b∈c.toList,∃f,P.info? b.type=some f/\f.size≠0:=by
 cases d<;>simp only[ze]at h<;>try (simp at h;done)
 rename_i c;split at h
 ·rename_i j;simp only[ar,U.struct.injEq]at h;refine⟨c,rfl,h.symm,λb k=>?_⟩;have:=List.all_eq_true.1 j b k;cases i:P.info? b.type with
  |none=>rw[i]at this;grind
  |some f=>rw[i]at this;grind
 grind
def bytes_beq{b c:List Nat}(f:∀d∈b,d<256)(ht:∀d∈c,d<256):(bytesOf b==bytesOf c)=Uk b c:=by
 rw[beq_toListBytes,yE f ht]
def uh{l:ab}{p:TypeDesc}{t:U}{j g:T}{n s:am}{m:Bool}(d:P.underlying l=some p)(k:ze P p=some t)(i:eK hp μ j n)(f:eK hp μ g s)
 (b:oe t j g=some m) (I:Nat):(Op.equalIn (I+1) l n s).run P w= .ok m w:=by
 unfold oe at b;split at b
 ·have:=xQ k;subst this;cases j<;>simp at b;cases g<;>simp at b;obtain⟨q,r⟩:=dJ.1 b;rw[xq]at q;subst q;simp at r;subst r;rw[i.jI,f.jI];simp[Op.equalIn,run_underlying d,xx]
 ·have:=Mz k;subst this;cases j<;>simp at b;cases g<;>simp at b;rename_i K L;rw[i.pI,f.pI];cases K<;>cases L<;>simp at b<;>subst b<;>simp[Op.equalIn,run_underlying d]
 ·have:=oX k;subst this;cases j<;>simp at b;cases g<;>simp at b;subst b;obtain⟨F,y⟩:=i.kz;obtain⟨G,z⟩:=f.kz;rw[F,G];simp[Op.equalIn,run_underlying d,bytes_beq y z]
 ·have:=Qp k;subst this;cases j<;>simp at b
  ·rw[i.pH];cases g<;>simp at b<;>subst b
   ·rw[f.pH];simp[Op.equalIn,run_underlying d]
   ·obtain⟨u,v,c,_⟩:=f.o7;rw[c];simp[Op.equalIn,run_underlying d]
   ·obtain⟨A,off,x,l,fz,c,_⟩:=f.lx;rw[c];simp[Op.equalIn,run_underlying d]
  ·obtain⟨u,v,c,_⟩:=i.o7;cases g<;>simp at b;subst b;rw[f.pH,c];simp[Op.equalIn,run_underlying d]
  ·obtain⟨A,off,x,l,fz,c,_⟩:=i.lx;cases g<;>simp at b;subst b;rw[f.pH,c];simp[Op.equalIn,run_underlying d]
 ·obtain⟨N,O,Q,rfl⟩:=My k;cases j<;>simp at b
  ·obtain⟨C,c,_⟩:=i.qU;cases g<;>simp at b;subst b;rw[f.tH,c];simp[Op.equalIn,run_underlying d]
  ·rw[i.tH];cases g<;>simp at b<;>subst b
   ·obtain⟨C,c,_⟩:=f.qU;rw[c];simp[Op.equalIn,run_underlying d]
   ·rw[f.tH];simp[Op.equalIn,run_underlying d]
 ·obtain⟨M,rfl⟩:=KP k;cases j<;>simp at b
  ·rw[i.tF];cases g<;>simp at b<;>subst b
   ·rw[f.tF];simp[Op.equalIn,run_underlying d]
   ·obtain⟨E,c⟩:=f.wj;rw[c];simp[Op.equalIn,run_underlying d]
  ·obtain⟨E,c⟩:=i.wj;cases g<;>simp at b;subst b;rw[f.tF,c];simp[Op.equalIn,run_underlying d]
 grind
def Du(b:Nat×ab)(d:List (Nat×ab))(c:Nat)(j:T)(g:List T)(k:T)(f:List T):eqFields cx (b::d) c (j::g) (k::f)=
 fQ (Nat.beq b.1 c) (M (cx.ty b.2) λi=>fQ i.u.plain (M (oe i.u j k) λl=> @Bool.rec (λ_=>aa Bool) (some false) (eqFields cx d (c+1) g f) l)):=rfl
def run_part_plain{g:ab}{b:Ty}(h:uq P g b)(hp:b.u.plain=true){d:af am}{f:Nat}{c:am}(j:d[f]? =some c):(part g d f).run P w= .ok c w:=by
 have i:b.isAgg=false:=by
  unfold Ty.isAgg;cases k:b.u<;>simp[k,U.plain]at hp<;>rfl
 simp[part,h.sO,i,j]
def CE(iU:iG P cx)(t:Nat):∀(m:List Field) (c:Nat) (g i:List T) (j l:af am) (f:Bool),
 fX hp μ g (j.toList.drop c)->fX hp μ i (l.toList.drop c)->(∀d∈m,d.name≠ "_")->eqFields cx (m.map λd=>(d.offset,d.type)) c g i=some f->
 (Op.eqFields (t+1) j l m).run P w= .ok f w:=by
 intro m;induction m with
 |nil=>
  intro c g i j l f _ _ _ b;have:f=true:=by simpa[eqFields]using b.symm
  subst this;simp[Op.eqFields]
 |cons d m U=>
  intro c g i j l f r s q b;rw[aP]at b;cases g with
  |nil=>simp[eqFields]at b
  |cons W g=>cases i with
   |nil=>simp[eqFields]at b
   |cons X i=>
    rw[Du]at b;have⟨z,b⟩:=dJ.1 b;have⟨ae,A,b⟩:=dB.1 b;have⟨p,b⟩:=dJ.1 b;have⟨V,C,b⟩:=dB.1 b;have O:d.offset=c:=aC z;have⟨u,E,R⟩:=r.get (k:=0) (v:=W) J;have⟨x,G,S⟩:=s.get (k:=0) (v:=X) J;have F:j[c]? =some u:=by simpa using E
    have K:l[c]? =some x:=by simpa using G
    have n:=iU.ty _ _ A;have⟨Y,I,Q⟩:=j3 n;have L:=uh (P:=P) (w:=w) I Q R S C t;have N:d.name≠ "_" :=q d J;simp only[Op.eqFields,N,ne_eq,not_false_eq_true,bj,Sem.run_bind,O,run_part_plain n p F,run_part_plain n p K,Result.andThen_ok,L];cases V with
    |false=>
     have:f=false:=by simpa using b.symm
     subst this;simp
    |true=>
     simp only[Bool.not_true,cd,bo];refine U (c+1) g i j l f ?_ ?_ (λy M=>q y (by simp[M])) b
     ·have:=r.drop 1;simpa[cI,Nat.add_comm]using this
     ·have:=s.drop 1;simpa[cI,Nat.add_comm]using this
def Dv{e:ab}{l:Ty}(m:uq P e l)(n:l.u.plain=true)(r:Nat):∀(g d:List T) (f:Nat) (i j:af am) (c:Bool),
 fX hp μ g (i.toList.drop f)->fX hp μ d (j.toList.drop f)->yF l.u g d=some c->(Op.eqItems (r+1) e 1 i j (List.range' f g.length)).run P w= .ok c w:=by
 intro g;induction g with
 |nil=>
  intro d f i j c _ _ b;have:c=true:=by
   cases d with
   |nil=>have b:some true=some c:=b;simpa using b.symm
   |cons=>simp[yF]at b
  subst this;simp[Op.eqItems]
 |cons s g O=>
  intro d f i j c p q b;cases d with
  |nil=>simp[yF]at b
  |cons t d=>
   have b:(M (oe l.u s t) λR=> @Bool.rec (λ_=>aa Bool) (some false) (yF l.u g d) R)=some c:=b;have⟨Q,z,b⟩:=dB.1 b;have⟨x,A,L⟩:=p.get (k:=0) (v:=s) J;have⟨y,E,N⟩:=q.get (k:=0) (v:=t) J;have C:i[f]? =some x:=by simpa using A
   have G:j[f]? =some y:=by simpa using E
   have⟨S,F,K⟩:=j3 m;have I:=uh (P:=P) (w:=w) F K L N z r;rw[aY,List.range'_succ];simp only[Op.eqItems,Sem.run_bind,Nat.mul_one,run_part_plain m n C,run_part_plain m n G,Result.andThen_ok,I];cases Q with
   |false=>
    have:c=false:=by simpa using b.symm
    subst this;simp
   |true=>
    simp only[Bool.not_true,cd,bo];refine O d (f+1) i j c ?_ ?_ b
    ·have:=p.drop 1;simpa[cI,Nat.add_comm]using this
    ·have:=q.drop 1;simpa[cI,Nat.add_comm]using this
theorem Hc{f:BinOp}{g:ab}{b c:ah}(d:(Region.isConst b||Region.isConst c)=true):(eqGuard f g b c .nilIface .nilIface).run P w= .ok () w:=by
 unfold eqGuard;cases b<;>cases c<;>simp[Region.isConst]at d<;>simp
def Eb(iU:iG P cx){neg:Bool}{I:BinOp}{t u:ab}{F y:ah}(f:I=(if neg then BinOp.neq else BinOp.eql))(s:St cx base w.heap μ h)(r:jY w.heap μ G e a.tmps)
 (ce:o.op= .binOp I t F y u) {v:T} {aN:H} (C:VT neg t F y cx G e h=some (.val v aN)):iO cx base w μ h.size ((execOp a.eval o).run P w) v aN:=by
 obtain⟨eh,c7,C⟩:=dB.1 C;obtain⟨K,hp,C⟩:=dB.1 C;obtain⟨x,U,C⟩:=dB.1 C;obtain⟨bl,C⟩:=dJ.1 C;obtain⟨A,b,C⟩:=dB.1 C;obtain⟨bs,rfl⟩:=fF.1 C;have q:=fN s r hp;have j:=fN s r U;have c6:=iU.ty _ _ c7;have b8:v= .bool (if neg then !A else A):=by
  rw[qJ]at bs;cases neg<;>simpa using bs.symm
 subst b8;have bu:(eqGuard I t F y (a.eval F) (a.eval y)).run P w= .ok () w/\(binOp I t (a.eval F) (a.eval y)).run P w= .ok (.bool (if neg then !A else A)) w:=by
  obtain⟨i,d,z,_,S,_,_,O,_,_,_,_,aX⟩:=c6.unfold;unfold Mq at b;split at b
  ·rename_i ds ap;rw[ap]at O;obtain⟨aA,rfl,b9,_⟩:=qG O;cases K<;>simp at b;cases x<;>simp at b;obtain⟨an,b⟩:=dJ.1 b;obtain⟨R,N,av⟩:=aX an;obtain⟨p,g,X,_⟩:=q.o8;obtain⟨E,c,bN,_⟩:=j.o8;rw[g,c];refine⟨run_eqGuard_agg w I t F y p E N,?_⟩;have a8:P.fieldsOf t=aA:=by simp[Program.fieldsOf,S]
   have m:(Op.equalIn 10000 t (.agg p) (.agg E)).run P w= .ok A w:=by
    rw[run_equalIn_struct w 9999 t p E (by rw[a8];exact S) R,a8];rw[b9]at b;refine CE iU 9998 aA.toList 0 _ _ p E A (by simpa using X) (by grind) ?_ b;intro Y b7;have:=List.all_eq_true.1 av Y b7
    grind
   cases neg with
   |false=>simp at f;subst f;rw[run_eql_struct,m];rfl
   |true=>simp at f;subst f;rw[run_neq_struct,m];rfl
  ·rename_i n e ap;rw[ap]at O;have b6:=qq O;subst b6;cases K<;>simp at b;cases x<;>simp at b;obtain⟨an,b⟩:=dJ.1 b;obtain⟨ef,c4,b⟩:=dB.1 b;obtain⟨cL,b⟩:=dJ.1 b;obtain⟨c1,b⟩:=dJ.1 b;obtain⟨cb,b⟩:=dJ.1 b;obtain⟨R,N,av⟩:=aX an;obtain⟨p,g,X,_⟩:=q.o8;obtain⟨E,c,bN,_⟩:=j.o8;rw[g,c];refine⟨run_eqGuard_agg w I t F y p E N,?_⟩;have bn:=iU.ty _ _ c4;have m:(Op.equalIn 10000 t (.agg p) (.agg E)).run P w= .ok A w:=by
    obtain⟨ec,dn,eo,bk,_,_,_,_,_,_,eb,_⟩:=bn.unfold;rw[run_equalIn_array w 9999 p E S bk,List.range_eq_range'];have cp:P.cellsOf e=1:=by
     have:=aC c1;simp only[Program.cellsOf,bk,cJ,Option.getD_some];omega
    have ca:=aC cb;rw[cp,<-ca];exact Dv bn cL 9998 _ _ 0 p E A (by simpa using X) (by grind) b
   cases neg with
   |false=>simp at f;subst f;rw[run_eql_struct,m];rfl
   |true=>simp at f;subst f;rw[run_neq_struct,m];rfl
  ·have m:=uh (P:=P) (w:=w) S O q j b 9999;have bi:∀k l:am,(k≠ .nilIface\/l≠ .nilIface)->((∀dk,k≠ .agg dk)\/∀dm,l≠ .agg dm)->(eqGuard I t F y k l).run P w= .ok () w:=by
    intro k l aE dv;cases neg with
    |false=>
     simp at f;subst f;cases k<;>cases l<;>first|(simp[eqGuard];done)|(simp at aE;done)|grind
    |true=>
     simp at f;subst f;cases k<;>cases l<;>first|(simp[eqGuard];done)|(simp at aE;done)|grind
   have ea:∀k l:am,(∀V c9 W dd,(k,l)≠(.int V c9,.int W dd))->(∀de di,(k,l)≠(.string de,.string di))->(∀ae L al M,(k,l)≠(.float ae L,.float al M))->(∀ae L R al M N,(k,l)≠(.complex ae L R,.complex al M N))->
    (Op.equalIn 10000 t k l).run P w= .ok A w->(binOp I t k l).run P w= .ok (.bool (if neg then !A else A)) w:=by
    intro k l bz bB bC bH a7;cases neg with
    |false=>
     simp at f;subst f;cases k<;>cases l<;>first|(exact absurd rfl (bz _ _ _ _))|(exact absurd rfl (bB _ _))|(exact absurd rfl (bC _ _ _ _))|(exact absurd rfl (bH _ _ _ _ _ _))|(simp[binOp,Op.equal,Op.maxDepth,a7])
    |true=>
     simp at f;subst f;cases k<;>cases l<;>first|(exact absurd rfl (bz _ _ _ _))|(exact absurd rfl (bB _ _))|(exact absurd rfl (bC _ _ _ _))|(exact absurd rfl (bH _ _ _ _ _ _))|(simp[binOp,Op.equal,Op.maxDepth,a7])
   unfold oe at b;split at b
   ·cases K<;>simp at b;cases x<;>simp at b;obtain⟨V,W⟩:=dJ.1 b;rw[xq]at V;subst V;simp at W;subst W;rw[q.jI,j.jI];refine⟨bi _ _ (.inl J) (.inl J),?_⟩;cases neg<;>simp at f<;>subst f<;>simp[binOp,Op.intCmp,xx,bne]
   ·cases K<;>simp at b;cases x<;>simp at b;rw[q.pI,j.pI]at m|-
    grind
   ·cases K<;>simp at b;cases x<;>simp at b;subst b;obtain⟨g,L⟩:=q.kz;obtain⟨c,M⟩:=j.kz;rw[g,c];refine⟨bi _ _ (.inl J) (.inl J),?_⟩;cases neg<;>simp at f<;>subst f<;>simp[binOp,Op.stringOp,yE L M]
   ·cases K<;>simp at b
    ·have g:=q.pH;rw[g]at m|-;have c:∃Q,a.eval y= .pointer Q:=by
      cases x<;>simp at b
      ·exact⟨_,j.pH⟩
      ·obtain⟨_,Q,U,_⟩:=j.o7;grind
      ·obtain⟨_,_,_,_,_,U,_⟩:=j.lx;grind
     obtain⟨Q,c⟩:=c;rw[c]at m|-
     grind
    ·obtain⟨_,Q,g,_⟩:=q.o7;cases x<;>simp at b;have c:=j.pH;rw[g,c]at m|-
     grind
    ·obtain⟨_,_,_,_,_,g,_⟩:=q.lx;cases x<;>simp at b;have c:=j.pH;rw[g,c]at m|-
     grind
   ·cases K<;>simp at b
    ·obtain⟨p,g,_⟩:=q.qU;cases x<;>simp at b;have c:=j.tH;rw[g,c]at m|-
     grind
    ·have g:=q.tH;have c:(∃Y bS p,a.eval y= .func Y bS p)\/a.eval y= .nilFunc:=by
      cases x<;>simp at b
      ·obtain⟨p,U,_⟩:=j.qU;grind
      ·exact .inr j.tH
     grind
   ·cases K<;>simp at b
    ·have g:=q.tF;cases x<;>simp at b
     ·have c:=j.tF;rw[g,c]at m|-;have bl:(Region.isConst F||Region.isConst y)=true:=bl
      grind [Hc]
     ·obtain⟨bT,c⟩:=j.wj;rw[g,c]at m|-
      grind
    ·obtain⟨bT,g⟩:=q.wj;cases x<;>simp at b;have c:=j.tF;rw[g,c]at m|-
     grind
   grind
 refine iO.pure s ?_ (.bool _);simp only[execOp,ce,Sem.run_bind,bu.1,Result.andThen_ok,bu.2,Sem.run_pure]
end
end
section
section
variable {P:ai}{cx:Ctx}{base:Nat}{w:World}{μ:Mu}{h:H}{G:Nat}{e:Env}{a:Act}{o:Oper}{hp:af Obj}
def kx(b off c:Nat):(⟨b,off,none⟩:Addr).add c=⟨b,off+c,none⟩:=by
 unfold Addr.add;split<;>simp_all
theorem lz(c:T)(b:List T):eY (c::b)=c.cells++eY b:=by simp[eY]
def mI(a b:List T):eY (a++b)=eY a++eY b:=by simp[eY]
def gD{sz:Nat}{b:List T}(d:∀c∈b,c.cells.length=sz):(eY b).length=b.length*sz:=by
 induction b with
 |nil=>simp[eY]
 |cons g b f=>
  rw[lz,bh,f (λc i=>d c (by grind)),d g J,aY,bV];omega
def oO{d:Nat}{b:List T}(g:∀f∈b,f.cells.length=d)(c:Nat):(eY b).drop (c*d)=eY (b.drop c):=by
 induction c generalizing b with
 |zero=>simp
 |succ c k=>cases b with
  |nil=>simp[eY]
  |cons i b=>
   have j:=g i J;rw[lz,bV,Nat.add_comm,<-cI];have:(i.cells++eY b).drop d=eY b:=by rw[<-j];simp
   rw[this,k (λf l=>g f (by grind))];rfl
def qB{g:Nat}{b:List T}(f:∀d∈b,d.cells.length=g)(c:Nat):(eY b).take (c*g)=eY (b.take c):=by
 induction c generalizing b with
 |zero=>simp[eY]
 |succ c j=>cases b with
  |nil=>grind
  |cons k b=>
   have i:=f k J;rw[lz,List.take_succ_cons,lz,<-j (λd l=>f d (by grind)),bV,List.take_append,i]
   grind
structure r8(hp:af Obj)(μ:Mu)(iE off:Nat)(cs:List T):Prop where
 row:∃arr t fz,hp[iE]? =some (.cells arr t fz)/\off+cs.length<=arr.size/\∀(k:Nat) v,cs[k]? =some v->eK hp μ v (arr.getD (off+k) Go.undef)
 scalar:∀v∈cs,v.scalar=true
def r8.cell{g off:Nat}{c:List T}(n:r8 w.heap μ g off c){b:Nat}{d:T}(m:c[b]? =some d):∃i,w.cell? ⟨g,off+b,none⟩=some i/\eK w.heap μ d i:=by
 have⟨f,r,fz,j,p,k⟩:=n.row;have q:b<c.length:=by
  grind
 have l:off+b<f.size:=B;refine⟨f[off+b],by simp[World.cell?,j,l],?_⟩;have:=k b d m;simp_all
def r8.take{d off:Nat}{f:List T}(g:r8 hp μ d off f)(m:Nat):r8 hp μ d off (f.take m):=by
 have⟨i,n,fz,j,p,k⟩:=g.row;refine⟨⟨i,n,fz,j,by grind,λl c b=>k l c ?_⟩,λc b=>g.scalar c (br b)⟩;rw[cg]at b
 grind
def r8.drop{g off:Nat}{d:List T}(i:r8 hp μ g off d)(c:Nat)(q:c<=d.length):r8 hp μ g (off+c) (d.drop c):=by
 have⟨j,n,fz,k,p,l⟩:=i.row;refine⟨⟨j,n,fz,k,by grind,λm f b=>?_⟩,λf b=>i.scalar f (bw b)⟩;rw[bJ]at b;have:=l (c+m) f b;rwa[<-cA]at this
def r8.run_loadCells{d off:Nat}{b:List T}(n:r8 w.heap μ d off b):∃i:List am,(loadCells ⟨d,off,none⟩ b.length).run P w= .ok i.toArray w/\fX w.heap μ b i:=by
 have⟨c,t,fz,k,p,l⟩:=n.row;refine⟨(c.toList.drop off).take b.length,?_,?_⟩
 ·have hl:((c.toList.drop off).take b.length).length=b.length:=by grind
  have:=Go.run_loadCells_list (P:=P) w ⟨d,off,none⟩ ((c.toList.drop off).take b.length) (λs j f=>by
   rw[kx];rw[cg]at f;split at f
   ·rw[bJ]at f;simp only[World.cell?,k]
    grind
   grind)
  rwa[hl]at this
 ·refine⟨by grind,λg j m=>?_⟩;have q:g<b.length:=by
   grind
  have:=l g j m;have r:off+g<c.size:=B;simp_all
def xV{s:ab}{c:Ty}{l off:Nat}{f:List T}{k:T}(m:uq P s c)(j:r8 w.heap μ l off f)(b:j4 c f=some k):
 ∃d,(loadVar s ⟨l,off,none⟩).run P w= .ok d w/\eK w.heap μ k d:=by
 unfold j4 at b;cases i:c.isAgg with
 |true=>
  rw[i]at b;have b:(M (takeN c.size f) λj=>some (T.agg j))=some k:=b;obtain⟨y,g,n⟩:=dB.1 b;rw[m6]at g;split at g
  ·rename_i x;simp at g n;subst g;subst n;have r:=j.take c.size;obtain⟨t,q,v⟩:=r8.run_loadCells (P:=P) r;have u:(f.take c.size).length=c.size:=by grind
   rw[u]at q;refine⟨.agg t.toArray,?_,eK.wX B r.scalar⟩;simp[loadVar,m.sO,i,m.run_sizeOf,q]
  grind
 |false=>
  rw[i]at b;have b:lF f 0=some k:=b;rw[ky]at b;obtain⟨d,p,hr⟩:=j.cell b;refine⟨d,?_,hr⟩;have p:w.cell? ⟨l,off,none⟩=some d:=B;simp[loadVar,m.sO,i,p]
def St.rowAt(L:St cx base hp μ h){j m c:Nat}{b:Loc}{d:T}(A:μ j=some b)(f:h.elem j m c=some d):r8 hp μ b.iE (c*b.sz) d.cells/\d.cells.length=b.sz:=by
 have⟨u,E,K⟩:=L.box j b A;unfold H.elem at f;rw[E]at f;obtain⟨R,v,S,O,r,g⟩:=u;have f:fQ (Nat.beq v m) (@Bool.rec (λ_=>aa T) (lF g c) none r)=some d:=f;have⟨_,f⟩:=dJ.1 f;cases r with
 |true=>grind
 |false=>
  have f:g[c]? =some d:=by rw[<-ky];exact f
  have i:=K.plain rfl;have⟨t,M,x,y,z⟩:=i.row;have q:d∈g:=ax f;have p:=i.size d q;have G:c<g.length:=by
   grind
  have Q:=gD i.size;refine⟨⟨⟨t,M,(0,0),x,?_,λs l k=>?_⟩,λl k=>i.scalar l ?_⟩,p⟩
  ·rw[p,y];have:c+1<=b.cap:=by have:=i.room;grind
   calc c*b.sz+b.sz=(c+1)*b.sz:=by rw[bV]
    _<=b.cap*b.sz:=aV _ this
  ·have I:s<d.cells.length:=by
    grind
   have F:(eY g)[c*b.sz+s]? =some l:=by
    have n:=oO i.size c;have:g.drop c=d::g.drop (c+1):=by
     rw[aH G]
     grind
    rw[this,lz]at n;rw[<-bJ,n,cr I];exact k
   have⟨N,C,hr⟩:=z.get F;rw[cg]at C;simp_all
  ·exact List.mem_flatMap.2 ⟨d,q,k⟩
def St.Rp(s:St cx base hp μ h){d f g:Nat}{c:Loc}{i:T}(n:μ d=some c)(b:h.elem d f g=some i):f=c.ep:=by
 have⟨j,p,q⟩:=s.box d c n;unfold H.elem at b;rw[p]at b;obtain⟨u,l,v,t,r,k⟩:=j;have b:fQ (Nat.beq l f) (@Bool.rec (λ_=>aa T) (lF k g) none r)=some i:=b;have⟨m,_⟩:=dJ.1 b;have:=aC m;have:=q.ep
 grind
def Cb{q:ab}{r:Ty}{i f:T}{j:am}(n:uq P q r)(p:St cx base w.heap μ h)(l:eK w.heap μ i j)(b:h.load r i=some f):
 ∃g c,j= .pointer (some g)/\(loadVar q g).run P w= .ok c w/\eK w.heap μ f c:=by
 unfold H.load at b;cases i<;>simp at b
 ·rename_i K O V E;replace b:=dB.1 b;obtain⟨W,m,b⟩:=b;replace b:=dB.1 b;obtain⟨N,d,b⟩:=b;obtain⟨I,g,y,k,_,Q⟩:=l.o7;have R:=p.Rp k m;obtain⟨F,S⟩:=p.rowAt k m;rw[lA]at d;split at d
  ·rename_i x;simp at d;subst d;obtain⟨c,t,u⟩:=xV n (F.drop E x) b
   grind
  grind
 ·rename_i M;obtain⟨L,off,s,G,fz,y,U,v,z,A,hr⟩:=l.lx;obtain⟨c,t,u⟩:=xV n ⟨⟨s,G,fz,v,z,hr⟩,(λf C=>(A f C).1)⟩ b
  grind
theorem GZ(iU:iG P cx){f:ab}{i:ah}(c:St cx base w.heap μ h)(q:jY w.heap μ G e a.tmps)(l:o.op= .load f i){g:T}{d:H}
 (b:G4 f i cx G e h=some (.val g d)):iO cx base w μ h.size ((execOp a.eval o).run P w) g d:=by
 replace b:=dB.1 b;obtain⟨u,n,b⟩:=b;replace b:=dB.1 b;obtain⟨t,hp,b⟩:=b;obtain⟨p,rfl⟩:=fF.1 b;have⟨r,s,m,j,k⟩:=Cb (iU.ty _ _ n) c (fN c q hp) p;exact iO.pure c (by simp[execOp,l,Instr.loadAt,m,Instr.sureAddr,j]) k
def wP(iU:iG P cx){l:ab}{f:Nat}{g:Nat×ab}(b:wt cx l f=some g):∃d c,P.underlying l=some (.struct d)/\d[f]? =some c/\c.offset=g.1/\c.type=g.2/\
 ∃k,P.info? c.type=some k/\k.size≠0:=by
 replace b:=dB.1 b;obtain⟨s,q,b⟩:=b;have⟨t,m,j⟩:=j3 (iU.ty _ _ q);cases r:s.u<;>rw[r]at b j<;>simp at b;obtain⟨d,rfl,p,n⟩:=qG j;subst p;rw[aQ]at b;cases i:d.toList[f]? with
 |none=>rw[i]at b;grind
 |some c=>
  rw[i]at b;simp at b;refine⟨d,c,m,by grind,by rw[<-b],by rw[<-b],n c (ax i)⟩
theorem z8(iU:iG P cx){t:ab}{n:ah}{p:Nat}(m:St cx base w.heap μ h)(Y:jY w.heap μ G e a.tmps)(S:o.op= .fieldAddr t n p){c:T}{q:H}
 (b:oN t n p cx G e h=some (.val c q)):iO cx base w μ h.size ((execOp a.eval o).run P w) c q:=by
 replace b:=dB.1 b;obtain⟨l,O,b⟩:=b;replace b:=dB.1 b;obtain⟨X,hp,b⟩:=b;obtain⟨ap,av,A,C,E,aA,i,F,I⟩:=wP iU O;have r:=fN m Y hp;have s:∀d:Addr,a.eval n= .pointer (some d)->(execOp a.eval o).run P w= .ok (.value (.pointer (some (d.add l.1)))) w:=by
  intro d f;simp[execOp,S,Instr.fieldAt,run_underlying A,C,f,Instr.sureAddr,fieldPlace,sizeOf,typeInfo,F,I,E]
 cases X<;>simp at b
 ·rename_i x z V W;obtain⟨rfl,rfl⟩:=b;obtain⟨u,d,f,L,N,K⟩:=r.o7;refine iO.pure m (s d f) (.ptr x z V (W+l.1) u _ L N λM=>?_);rw[K M,kx,cA]
 ·rename_i al;replace b:=dB.1 b;obtain⟨an,g,b⟩:=b;simp at b;obtain⟨rfl,rfl⟩:=b;obtain⟨y,off,v,ae,fz,f,R,Q,aN,U,hr⟩:=r.lx;rw[lA]at g;split at g
  ·rename_i aE;simp at g;subst g;refine iO.pure m (s _ f) ?_;rw[kx];refine .jh _ y (off+l.1) v ae fz R Q (by grind) (λc j=>U c (bw j)) λk c j=>?_;rw[bJ]at j;have:=hr _ c j;rwa[<-cA]at this
  grind
def Aq{r:ab}{c:Ty}{f:List T}{g:af am}{off:Nat}{k:T}(l:uq P r c)(p:fX hp μ f (g.toList.drop off))(s:∀m∈f,m.scalar=true)(b:j4 c f=some k):
 ∃d,(part r g off).run P w= .ok d w/\eK hp μ k d:=by
 unfold j4 at b;cases j:c.isAgg with
 |true=>
  rw[j]at b;have b:(M (takeN c.size f) λu=>some (T.agg u))=some k:=b;obtain⟨x,i,n⟩:=dB.1 b;rw[m6]at i;split at i
  ·rename_i v;simp at i n;subst i;subst n;refine⟨.agg (g.extract off (off+c.size)),by simp[part,l.sO,j,l.run_sizeOf],eK.wX ?_ λm t=>s m (br t)⟩;have:=p.take c.size;rw[Array.toList_extract]
   grind
  grind
 |false=>
  rw[j]at b;have b:lF f 0=some k:=b;rw[ky]at b;obtain⟨d,q,hr⟩:=p.get b;refine⟨d,?_,hr⟩;have q:g[off]? =some d:=by grind
  simp[part,l.sO,j,q]
theorem E0(iU:iG P cx){j:ab}{d:ah}{f:Nat}(i:St cx base w.heap μ h)(I:jY w.heap μ G e a.tmps)(x:o.op= .field j d f){k:T}{g:H}
 (b:z9 j d f cx G e h=some (.val k g)):iO cx base w μ h.size ((execOp a.eval o).run P w) k g:=by
 replace b:=dB.1 b;obtain⟨l,v,b⟩:=b;replace b:=dB.1 b;obtain⟨Q,A,b⟩:=b;replace b:=dB.1 b;obtain⟨F,hp,b⟩:=b;have⟨N,O,m,n,p,q,_⟩:=wP iU v;have s:=fN i I hp;cases F<;>simp at b;replace b:=dB.1 b;obtain⟨L,c,b⟩:=b;obtain⟨C,rfl⟩:=fF.1 b;have⟨M,y,r,z⟩:=s.o8;rw[lA]at c;split at c
 ·simp at c;subst c;have⟨K,t,u⟩:=Aq (P:=P) (w:=w) (iU.ty _ _ A) (r.drop l.1) (λd E=>z d (bw E)) C;refine iO.pure i ?_ u;simp[execOp,x,Instr.field,run_underlying m,n,y,asAgg,p,q,t]
 grind
def mY{c:T}{g:Nat}(d:mZ c=some g):∃f,c= .int f (.ofNat g):=by
 unfold mZ at d;cases c<;>simp at d;rename_i f b;cases b with
 |ofNat b=>simp_all
 |negSucc b=>grind
theorem EY(iU:iG P cx){E:ab}{p I:ah}(m:St cx base w.heap μ h)(C:jY w.heap μ G e a.tmps)(x:o.op= .index E p I){F:T}{t:H}
 (b:zW E p I cx G e h=some (.val F t)):iO cx base w μ h.size ((execOp a.eval o).run P w) F t:=by
 replace b:=dB.1 b;obtain⟨av,al,b⟩:=b;replace b:=dB.1 b;obtain⟨A,hp,b⟩:=b;replace b:=dB.1 b;obtain⟨q,X,b⟩:=b;replace b:=dB.1 b;obtain⟨f,U,b⟩:=b;obtain⟨k,V⟩:=mY U;obtain⟨d,v,s⟩:=j3 (iU.ty _ _ al);have l:=fN m C hp;have z:=(V▸fN m C X).jI;cases an:av.u<;>rw[an]at b s<;>simp at b
 ·
  have:=oX s;subst this;cases A<;>simp at b;rename_i g;replace b:=dB.1 b;obtain⟨c,a7,b⟩:=b;obtain⟨j,rfl⟩:=fF.1 b;simp at j;subst j;obtain⟨r,K⟩:=l.kz;refine iO.pure (c:= .int .u8 (c:Int)) m ?_ (.int _ _);have a8:f<g.length:=by
   grind
  have R:g[f]=c:=by grind
  have Q:c<256:=K c (by rw[<-R];simp);have S:(bytesOf g)[f]? =some (UInt8.ofNat c):=by
   have Y:f<(bytesOf g).size:=by rw[jH];omega
   rw[getElem?_pos (bytesOf g) f Y];congr 1;show(bytesOf g).data[f]=_
   grind [bytesOf]
  simp[execOp,x,Instr.index,z,asIntOf,run_underlying v,r,S,jo Q]
 ·rename_i n aX;have:=qq s;subst this;cases A<;>simp at b;rename_i aA;replace b:=dB.1 b;obtain⟨ap,y,b⟩:=b;replace b:=dJ.1 b;obtain⟨M,b⟩:=b;replace b:=dB.1 b;obtain⟨aE,i,b⟩:=b;obtain⟨j,rfl⟩:=fF.1 b;obtain⟨aN,r,L,ae⟩:=l.o8;rw[lA]at i;split at i
  ·simp at i;subst i;obtain⟨c,N,O⟩:=Aq (P:=P) (w:=w) (iU.ty _ _ y) (L.drop (f*ap.size)) (λp l=>ae p (bw l)) j;refine iO.pure m ?_ O;rw[aF]at M;have W:¬n<=f:=B;simp[execOp,x,Instr.index,z,asIntOf,run_underlying v,r,W,(iU.ty _ _ y).run_sizeOf,N]
  grind
end
end
section
section
variable {P:ai}{cx:Ctx}{base:Nat}{w:World}{μ:Mu}{h:H}{G:Nat}{e:Env}{a:Act}{o:Oper}{hp:af Obj}
def St.JF(k:St cx base hp μ h){c:Nat}{b:Loc}{d:iI}(j:μ c=some b)(f:h.get c=some d):d.sz=b.sz/\d.ep=b.ep:=by
 have⟨l,i,g⟩:=k.box c b j;rw[i]at f;simp at f;subst f;exact⟨g.sz,g.ep⟩
def flat_get{d:Nat}{es:List T}(g:∀v∈es,v.cells.length=d){i k:Nat}{v z:T}(j:es[i]? =some v)(m:v.cells[k]? =some z):(eY es)[i*d+k]? =some z:=by
 have c:i<es.length:=by
  grind
 have f:k<v.cells.length:=by
  grind
 have b:=oO g i;have l:es[i]=v:=by rw[ay c]at j;grind
 rw[aH c,l,lz]at b;rw[<-bJ,b,cr f];exact m
def KR{f:T}{d:List T}{j off c g:Nat}{i:af am}{r:ab}{fz:Nat×Nat}{b:T}(y:¬mR μ j)(u:hp[j]? =some (.cells i r fz))
 (k:∀b∈f::d,b.cells.length=c) (z:off+(eY (f::d)).length<=i.size) (s:∀b∈eY (f::d),uC b)
 (hr:∀(m:Nat) b,(eY (f::d))[m]? =some b->eK hp μ b (i.getD (off+m) Go.undef)) (q:(f::d)[g]? =some b):
 eK hp μ (.jh b.cells) (.pointer (some ⟨j,off+g*c,none⟩)):=by
 have p:=ax q;have v:g<(f::d).length:=by
  grind
 have t:=gD k;have x:=k b p;refine .jh b.cells j (off+g*c) i r fz y u ?_ (λn l=>s n (List.mem_flatMap.2 ⟨b,p,l⟩)) λm n l=>?_
 ·rw[x];have:g*c+c<=(eY (f::d)).length:=by
   rw[t]
   calc g*c+c=(g+1)*c:=by rw[bV]
    _<=(f::d).length*c:=aV _ v
  omega
 ·have:=hr _ n (flat_get k q l);rwa[<-cA]at this
theorem zU(iU:iG P cx){t:ab}{x y:ah}(i:St cx base w.heap μ h)(r:jY w.heap μ G e a.tmps)(aE:o.op= .indexAddr t x y){s:T}{M:H}
 (b:oM t x y cx G e h=some (.val s M)):iO cx base w μ h.size ((execOp a.eval o).run P w) s M:=by
 replace b:=dB.1 b;obtain⟨c9,c4,b⟩:=b;replace b:=dB.1 b;obtain⟨p,hp,b⟩:=b;replace b:=dB.1 b;obtain⟨q,aN,b⟩:=b;replace b:=dB.1 b;obtain⟨f,cb,b⟩:=b;obtain⟨k,ce⟩:=mY cb;obtain⟨d,al,a8⟩:=j3 (iU.ty _ _ c4);have U:=fN i r hp;have bi:=(ce▸fN i r aN).jI;cases c6:c9.u<;>rw[c6]at b a8<;>simp at b
 ·rename_i bT;have:=mc a8;subst this;replace b:=dB.1 b;obtain⟨m,a7,b⟩:=b;have R:=(iU.ty _ _ a7).run_sizeOf w;unfold kw at b;cases p<;>simp at b
  ·rename_i F b6;replace b:=dB.1 b;obtain⟨z,bC,b⟩:=b;replace b:=dJ.1 b;obtain⟨hl,b⟩:=b;simp at b;obtain⟨rfl,rfl⟩:=b;have hl:=aC hl;cases F with
   |nil=>grind
   |cons ef F=>
    obtain⟨bl,off,di,c7,bk,bH,fz,L,aA,ap,dv,ds,bB,bz,b9,hr⟩:=U.tz;have c1:c7=m.size:=by rw[<-bB z (ax bC)];exact hl
    have eb:f<F.length+1:=by
     grind
    have ec:¬((F.length:Int)+1<=(f:Int)):=B;refine iO.pure i ?_ (KR aA ap bB bz b9 hr bC);rw[<-kx,c1];have K:¬F.length+1<=f:=B;simp[execOp,aE,Instr.indexAt,bi,asIntOf,run_underlying al,L,R,K]
  ·rename_i A C W l b6;replace b:=dJ.1 b;obtain⟨hl,b⟩:=b;replace b:=dB.1 b;obtain⟨bn,ae,b⟩:=b;replace b:=dJ.1 b;obtain⟨Y,b⟩:=b;replace b:=dJ.1 b;obtain⟨bs,b⟩:=b;simp at b;obtain⟨rfl,rfl⟩:=b;rw[aF]at hl;have Y:=aC Y;have bs:=aC bs;obtain⟨g,v,bS,L,E,O,dn,ca⟩:=U.rX;obtain⟨X,b7⟩:=i.JF E ae;obtain⟨dd,de,bN⟩:=ca B;have cp:bS≠0:=B;rw[bN cp]at L;refine iO.pure (c:= .pointer (some ⟨g.iE,(W+f)*g.sz,none⟩)) i ?_ (.ptr A C (W+f) 0 g _ E O λ_=>by simp);have K:¬l<=f:=B;have b8:(⟨g.iE,W*g.sz,none⟩:Addr).add (f*m.size)=⟨g.iE,(W+f)*g.sz,none⟩:=by
    rw[kx,<-Y,X,bW]
   simp[execOp,aE,Instr.indexAt,bi,asIntOf,run_underlying al,L,R,K,b8]
 ·rename_i n bT;have:=qq a8;subst this;replace b:=dB.1 b;obtain⟨m,a7,b⟩:=b;have R:=(iU.ty _ _ a7).run_sizeOf w;unfold oc at b;replace b:=dJ.1 b;obtain⟨hl,b⟩:=b;rw[aF]at hl;have K:¬n<=f:=B;have aX:∀v:Addr,a.eval x= .pointer (some v)->(execOp a.eval o).run P w= .ok (.value (.pointer (some (v.add (f*m.size))))) w:=by
   intro v aN;simp[execOp,aE,Instr.indexAt,bi,asIntOf,run_underlying al,aN,Instr.sureAddr,R,K]
  cases p<;>simp at b
  ·rename_i A C V j;replace b:=dB.1 b;obtain⟨bn,ae,b⟩:=b;obtain⟨g,v,Q,E,O,bu⟩:=U.o7;obtain⟨X,b7⟩:=i.JF E ae;cases I:Nat.beq bn.sz m.size with
   |false=>
    rw[I]at b;have b:some (kC.val (T.ptr A C V (j+f*m.size)) h)=some (.val s M):=b;simp only[ar,kC.val.injEq]at b;obtain⟨rfl,rfl⟩:=b;refine iO.pure i (aX v Q) (.ptr A C V (j+f*m.size) g _ E O λan=>?_);rw[bu an,kx,cA]
   |true=>
    rw[I]at b;have b:fQ (Nat.beq j 0) (some (kC.val (T.ptr A C (V+f) 0) h))=some (.val s M):=b;replace b:=dJ.1 b;obtain⟨av,b⟩:=b;have av:=aC av;subst av;simp only[ar,kC.val.injEq]at b;obtain⟨rfl,rfl⟩:=b;have I:=aC I;refine iO.pure i (aX v Q) (.ptr A C (V+f) 0 g _ E O λan=>?_);rw[bu an,kx,<-I,X,bW];simp
  ·rename_i dk;replace b:=dB.1 b;obtain⟨dm,N,b⟩:=b;simp at b;obtain⟨rfl,rfl⟩:=b;obtain⟨bl,off,bk,bH,fz,Q,aA,ap,bz,cL,hr⟩:=U.lx;rw[lA]at N;split at N
   ·rename_i ea;simp at N;subst N;refine iO.pure i (aX _ Q) ?_;rw[kx];refine .jh _ bl (off+f*m.size) bk bH fz aA ap (by grind) (λs S=>cL s (bw S)) λk s S=>?_;rw[bJ]at S;have:=hr _ s S;rwa[<-cA]at this
   grind
end
end
section
section
variable {P:ai}{cx:Ctx}{base:Nat}{w:World}{μ:Mu}{h:H}{G:Nat}{e:Env}{a:Act}{o:Oper}{hp:af Obj}
theorem AE(iU:iG P cx){q j:ab}{s:ah}(g:St cx base w.heap μ h)(A:jY w.heap μ G e a.tmps)(n:o.op= .convert q j s){r:T}{k:H}{c:T}
 (d:∃i,cx.ty q=some i) (hp:fq cx G e s=some c) (b:conv cx j c=some r) (x:k=h):iO cx base w μ h.size ((execOp a.eval o).run P w) r k:=by
 subst x;obtain⟨F,d⟩:=d;have⟨E,m,_⟩:=j3 (iU.ty _ _ d);replace b:=dB.1 b;obtain⟨i,y,b⟩:=b;have⟨C,l,f⟩:=j3 (iU.ty _ _ y);have p:=fN g A hp;cases z:i.u<;>rw[z]at b f<;>simp at b
 ·have:=xQ f;subst this;cases c<;>simp at b;subst b;exact iO.pure g (by simp[execOp,n,convert,run_underlying m,run_underlying l,p.jI,Conv.intToInt]) (.int _ _)
 ·have:=oX f;subst this;cases c<;>simp at b;subst b;have⟨v,t⟩:=p.kz;exact iO.pure g (by simp[execOp,n,convert,run_underlying m,run_underlying l,v]) (.str _ t)
def tX{g:aa ah}{c:aa Nat}(p:St cx base w.heap μ h)(n:jY w.heap μ G e a.tmps)(b:jF cx G e g=some c):
 (g=none/\c=none)\/∃d i f,g=some d/\c=some f/\a.eval d= .int i (f:Nat):=by
 cases g with
 |none=>left;simp[jF]at b;grind
 |some d=>
  right;have b:(M (fq cx G e d) λj=>M (mZ j) λc=>some (some c))=some c:=b;replace b:=dB.1 b;obtain⟨j,m,b⟩:=b;replace b:=dB.1 b;obtain⟨f,l,b⟩:=b;simp at b;subst b;have⟨i,k⟩:=mY l;exact⟨d,i,f,rfl,rfl,(k▸fN p n m).jI⟩
def run_sliceBound{d:am}{j:ak}{b:Nat}(i:d= .int j (b:Nat)){c:Nat}(k:b<=c)(f:BoundsCode):(Instr.sliceBound d c f).run P w= .ok b w:=by
 subst i;have g:0<=((b:Nat):Int)/\((b:Nat):Int)<=(c:Int):=⟨B,B⟩;simp only[Instr.sliceBound,asIntOf,Sem.run_bind,Sem.run_pure,Result.andThen_ok,g,and_self,bj];simp
def pO{isS:Bool}{len cap:Nat}{q p r:aa ah}{l d m:aa Nat}
 (n:(q=none/\l=none)\/∃c i b,q=some c/\l=some b/\a.eval c= .int i (b:Nat)) (t:(p=none/\d=none)\/∃c i b,p=some c/\d=some b/\a.eval c= .int i (b:Nat))
 (C:(r=none/\m=none)\/∃c i b,r=some c/\m=some b/\a.eval c= .int i (b:Nat)) (E:∀b,m=some b->b<=cap/\d=some b) (hl:fT l 0<=fT d len) (u:fT d len<=len) (K:len<=cap):
 (Instr.sliceBounds isS len cap (q.map a.eval) (p.map a.eval) (r.map a.eval)).run P w= .ok (fT l 0,fT d len,fT m cap) w:=by
 rcases C with⟨rfl,rfl⟩|⟨M,L,G,rfl,rfl,s⟩
 ·rcases t with⟨rfl,rfl⟩|⟨I,F,k,rfl,rfl,g⟩
  ·rcases n with⟨rfl,rfl⟩|⟨A,z,j,rfl,rfl,f⟩
   ·rfl
   ·have hl:j<=len:=hl;simp[Instr.sliceBounds,fT,run_sliceBound f hl]
  ·have u:k<=len:=u;have v:k<=cap:=B;rcases n with⟨rfl,rfl⟩|⟨A,z,j,rfl,rfl,f⟩
   ·simp[Instr.sliceBounds,fT,run_sliceBound g v]
   ·have hl:j<=k:=hl;simp[Instr.sliceBounds,fT,run_sliceBound g v,run_sliceBound f hl]
 ·have⟨x,y⟩:=E G rfl;rcases t with⟨rfl,rfl⟩|⟨I,F,k,rfl,rfl,g⟩
  ·grind
  ·simp at y;subst y;rcases n with⟨rfl,rfl⟩|⟨A,z,j,rfl,rfl,f⟩
   ·simp[Instr.sliceBounds,fT,run_sliceBound g (au _),run_sliceBound s x]
   ·have hl:j<=k:=hl;simp[Instr.sliceBounds,fT,run_sliceBound g (au _),run_sliceBound s x,run_sliceBound f hl]
def DO(b:Nat):fT none b=b:=rfl
def yL{j:Type}{d g:List j}{c b:Nat}(l:c<=b)(f:I8 d c b=some g):b<=d.length/\g=(d.drop c).take (b-c):=by
 unfold I8 at f;have⟨m,i,k⟩:=dB.1 f;rw[lA]at i
 grind [m6]
def Cy{c:Nat}{b:List T}(f:∀d∈b,d.cells.length=c)(g i:Nat):eY ((b.drop g).take i)=((eY b).drop (g*c)).take (i*c):=by
 rw[oO f,qB (λd j=>f d (bw j))]
def FM{g:T}{f:List T}{m off i:Nat}{l:af am}{t:ab}{fz:Nat×Nat}{b d:Nat}{p:T}{k:List T}{full:Bool}{cap:Nat}(A:¬mR μ m)(x:hp[m]? =some (.cells l t fz))
 (r:∀c∈g::f,c.cells.length=i) (I:off+(eY (g::f)).length<=l.size) (C:∀c∈eY (g::f),uC c)
 (hr:∀(n:Nat) c,(eY (g::f))[n]? =some c->eK hp μ c (l.getD (off+n) Go.undef)) (G:b<=d) (F:d<=(g::f).length) (s:p::k=((g::f).drop b).take (d-b))
 (E:d-b<=cap) (u:full=true->cap=d-b):eK hp μ (.Y (p::k) full) (.slice (some ⟨m,off+b*i,none⟩) (d-b) cap):=by
 have y:k.length+1=d-b:=by
  have:=bG List.length s
  grind
 have v:=gD r;have q:=Cy r b (d-b);rw[<-s]at q;have z:∀c∈p::k,c∈g::f:=λc j=>bw (br (s▸j));rw[<-y];refine .Y p k full m (off+b*i) cap i l t fz A x B (λn=>by rw[u n];omega) (λc j=>r c (z c j)) ?_ ?_ ?_
 ·rw[q];simp only[List.length_take,List.length_drop];have:b*i+(d-b)*i<=(eY (g::f)).length:=by
   rw[v,<-bW];simp_all[aV]
  omega
 ·intro c j;rw[q]at j
  grind
 grind
def AT(d:List Nat)(b c:Nat):(bytesOf d).extract b c=bytesOf ((d.drop b).take (c-b)):=by
 apply ByteArray.ext;have:((bytesOf d).extract b c).data.toList=((bytesOf d).data.toList.drop b).take (c-b):=Lib.extract_data _ _ _;apply ci;rw[this];simp[bytesOf,List.map_take,List.map_drop]
def FP(iU:iG P cx){t:ab}{x:ah}{R I S:aa ah}(U:St cx base w.heap μ h)(bs:o.op= .slice t x R I S){d:Nat}{y:ab}(bi:P.underlying t=some (.array d y)){u:T}
 (bC:eK w.heap μ u (a.eval x)) {g f l:aa Nat}
 (bS:(R=none/\g=none)\/∃m q c,R=some m/\g=some c/\a.eval m= .int q (c:Nat)) (bT:(I=none/\f=none)\/∃m q c,I=some m/\f=some c/\a.eval m= .int q (c:Nat))
 (b6:(S=none/\l=none)\/∃m q c,S=some m/\l=some c/\a.eval m= .int q (c:Nat)) (cp:zI f l=true) (k:jm cx h (.array d y) u=true) {v:T}
 (b:oE (asSlice (.array d y) u) g f l=some v):iO cx base w μ h.size ((execOp a.eval o).run P w) v h:=by
 unfold jm at k;simp only at k;cases L:cx.ty y with
 |none=>rw[L]at k;grind
 |some ap=>
  rw[L]at k;have bB:=(iU.ty _ _ L).run_sizeOf w;have hp:∃n r al j,u= .ptr n r al j:=by cases u<;>first|exact⟨_,_,_,_,rfl⟩|(simp at k)
  obtain⟨n,r,al,j,rfl⟩:=hp;simp only at k;cases G:h.get n with
  |none=>rw[G]at k;grind
  |some V=>
   rw[G]at k;obtain⟨b7,aE,c1,cb,cL,aA⟩:=V;simp only[az,bF]at k;obtain⟨⟨⟨⟨⟨⟨M,an⟩,N⟩,O⟩,bH⟩,bN⟩,Q⟩:=k;have M:=aC M;have an:=aC an;have N:=aC N;have O:=aC O;have Q:=aC Q;rw[jz]at Q;subst N O bH bN;have⟨i,b8,bz,s,X,a7⟩:=bC.o7;have⟨V,F,E⟩:=U.box n i s;rw[G]at F;simp only[ar]at F;subst F;have b9:aE=i.ep:=E.ep;have av:b7=i.sz:=E.sz;have ca:i.cap=aA.length:=(E.plain rfl).sw rfl;have W:=a7 B;simp at W;subst W;have b:uI n r 0 d false (fT g 0) (fT f d) l=some v:=b;unfold uI at b;replace b:=dJ.1 b;obtain⟨K,b⟩:=b;replace b:=dJ.1 b;obtain⟨z,b⟩:=b;have K:=aU K;have z:=aU z;simp only[gX,dS,Nat.add_eq,cB,Nat.sub_eq]at b;have ae:(∀c,l=some c->c=fT f d)->
    (execOp a.eval o).run P w= .ok (.value (.slice (some (if fT l d=fT g 0 then⟨i.iE,0,none⟩else(⟨i.iE,0,none⟩:Addr).add (fT g 0*ap.size))) (fT f d-fT g 0) (fT l d-fT g 0))) w:=by
    intro aX;have s:=pO (P:=P) (w:=w) (isS:=false) (len:=d) (cap:=d) bS bT b6 (by
     intro c bl;have p:=aX c bl;cases f with
     |none=>simp_all[zI]
     |some q=>
      have p:c=q:=p;subst p;have ce:c<=d:=z
      grind) K z (au _)
    simp[execOp,bs,Instr.sliceAt,run_underlying bi,bz,Instr.sureAddr,s,bB]
   have a8:∀C:Nat,(⟨i.iE,0,none⟩:Addr).add (C*ap.size)=⟨i.iE,C*i.sz,none⟩:=by
    intro C;rw[kx,<-M,av];simp
   cases Y:l with
   |none=>
    subst Y;have A:=ae J;have b:some (T.arr n r (fT g 0) (fT f d-fT g 0) false)=some v:=b;simp only[ar]at b;subst b;refine iO.pure U A (.arr _ _ _ _ _ i _ _ s X ?_ λbk=>⟨J,λ_=>?_,λbn=>?_⟩)
    ·grind [fT]
    ·grind [fT]
    grind
   |some c=>
    subst Y;have b:fQ (Nat.beq c (fT f d)) (some (T.arr n r (fT g 0) (fT f d-fT g 0) true))=some v:=b;replace b:=dJ.1 b;obtain⟨p,b⟩:=b;have p:=aC p;simp only[ar]at b;subst b;have A:=ae (by grind);have bu:fT (some c) d=fT f d:=p;rw[bu]at A;refine iO.pure U A (.arr _ _ _ _ _ i _ _ s X (au _) λbk=>⟨λ_=>rfl,J,λbn=>?_⟩);have aN:¬fT f d=fT g 0:=B;rw[ao aN,a8]
theorem EV(iU:iG P cx){t:ab}{x:ah}{eb dk cL:aa ah}(v:St cx base w.heap μ h)(r:jY w.heap μ G e a.tmps)(b7:o.op= .slice t x eb dk cL){s:T}{bH:H}
 (j:Cm t x eb dk cL cx G e h=some (.val s bH)):iO cx base w μ h.size ((execOp a.eval o).run P w) s bH:=by
 replace j:=dB.1 j;obtain⟨ec,eI,j⟩:=j;replace j:=dB.1 j;obtain⟨p,hp,j⟩:=j;replace j:=dJ.1 j;obtain⟨m,j⟩:=j;replace j:=dB.1 j;obtain⟨g,ey,j⟩:=j;replace j:=dB.1 j;obtain⟨i,eu,j⟩:=j;replace j:=dB.1 j;obtain⟨N,eC,j⟩:=j;replace j:=dJ.1 j;obtain⟨dv,j⟩:=j;obtain⟨f,rfl⟩:=fF.1 j;have c1:=tX v r ey;have c4:=tX v r eu;have bC:=tX v r eC;obtain⟨d,bS,bi⟩:=j3 (iU.ty _ _ eI);have av:=fN v r hp;by_cases eo:∃n bk,ec.u= .array n bk
 ·obtain⟨n,bk,cb⟩:=eo;rw[cb]at m bi f;have:=qq bi;subst this;exact FP iU v b7 bS av c1 c4 bC dv m f
 unfold jm at m;cases cb:ec.u<;>rw[cb]at m bi f<;>(try simp at m)
 ·
  have:=oX bi;subst this;replace f:oE p g i N=some s:=f;cases p<;>simp at m;rename_i al;obtain⟨O,ef⟩:=av.kz;unfold oE at f;cases L:N with
  |some k=>rw[L]at f;simp at f
  |none=>
   subst L;have f:fQ (Nat.ble (fT g 0) (fT i (kv al))) (M (I8 al (fT g 0) (fT i (kv al))) λr=>some (T.str r))=some s:=f;rw[jz]at f;replace f:=dJ.1 f;obtain⟨A,f⟩:=f;have A:=aU A;replace f:=dB.1 f;obtain⟨q,b9,f⟩:=f;obtain⟨bs,rfl⟩:=yL A b9;simp at f;subst f;have eB:cL=none:=by rcases bC with⟨S,_⟩|⟨_,_,_,_,S,_⟩;exact S;simp at S
   subst eB;have K:=pO (P:=P) (w:=w) (isS:=false) (len:=al.length) (cap:=al.length) c1 c4 bC J A bs (au _);simp only[Option.map_none]at K;refine iO.pure (c:= .string ((bytesOf al).extract (fT g 0) (fT i al.length))) v ?_ ?_
   ·simp[execOp,b7,Instr.sliceAt,Instr.slice,run_underlying bS,O,jH,K]
   ·rw[AT];exact .str _ λc ap=>ef c (bw (br ap))
 ·rename_i bk;have:=mc bi;subst this;replace f:oE p g i N=some s:=f;cases ca:cx.ty bk with
  |none=>rw[ca]at m;simp at m
  |some aE=>
   rw[ca]at m;have eH:=(iU.ty _ _ ca).run_sizeOf w;have eD:∀k,N=some k->i.isSome=true:=by
    intro k bz;subst bz;cases i with
    |none=>simp[zI]at dv
    |some S=>rfl
   have X:∀(F:aa Addr) (len cap:Nat),a.eval x= .slice F len cap->len<=cap->fT g 0<=fT i len->fT i len<=len->(∀k,N=some k->k=fT i len)->
    (execOp a.eval o).run P w= .ok (.value (.slice (if fT N cap=fT g 0 then F else F.map (·.add (fT g 0*aE.size))) (fT i len-fT g 0) (fT N cap-fT g 0))) w:=by
    intro F len cap R ap an W a7;have K:=pO (P:=P) (w:=w) (isS:=true) (len:=len) (cap:=cap) c1 c4 bC (by
     intro k bz;have bB:=eD k bz;have C:=a7 k bz;cases i with
     |none=>simp at bB
     |some S=>
      have C:k=S:=C;subst C;have W:k<=len:=W;exact⟨B,rfl⟩) an W ap
    simp[execOp,b7,Instr.sliceAt,Instr.slice,run_underlying bS,R,K,eH]
   unfold oE at f;cases p<;>simp at m
   ·rename_i l full;have f:sM l full (fT g 0) (fT i l.length) N=some s:=by rw[<-jz];exact f
    unfold sM at f;replace f:=dJ.1 f;obtain⟨A,f⟩:=f;have A:=aU A;replace f:=dB.1 f;obtain⟨q,b9,f⟩:=f;obtain⟨bs,ae⟩:=yL A b9;cases l with
    |nil=>
     obtain⟨F,O⟩:=av.tv;have eF:q=[]:=by rw[ae];simp
     rw[eF]at f;have di:fT i 0=0:=by simpa using bs
     have dn:fT g 0=0:=by simp only[cK]at A;omega
     cases L:N with
     |none=>
      subst L;have f:some (T.Y [] false)=some s:=f;simp at f;subst f;have:=X F 0 0 O (au _) B B J;refine iO.pure v this ?_;rw[dn,di,DO];exact .mX _ _
     |some k=>
      subst L;have f:fQ (Nat.beq k (fT i 0)) (some (T.Y [] false))=some s:=f;replace f:=dJ.1 f;obtain⟨C,f⟩:=f;have C:=aC C;simp at f;subst f;have:=X F 0 0 O (au _) B B (by intro S a8;simp at a8;omega);refine iO.pure v this ?_;have eA:fT (some k) 0=0:=by show k=0;omega
      rw[dn,di,eA];exact .mX _ _
    |cons U l=>
     obtain⟨eN,off,cap,eL,eM,eO,fz,O,ds,de,dm,et,ce,bB,ap,hr⟩:=av.tz;have ea:eL=aE.size:=by
      have m:Nat.beq (kv U.cells) aE.size=true:=m;have:=aC m;rw[jz]at this;rw[<-this];exact(ce U J).symm
     have bu:fT i (l.length+1)<=l.length+1:=by simpa using bs
     have bn:fT g 0<=fT i (l.length+1):=by simpa using A
     cases L:N with
     |none=>
      subst L;have z:=X _ _ _ O dm bn bu J;cases q with
      |nil=>
       have f:some T.fK=some s:=f;simp at f;subst f;have cp:fT i (l.length+1)-fT g 0=0:=by
        have:=bG List.length ae;simp only[cK,List.length_take,List.length_drop,aY]at this;omega
       rw[cp]at z;exact iO.pure v z (.fK _ _)
      |cons y c6=>
       have f:some (T.Y (y::c6) (@Bool.rec (λ_=>Bool) false (Nat.beq (fT i (U::l).length) (kv (U::l))) full))=some s:=f;have eE:fT g 0<fT i (l.length+1):=by
        have:=bG List.length ae;simp only[aY,List.length_take,List.length_drop]at this;omega
       have Q:¬cap=fT g 0:=B;simp only[DO,Q,bo,cJ,kx]at z;refine iO.pure v z ?_;simp only[ar]at f;rw[<-f,<-ea];have:=FM (full:= @Bool.rec (λ_=>Bool) false (Nat.beq (fT i (U::l).length) (kv (U::l))) full) (cap:=cap-fT g 0) ds de ce bB ap hr bn (by simpa using bu) ae B (by
        intro K;cases full with
        |false=>simp at K
        |true=>
         have K:Nat.beq (fT i (U::l).length) (kv (U::l))=true:=K;have:=aC K;rw[jz]at this;simp only[aY]at this;rw[et rfl,this])
       exact this
     |some k=>
      subst L;have f:fQ (Nat.beq k (fT i (U::l).length)) (@List.rec T (λ_=>aa T) (some (T.Y [] false)) (λ_ _ _=>some (T.Y q true)) q)=some s:=f;replace f:=dJ.1 f;obtain⟨C,f⟩:=f;have C:=aC C;simp only[aY]at C;have z:=X _ _ _ O dm bn bu (by intro S a8;simp at a8;omega);have b8:fT (some k) cap=fT i (l.length+1):=C;rw[b8]at z;cases q with
      |nil=>
       have f:some (T.Y [] false)=some s:=f;simp at f;subst f;have cp:fT i (l.length+1)-fT g 0=0:=by
        have:=bG List.length ae;simp only[cK,List.length_take,List.length_drop,aY]at this;omega
       rw[cp]at z;exact iO.pure v z (.mX _ _)
      |cons y c6=>
       have f:some (T.Y (y::c6) true)=some s:=f;have eE:fT g 0<fT i (l.length+1):=by
        have:=bG List.length ae;simp only[aY,List.length_take,List.length_drop]at this;omega
       have Q:¬fT i (l.length+1)=fT g 0:=B;simp only[Q,bo,cJ,kx]at z;refine iO.pure v z ?_;simp only[ar]at f;rw[<-f,<-ea];exact FM ds de ce bB ap hr bn (by simpa using bu) ae (au _) (λ_=>rfl)
   ·
    obtain⟨F,cap,O⟩:=av.zL;have f:fQ (Nat.beq (fT g 0) 0) (fQ (Nat.beq (fT i 0) 0) (@Option.rec Nat (λ_=>aa T) (some T.fK) (λk=>fQ (Nat.beq k 0) (some (T.Y [] false))) N))=some s:=f;replace f:=dJ.1 f;obtain⟨an,f⟩:=f;replace f:=dJ.1 f;obtain⟨W,f⟩:=f;have an:=aC an;have W:=aC W;cases L:N with
    |none=>
     subst L;have f:some T.fK=some s:=f;simp at f;subst f;have:=X F 0 cap O (aw _) B B J;rw[an,W]at this;exact iO.pure v this (.fK _ _)
    |some k=>
     subst L;have f:fQ (Nat.beq k 0) (some (T.Y [] false))=some s:=f;replace f:=dJ.1 f;obtain⟨a7,f⟩:=f;have a7:=aC a7;simp at f;subst f;subst a7;have:=X F 0 cap O (aw _) B B (by intro S a8;simp at a8;omega);rw[an,W]at this;exact iO.pure v this (.mX _ _)
   ·rename_i b aN aA E full;obtain⟨V,F,I,O,K,bT,c9,bN⟩:=av.rX;have f:uI b aN aA E full (fT g 0) (fT i E) N=some s:=f;unfold uI at f;replace f:=dJ.1 f;obtain⟨A,f⟩:=f;replace f:=dJ.1 f;obtain⟨bl,f⟩:=f;have A:=aU A;have bl:=aU bl;simp only[gX,dS]at f;have er:V.sz=aE.size:=by
     cases b6:bH.get b with
     |none=>rw[b6]at m;simp at m
     |some eh=>
      rw[b6]at m;have m:Nat.beq eh.sz aE.size=true:=m;rw[<-aC m];exact(v.JF K b6).1.symm
    have c7:∀c:Nat,I≠0->aN=V.ep->F.map (·.add (c*aE.size))=some ⟨V.iE,(aA+c)*V.sz,none⟩:=by
     intro c Q R;rw[(bN R).2.2 Q,<-er];simp[kx,bW]
    cases L:N with
    |none=>
     subst L;have z:=X F E I O c9 A bl J;have f:(@Bool.rec (λ_=>aa T) (some (T.arr b aN (aA+fT g 0) (fT i E-fT g 0) false)) (fQ (Nat.beq (fT i E) E) (some (T.arr b aN (aA+fT g 0) (fT i E-fT g 0) true))) full)=some s:=f;cases full with
     |false=>
      simp at f;subst f;refine iO.pure v z (.arr _ _ _ _ _ V _ _ K bT ?_ λR=>⟨J,λ_=>?_,λQ=>?_⟩)
      ·show fT i E-fT g 0<=I-fT g 0;omega
      ·have:=(bN R).2.1 rfl;show aA+fT g 0+(I-fT g 0)=V.cap;omega
      ·have Q:I-fT g 0≠0:=Q;have aX:¬fT none I=fT g 0:=by show¬I=fT g 0;omega
       rw[ao aX];exact c7 _ B R
     |true=>
      replace f:=dJ.1 f;obtain⟨dd,f⟩:=f;have dd:=aC dd;simp at f;subst f;refine iO.pure v z (.arr _ _ _ _ _ V _ _ K bT ?_ λR=>⟨λ_=>?_,J,λQ=>?_⟩)
      ·show fT i E-fT g 0<=I-fT g 0;omega
      ·have:=(bN R).1 rfl;show I-fT g 0=fT i E-fT g 0;omega
      ·have Q:I-fT g 0≠0:=Q;have aX:¬fT none I=fT g 0:=by show¬I=fT g 0;omega
       rw[ao aX];exact c7 _ B R
    |some k=>
     subst L;have f:fQ (Nat.beq k (fT i E)) (some (T.arr b aN (aA+fT g 0) (fT i E-fT g 0) true))=some s:=f;replace f:=dJ.1 f;obtain⟨C,f⟩:=f;have C:=aC C;simp at f;subst f;have z:=X F E I O c9 A bl (by grind);have b8:fT (some k) I=fT i E:=C;rw[b8]at z;refine iO.pure v z (.arr _ _ _ _ _ V _ _ K bT (au _) λR=>⟨λ_=>rfl,J,λQ=>?_⟩);have aX:¬fT i E=fT g 0:=B;rw[ao aX]
     grind
 grind
end
end
section
section
variable {P:ai}{cx:Ctx}{base:Nat}{w:World}{μ:Mu}{h h':H}{G:Nat}{e:Env}{a:Act}{o:Oper}{hp hp':af Obj}
def St.ej(g:St cx base hp μ h){b:Nat}{c:Loc}(f:μ b=some c):b<h.size:=by
 have⟨i,d,_⟩:=g.box b c f;rw[H.get_eq]at d
 grind
def St.Oo(c:St cx base hp μ h):μ h.size=none:=by
 cases b:μ h.size with
 |none=>rfl
 |some d=>exact absurd (c.ej b) (Nat.lt_irrefl _)
def pW(μ:Mu)(d:Nat)(c:Loc):Mu:=⟨λb=>if b=d then some c else μ b,μ.mt⟩
theorem jd(μ:Mu)(c:Nat)(b:Loc):pW μ c b c=some b:=by simp[pW]
theorem iC(μ:Mu){c b:Nat}(d:Loc)(h:b≠c):pW μ c d b=μ b:=by simp[pW,h]
def H.cons(h:H)(b:iI):H:=⟨h.size+1,h.low,b::h.eZ⟩
def H.ku(b:Nat->T)(h:H)(c:iI):h.new b c=some (b h.size,h.cons c):=H.Oq b h c
def H.so(c:h.eZ.length=h.size)(b:iI):(h.cons b).get h.size=some b:=by
 rw[H.get_eq];simp[H.cons]
theorem H.mH{b:Nat}(f:b<h.size)(c:iI):(h.cons c).get b=h.get b:=by
 rw[H.get_eq,H.get_eq];have d:b<(h.cons c).size:=by show b<h.size+1;omega
 rw[aq d,aq f];show(c::h.eZ)[h.size+1-1-b]? =_;have:h.size+1-1-b=(h.size-1-b)+1:=B;rw[this];simp
def St.new(d:St cx base hp μ h)(n:Obj)(l:Loc)(m:iI)(z:l.iE=hp.size)(G:Ext hp μ (hp.push n) (pW μ h.size l)->p8 (hp.push n) (pW μ h.size l) l m):
 St cx base (hp.push n) (pW μ h.size l) (h.cons m)/\Ext hp μ (hp.push n) (pW μ h.size l)/\xJ μ (pW μ h.size l) h.size (h.cons m).size:=by
 have F:=d.Oo;have p:Ext hp μ (hp.push n) (pW μ h.size l):=by
  refine⟨J,λr E t=>⟨?_,?_⟩,λc k b=>?_,rfl,λr E _=>?_⟩
  rotate_right
  ·rw[cX];grind
  ·rw[cX];grind
  ·rintro(⟨c,k,b,rfl⟩|hr)
   ·by_cases i:c=h.size
    ·subst i;rw[jd]at b;grind
    ·rw[iC _ _ i]at b;exact t (.inl ⟨c,k,b,rfl⟩)
   ·exact t (.inr hr)
  ·have:c≠h.size:=by rintro rfl;rw[F]at b;grind
   exact⟨k,by rw[iC _ _ this];exact b,.inl rfl⟩
 refine⟨⟨?_,?_,?_,?_,?_,?_,?_,?_⟩,p,?_⟩
 ·show(m::h.eZ).length=h.size+1;simp[d.wf]
 ·simp;have:=d.fit;omega
 ·intro c k b;by_cases i:c=h.size
  ·subst i;rw[jd]at b;simp at b;subst b;exact⟨m,H.so d.wf m,G p⟩
  ·rw[iC _ _ i]at b;have⟨I,j,g⟩:=d.box c k b;refine⟨I,by rw[H.mH (d.ej b)];exact j,g.ext p ?_⟩;have:=d.lt b;rw[cX];grind
 ·intro c s u v j g A;by_cases b:c=h.size<;>by_cases q:s=h.size
  ·omega
  ·subst b;rw[jd]at j;simp at j;subst j;rw[iC _ _ q]at g;have:=d.lt g;omega
  ·subst q;rw[jd]at g;simp at g;subst g;rw[iC _ _ b]at j;have:=d.lt j;omega
  ·rw[iC _ _ b]at j;rw[iC _ _ q]at g;exact d.inj c s u v j g A
 ·intro c k b;by_cases i:c=h.size
  ·subst i;rw[jd]at b;simp at b;subst b;rw[z];exact d.fit
  ·rw[iC _ _ i]at b;exact d.low c k b
 ·intro c k b hr;by_cases i:c=h.size
  ·subst i;rw[jd]at b;simp at b;subst b;have:=d.pY _ hr;omega
  ·rw[iC _ _ i]at b;exact d.apart c k b hr
 ·intro r hr;have:=d.pY r hr
  grind
 ·intro y x C;exact(d.yA y x C).ext p
 ·refine⟨by show h.size<=h.size+1;omega,λc b=>?_,λc j g=>?_⟩
  ·by_cases i:c=h.size
   ·right;exact⟨B,by show c<h.size+1;omega⟩
   grind [iC]
  ·have:c=h.size:=by have g:c<h.size+1:=g;omega
   subst this;rw[jd];simp
def A1{c:Nat}{d:iI}(f:h.put c d=some h')(k:h.eZ.length=h.size):
 h'.size=h.size/\h'.eZ.length=h'.size/\h'.get c=some d/\∀b,b≠c->h'.get b=h.get b:=by
 obtain⟨g,i,rfl⟩:=H.u0.1 f;refine⟨rfl,by grind,?_,λb j=>?_⟩
 ·rw[H.get_eq];grind
 ·rw[H.get_eq,H.get_eq]
  grind
def St.change(d:St cx base hp μ h){f:Nat}{i L':Loc}{C:iI}(p:μ f=some i)(K:h.put f C=some h')(A:hp.size<=hp'.size)(x:∀n,n<hp.size->n≠i.iE->hp'[n]? =hp[n]?)
 (M:L'=i\/(i.ep<L'.ep/\(L'.iE=i.iE\/hp.size<=L'.iE))) (N:Ext hp μ hp' (pW μ f L')->p8 hp' (pW μ f L') L' C):
 St cx base hp' (pW μ f L') h'/\Ext hp μ hp' (pW μ f L')/\xJ μ (pW μ f L') h.size h'.size:=by
 have⟨p1,p2,p3,p4⟩:=A1 K d.wf;have q:L'.iE=i.iE\/hp.size<=L'.iE:=by
  grind
 have u:Ext hp μ hp' (pW μ f L'):=by
  refine⟨A,λn v t=>⟨x n v λk=>t (.inl ⟨f,i,p,k.symm⟩),?_⟩,λc m b=>?_,rfl,λn v hr=>x n v λk=>d.apart f i p (k▸hr)⟩
  ·rintro(⟨c,m,b,rfl⟩|hr)
   ·by_cases g:c=f
    ·subst g;rw[jd]at b;simp at b;subst b;rcases q with k|k
     ·exact t (.inl ⟨c,i,p,k.symm⟩)
     ·omega
    ·rw[iC _ _ g]at b;exact t (.inl ⟨c,m,b,rfl⟩)
   ·exact t (.inr hr)
  ·by_cases g:c=f
   ·subst g;rw[p]at b;grind [jd]
   ·exact⟨m,by rw[iC _ _ g];exact b,.inl rfl⟩
 refine⟨⟨p2,by have:=d.fit;omega,?_,?_,?_,?_,λn hr=>bp (d.pY n hr) A,?_⟩,u,⟨B,λc b=>?_,λc j l=>by omega⟩⟩
 ·intro c m b;by_cases g:c=f
  ·subst g;rw[jd]at b;grind
  ·rw[iC _ _ g]at b;have⟨L,j,l⟩:=d.box c m b;refine⟨L,by rw[p4 c g];exact j,l.ext u (x _ (d.lt b) λk=>g (d.inj c f m i b p k))⟩
 ·intro c r y z j l G;by_cases b:c=f<;>by_cases s:r=f
  ·omega
  ·subst b;rw[jd]at j;simp at j;subst j;rw[iC _ _ s]at l;rcases q with k|k
   ·exact absurd (d.inj r c z i l p B) s
   ·have:=d.lt l;omega
  ·subst s;rw[jd]at l;simp at l;subst l;rw[iC _ _ b]at j;rcases q with k|k
   ·exact absurd (d.inj c r y i j p B) b
   ·have:=d.lt j;omega
  ·rw[iC _ _ b]at j;rw[iC _ _ s]at l;exact d.inj c r y z j l G
 ·intro c m b;by_cases g:c=f
  ·subst g;rw[jd]at b;simp at b;subst b;rcases q with k|k
   ·rw[k];exact d.low _ _ p
   ·have:=d.fit;omega
  ·rw[iC _ _ g]at b;exact d.low c m b
 ·intro c m b hr;by_cases g:c=f
  ·subst g;rw[jd]at b;simp at b;subst b;rcases q with k|k
   ·exact d.apart c i p (by rw[<-k];exact hr)
   ·have:=d.pY _ hr;omega
  ·rw[iC _ _ g]at b;exact d.apart c m b hr
 ·intro F E I;exact(d.yA F E I).ext u
 grind [iC]
end
end
section
section
variable {P:ai}{cx:Ctx}{base:Nat}{w:World}{μ:Mu}{h h':H}{G:Nat}{e:Env}{a:Act}{o:Oper}{hp hp':af Obj}
theorem iX{b:aa (T×H)}{c:T}{h':H}:jl b=some (.val c h')↔b=some (c,h'):=by
 unfold jl;cases b with
 |none=>simp
 |some d=>obtain⟨g,f⟩:=d;simp
def wc(r:St cx base w.heap μ h)(b:ab){arr:af am}{cap sz:Nat}{ex:Bool}{es:List T}(k:arr.size=cap*sz)(n:es.length<=cap)(l:ex=true->cap=es.length)
 (q:∀d∈es,d.cells.length=sz) (p:∀d∈eY es,d.scalar=true) (j:fX w.heap μ (eY es) (arr.toList.take (eY es).length)):
 ∃c,St cx base (w.heap.push (.cells arr b)) c (h.cons (kN sz ex es))/\oS w μ {w with heap:=w.heap.push (.cells arr b)} c/\xJ μ c h.size (h.cons (kN sz ex es)).size/\
  c h.size=some ⟨0,w.heap.size,cap,sz⟩:=by
 have⟨f,g,i⟩:=r.new (.cells arr b) ⟨0,w.heap.size,cap,sz⟩ (kN sz ex es) rfl (by
  intro m;refine⟨rfl,rfl,λ_=>⟨⟨arr,b,J,k,j.ext m⟩,n,l,q,p⟩,λs=>by grind [kN]⟩)
 exact⟨_,f,⟨g,rfl,rfl,rfl⟩,i,jd _ _ _⟩
def xS{b:T}(h:b.scalar=true):b.cells=[b]:=by
 cases b<;>first|rfl|grind [T.scalar]
def yB{b:List T}(h:∀c∈b,c.scalar=true):eY b=b:=by
 induction b with
 |nil=>rfl
 |cons c b g=>
  have f:=xS (h c J);have d:=g λi j=>h i (by grind);unfold eY at d|-;rw[cM,f,d];rfl
theorem E2(iU:iG P cx){g:ab}(x:St cx base w.heap μ h)(t:o.op= .alloc g){i:T}
 (b:Cu g cx G e h=some (.val i h')):iO cx base w μ h.size ((execOp a.eval o).run P w) i h':=by
 replace b:=dB.1 b;obtain⟨c,y,b⟩:=b;have⟨f,u,_,z,k,C,v,A,E⟩:=(iU.ty _ _ y).zero w;cases s:wi cx c with
 |false=>
  rw[s]at b;have b:jl (h.new (λj=>T.ptr j 0 0 0) (kN c.size true [c.jW]))=some (.val i h'):=b;rw[iX,H.ku]at b;simp only[ar,aB]at b;obtain⟨rfl,rfl⟩:=b;have⟨r,l,m,n,p⟩:=wc x g (arr:=f.cells) (cap:=1) (sz:=c.size) (ex:=true) (es:=[c.jW]) B J J
   (by intro q d;simp at d;subst d;rw[v];omega) (by intro q d;simp[eY]at d;rw[v]at d;grind)
   (by
     have:eY [c.jW]=c.zero:=by grind [eY]
     rw[this];have hl:f.cells.toList.take c.zero.length=f.cells.toList:=by grind [bA]
     rw[hl];grind)
  refine⟨.pointer (some ⟨w.heap.size,0,none⟩),_,r,.inl ?_,.ptr _ 0 0 0 _ _ p (au _) (λ_=>by simp),l,m,n⟩;simp[execOp,t,Instr.alloc,u,newVar,newRow]
 |true=>
  rw[s]at b;have b:jl (h.new (λj=>T.ptr j 0 0 0) (kN 1 true c.zero))=some (.val i h'):=b;rw[iX,H.ku]at b;simp only[ar,aB]at b;obtain⟨rfl,rfl⟩:=b;have⟨r,l,m,n,p⟩:=wc x g (arr:=f.cells) (cap:=c.zero.length) (sz:=1) (ex:=true) (es:=c.zero) B (au _) (λ_=>rfl)
   (by intro q d;rw[xS (k q d)];rfl) (by rw[yB k];omega)
   (by
     rw[yB k];have hl:f.cells.toList.take c.zero.length=f.cells.toList:=by grind [bA]
     rw[hl];grind)
  refine⟨.pointer (some ⟨w.heap.size,0,none⟩),_,r,.inl ?_,.ptr _ 0 0 0 _ _ p (au _) (λ_=>by simp),l,m,n⟩;simp[execOp,t,Instr.alloc,u,newVar,newRow]
theorem IP{i:ab}{d:ah}(g:St cx base w.heap μ h)(s:jY w.heap μ G e a.tmps)(m:o.op= .box i d){j:T}
 (b:LP d cx G e h=some (.val j h')):iO cx base w μ h.size ((execOp a.eval o).run P w) j h':=by
 replace b:=dB.1 b;obtain⟨c,hp,b⟩:=b;replace b:=dJ.1 b;obtain⟨k,b⟩:=b;rw[iX,H.ku]at b;simp only[ar,aB]at b;obtain⟨rfl,rfl⟩:=b;have⟨f,u,_⟩:=(fN g s hp).cells k;have l:=f.1;have⟨t,n,p,q,r⟩:=wc g i (arr:=(a.eval d).cells) (cap:=1) (sz:=c.cells.length) (ex:=true) (es:=[c]) (by grind) J J
  J (by grind [eY])
  (by
    have:eY [c]=c.cells:=by simp[eY]
    rw[this,l,aJ];exact f)
 rw[jz];refine⟨.pointer (some ⟨w.heap.size,0,none⟩),_,t,.inl ?_,.ptr _ 0 0 0 _ _ r (au _) (λ_=>by simp),n,p,q⟩;simp[execOp,m,Instr.box,newVar,newRow]
def QL(b c:List T):over b c=if c.length<=b.length then some (c++b.drop c.length)else none:=by
 induction c generalizing b with
 |nil=>rfl
 |cons i c f=>cases b with
  |nil=>rfl
  |cons j b=>
   show(M (over b c) λg=>some (i::g))=_;rw[f];by_cases d:c.length<=b.length<;>simp[d]
def sL(b:List T)(c:Nat)(d:List T):kc b c d=if c+d.length<=b.length then some (b.take c++d++b.drop (c+d.length))else none:=by
 induction c generalizing b with
 |zero=>show over b d=_;rw[QL];simp
 |succ c j=>cases b with
  |nil=>show none=_;simp
  |cons f b=>
   show(M (kc b c d) λk=>some (f::k))=_;rw[j];have g:c+1+d.length=(c+d.length)+1:=B;by_cases i:c+d.length<=b.length
   ·rw[aq i,aq (by grind),g];simp
   simp_all[ao]
def nR{b d f:List T}{c:Nat}(g:kc b c d=some f):c+d.length<=b.length/\f=b.take c++d++b.drop (c+d.length):=by
 rw[sL]at g
 grind
def IA{d g f:List T}{j:Nat}(i:kc d j g=some f){c:T->Prop}(k:∀b∈d,c b)(l:∀b∈g,c b):∀b∈f,c b:=by
 obtain⟨_,rfl⟩:=nR i
 grind
def Ee{cells:af am}{c:am}{off:Nat}(k:off+c.cells.size<=cells.size):
 (c.cells.zipIdx.foldl (λd (b:am×Nat)=>d.setIfInBounds (off+b.2) b.1) cells).toList=cells.toList.take off++c.cells.toList++cells.toList.drop (off+c.cells.size):=by
 have g:c.cells.zipIdx.foldl (λd (b:am×Nat)=>d.setIfInBounds (off+b.2) b.1) cells=(c.cells.toList.zipIdx 0).foldl (λd (b:am×Nat)=>d.setIfInBounds (off+b.2) b.1) cells:=by
  rw[<-Array.foldl_toList,Array.toList_zipIdx]
 rw[g];have⟨j,f⟩:=Great.foldl_set off c.cells.toList 0 cells;apply cN;intro i;have:=f i;rw[<-Array.getElem?_toList]at this;rw[this]
 grind
def CB(c:Nat->aa (Nat×Nat))(b:Nat×T)(f:List (Nat×T))(d:List T):
 mf c (b::f) d=M (c b.1) λg=>fQ (Nat.beq (kv b.2.cells) g.2) (M (kc d g.1 b.2.cells) λi=>mf c f i):=rfl
def Me(hp:af Obj)(μ:Mu)(g:List (Nat×T))(qs:List (Nat×am)):Prop:=
 g.length=qs.length/\∀(f:Nat) d b,g[f]? =some (d,b)->∃c,qs[f]? =some (d,c)/\eK hp μ b c/\b.fg=true
def Me.mg{b:Nat×T}{g:List (Nat×T)}{qs:List (Nat×am)}(h:Me hp μ (b::g) qs):∃c i,qs=(b.1,c)::i/\eK hp μ b.2 c/\b.2.fg=true/\Me hp μ g i:=by
 obtain⟨hl,f⟩:=h;cases qs with
 |nil=>grind
 |cons p qs=>
  have⟨c,d,hr,j⟩:=f 0 b.1 b.2 J;simp at d;subst d;exact⟨c,qs,rfl,hr,j,by grind,λl k m n=>by simpa using f (l+1) k m (by grind)⟩
def wI(v:St cx base w.heap μ h)(u:jY w.heap μ G e a.tmps){c:List (Nat×ah)}{l:List (Nat×T)}(i:partsOf cx G e c=some l):
 Me w.heap μ l (c.map λk=>(k.1,a.eval k.2)):=by
 unfold partsOf at i;have⟨hl,n⟩:=qP.1 i;refine⟨by grind,λd s f q=>?_⟩;have x:d<c.length:=by
  grind
 have⟨y,g,b⟩:=n d c[d] J;rw[q]at g;simp at g;subst g;rcases p:c[d]with⟨t,j⟩;rw[p]at b;have b:(M (fq cx G e j) λf=>fQ f.fg (some (t,f)))=some (s,f):=b;have⟨z,r,b⟩:=dB.1 b;have⟨m,b⟩:=dJ.1 b;simp at b;obtain⟨rfl,rfl⟩:=b;exact⟨a.eval j,by grind,fN v u r,m⟩
def uw{u place':Nat->aa (Nat×Nat)}(L:∀t f,u t=some f->place' t=some f):∀(k:List (Nat×T)) (qs:List (Nat×am)) (d g:List T) (cells:af am),
 Me hp μ k qs->fX hp μ d cells.toList->(∀n∈d,n.scalar=true)->mf u k d=some g->
 ∃j,Instr.fill place' cells qs=some j/\fX hp μ g j.toList/\(∀n∈g,n.scalar=true)/\j.size=cells.size:=by
 intro k;induction k with
 |nil=>
  intro qs d g cells hp i m b;have:qs=[]:=aS hp.1.symm;subst this;have:g=d:=by grind [mf]
  subst this;exact⟨cells,rfl,i,m,rfl⟩
 |cons W k N=>
  intro qs d g cells A i m b;obtain⟨c,U,rfl,hr,G,C⟩:=A.mg;rw[CB]at b;have⟨f,M,b⟩:=dB.1 b;have⟨hl,b⟩:=dJ.1 b;have⟨q,r,b⟩:=dB.1 b;have⟨p,x,_⟩:=hr.cells G;have K:=aC hl;rw[jz]at K;have⟨V,F⟩:=nR r;have y:=i.1;have l:=p.1;simp only[cu]at y l;have I:f.1+c.cells.size<=cells.size:=B;have s:=Ee (cells:=cells) (c:=c) I;have z:fX hp μ q (c.cells.zipIdx.foldl (λd (v:am×Nat)=>d.setIfInBounds (f.1+v.2) v.1) cells).toList:=by
   rw[s,F,<-l];exact((i.take f.1).append p).append (by rw[l];exact i.drop _)
  have⟨j,O,Q,R,S⟩:=N U q g _ C z (IA r m x) b;refine⟨j,?_,Q,R,?_⟩
  ·simp only[Instr.fill,L _ _ M];have E:¬(c.cells.size≠f.2||decide (f.1+c.cells.size>cells.size))=true:=by grind
   rw[ao E];exact O
  ·rw[S];have:=bG List.length s
   grind
