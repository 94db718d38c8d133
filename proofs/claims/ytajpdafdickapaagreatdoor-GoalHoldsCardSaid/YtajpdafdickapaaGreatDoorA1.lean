/- TiBase -/
import Derived.Test.YtajpdafdickapaaGreatDoorA0
import Derived.IntWalk
import Derived.Calls
import Derived.Laws.CopyRow
import Derived.Laws.Cells
import Derived.Laws.Entries
import Derived.WalkCall
import Derived.Laws.Strings
import Derived.Lib.Strings
import Derived.Laws.StructEq
import Derived.ChangeKeysEq
import Derived.Great.FillDense
set_option linter.all false
namespace Go.TI
abbrev Z(n:Int):T:=.int .i64 n
abbrev dD:T:=.dK [] false
abbrev dE(s v:Nat)(e:List T):iX:=⟨s,0,v,true,false,e⟩
@[simp] abbrev dF(v:fZ)(n:Nat)(t:T):Prop:=TI.dL v n=some t
end Go.TI
namespace Go.TI
noncomputable section
section
@[simp]theorem ed {α β:Type} (a:α) (b:α->aa β):dW (some a) b=b a:=rfl
@[simp]theorem adn {α β:Type} (a:α->aa β):dW (none:aa α) a=none:=rfl
theorem dI{α β:Type}{a:aa α}{c:α->aa β}{d:β}:dW a c=some d↔∃b,a=some b/\c b=some d:=by
 cases a<;>simp
@[simp]theorem iH {α:Type} (a:aa α):gX true a=a:=rfl
@[simp]theorem OJ {α:Type} (a:aa α):gX false a=none:=rfl
theorem dQ{α:Type}{a:Bool}{b:aa α}{c:α}:gX a b=some c↔a=true/\b=some c:=by
 cases a<;>simp
@[simp]theorem kN {α β d:Type} (a:α) (b:β) (c:α->β->d):two (a,b) c=c a b:=rfl
@[simp]theorem ma {e:Type} (d:Ex) (a:Env) (c:H) (b:Ex->Env->H->e):three (d,a,c) b=b d a c:=rfl
section lists
variable {α β:Type}
@[simp]def kP (b:List α) (a:Nat):mM b a=b[a]? :=by
 induction b generalizing a with
 |nil=>rfl
 |cons e d c=>cases a with
  |zero=>rfl
  |succ a=>exact(c a).trans dy 
def kR(b:List α)(a:Nat)(c:α):kO b a c=if a<b.length then some (b.set a c)else none:=by
 induction b generalizing a with
 |nil=>rfl
 |cons h d f=>cases a with
  |zero=>rfl
  |succ a=>
   show(dW (kO d a c) λg=>some (h::g))=_;rw[f];by_cases e:a<d.length<;>simp[e]
theorem oh(a:Nat)(b:List α):takeN a b=if a<=b.length then some (b.take a)else none:=by
 induction a generalizing b with
 |zero=>rfl
 |succ a e=>cases b with
  |nil=>rfl
  |cons g c=>
   show(dW (takeN a c) λf=>some (g::f))=_;rw[e];by_cases d:a<=c.length<;>simp[d]
def mn(a:Nat)(b:List α):j8 a b=if a<=b.length then some (b.drop a)else none:=by
 induction a generalizing b with
 |zero=>rfl
 |succ a e=>cases b with
  |nil=>rfl
  |cons f c=>
   show j8 a c=_;rw[e];by_cases d:a<=c.length<;>simp[d]
@[simp]theorem j2 (a:List α):kY a=a.length:=by
 induction a with
 |nil=>rfl
 |cons d c b=>show Nat.succ (kY c)=_;rw[b];rfl
@[simp]theorem rN (a b:List α):Fg a b=some (a++b):=by
 induction a with
 |nil=>rfl
 |cons f d c=>show(dW (Fg d b) λe=>some (f::e))=_;rw[c];rfl
theorem jO(a:α->aa β)(c:α)(b:List α):fQ a (c::b)=dW (a c) λe=>dW (fQ a b) λd=>some (e::d):=rfl
@[simp]theorem Ya (a:α->aa β):fQ a []=some []:=rfl
def sh{e:α->aa β}{b:List α}{a:List β}:fQ e b=some a↔b.length=a.length/\∀(c:Nat) d,b[c]? =some d->∃f,a[c]? =some f/\e d=some f:=by
 induction b generalizing a with
 |nil=>
  constructor
  ·simp_all
  ·rintro⟨g,_⟩;simp at g;simp[bg g.symm]
 |cons d b k=>
  rw[jO];constructor
  ·grind [dI]
  ·rintro⟨hl,h⟩;cases a with
   |nil=>grind
   |cons f a=>
    have⟨n,i,j⟩:=h 0 d dy;simp at i;subst i;have:fQ e b=some a:=k.2 ⟨by grind,λc l m=>by simpa using h (c+1) l (by grind)⟩;rw[j,this];rfl
@[simp]theorem qj (b:α) (a:Nat):pV b a=List.replicate a b:=by
 induction a with
 |zero=>rfl
 |succ a c=>show b::pV b a=_;rw[c];rfl
@[simp]def Av (a:α->Bool) (b:List α):xR a b=b.all a:=by
 induction b with
 |nil=>rfl
 |cons c b e=>
  show @Bool.rec (λ_=>Bool) false (xR a b) (a c)=_;rw[e];cases d:a c<;>simp[d]
end lists
@[simp]theorem iM (a:Nat):iq a=some a:=by cases a<;>rfl
@[simp]theorem X5 (b:Int):Mj b=some b:=by
 cases b with
 |ofNat a=>cases a<;>rfl
 |negSucc a=>cases a<;>rfl
@[simp]def pj (a:ak) (b:Int):yt a b=some (.int a b):=by simp[yt]
@[simp]theorem r9 (a:Bool):xX a=some (.bool a):=by cases a<;>rfl
@[simp]def yF (a b:ak):(Ew a b=true)↔a=b:=by cases a<;>cases b<;>decide
def yC(c b:Int):Mo c b=decide (c<b):=by
 cases c with
 |ofNat d=>cases b with
  |ofNat a=>
   show Nat.blt d a=_;rw[bp,aJ];simp
  |negSucc a=>rfl
 |negSucc d=>cases b with
  |ofNat a=>show true=_;grind
  |negSucc a=>
   show Nat.blt a d=_;rw[bp,aJ];grind
def yJ(c b:Int):Tz c b=(c==b):=by
 cases c with
 |ofNat d=>cases b with
  |ofNat a=>
   show Nat.beq d a=_;rw[bp,Nat.beq_eq];grind
  |negSucc a=>rfl
 |negSucc d=>cases b with
  |ofNat a=>rfl
  |negSucc a=>
   show Nat.beq d a=_;rw[bp,Nat.beq_eq];simp
def jE(c:ak)(d:Int):LP c d=c.wrap d:=by
 cases c<;>try rfl
 cases d with
 |ofNat a=>
  show @Bool.rec (λ_=>Int) (IntKind.i64.wrap (.ofNat a)) (Int.ofNat a) (Nat.ble a 9223372036854775807)=_;cases b:Nat.ble a 9223372036854775807
  ·rfl
  ·have:=bh b;show Int.ofNat a=_;exact(IntWalk.i64_in _ (by grind)).symm
 |negSucc a=>
  show @Bool.rec (λ_=>Int) (IntKind.i64.wrap (.negSucc a)) (Int.negSucc a) (Nat.ble a 9223372036854775807)=_;cases b:Nat.ble a 9223372036854775807
  ·rfl
  ·have:=bh b;show Int.negSucc a=_;exact(IntWalk.i64_in _ J).symm
@[simp]def ze (a:ak) (b:Int):qz a b=some (.int a (a.wrap b)):=by simp[qz,jE]
def HA(b a:List Nat):WB b a=(b==a):=by
 induction b generalizing a with
 |nil=>cases a<;>rfl
 |cons c b f=>cases a with
  |nil=>rfl
  |cons d a=>
   show @Bool.rec (λ_=>Bool) false (WB b a) (Nat.beq c d)=_;rw[f];rw[List.cons_beq_cons];cases e:Nat.beq c d
   ·have:(c==d)=false:=by rw[<-Bool.not_eq_true,beq_iff_eq,<-Nat.beq_eq];simp[e]
    grind
   simp_all
theorem H.get_eq(b:H)(a:Nat):b.get a=if a<b.size then b.fG[b.size-1-a]? else none:=by
 obtain⟨d,f,e⟩:=b;show gX (Nat.blt a d) (mM e _)=_;by_cases c:a<d
 ·have:Nat.blt a d=true:=by rw[aJ];exact c
  simp[this,c]
 ·have:Nat.blt a d=false:=by rw[<-Bool.not_eq_true,aJ];exact c
  simp[this,c]
def H.Rq(b:Nat->T)(a:H)(c:iX):a.new b c=some (b a.size,⟨a.size+1,a.low,c::a.fG⟩):=by
 obtain⟨d,f,e⟩:=a;show(dW (iq (Nat.succ d)) λg=>some (b d,(⟨g,f,c::e⟩:H)))=_;simp
def H.wF{b j:H}{a:Nat}{i:iX}:b.put a i=some j↔
 a<b.size/\b.size-1-a<b.fG.length/\j=⟨b.size,if a<b.low then a else b.low,b.fG.set (b.size-1-a) i⟩:=by
 obtain⟨d,c,l⟩:=b;show gX (Nat.blt a d) (dW (kO l (d-1-a) i) λe=> @Bool.rec (λ_=>aa H) (some (⟨d,c,e⟩:H)) (some ⟨d,a,e⟩) (Nat.blt a c))=_↔_;rw[dQ,aJ,kR];constructor
 ·rintro⟨g,m⟩;obtain⟨e,f,k⟩:=dI.1 m;split at f
  ·rename_i hl;simp at f;subst f;refine⟨g,hl,?_⟩;by_cases h:a<c
   ·have:Nat.blt a c=true:=by rw[aJ];omega
    rw[this]at k;grind
   ·have:Nat.blt a c=false:=by rw[<-Bool.not_eq_true,aJ];omega
    rw[this]at k;grind
  grind
 ·rintro⟨g,hl,rfl⟩;refine⟨g,?_⟩;simp only[]at hl;rw[aq hl];by_cases h:a<c
  ·have:Nat.blt a c=true:=by rw[aJ];omega
   simp[this,h]
  ·have:Nat.blt a c=false:=by rw[<-Bool.not_eq_true,aJ];omega
   simp[this,h]
end
structure Loc where
 ep:Nat
 ja:Nat
 cap:Nat
 sz:Nat
structure Mu where
 loc:Nat->aa Loc
 pM:Nat->Prop
instance :CoeFun Mu (λ_=>Nat->aa Loc):=⟨Mu.loc⟩
def nR(c:Mu)(b:Nat):Prop:=(∃d a,c d=some a/\a.ja=b)\/c.pM b
def T.scalar:T->Bool
 | .undef| .agg _| .tuple _=>false
 |_=>true
inductive kA:T->Prop where
 |bool (b:Bool):kA (.bool b)
 |int (k:ak) (n:Int):kA (.int k n)
 |str (s:List Nat):kA (.str s)
 |kE:kA .kE
 |jH (cs:List T) (h:∀v∈cs,kA v):kA (.jH cs)
 |dK (es:List T) (full:Bool) (h:∀v∈es,kA v):kA (.dK es full)
 |gW:kA .gW
 |kT:kA .kT
 |kS:kA .kS
 |agg (cs:List T) (h:∀v∈cs,kA v):kA (.agg cs)
def vZ(a:T):Prop:=a.scalar=true/\kA a
def fF(a:List T):List T:=a.flatMap T.cells
def bytesOf(a:List Nat):ByteArray:=⟨(a.map UInt8.ofNat).toArray⟩
inductive fI (hp:af Obj) (μ:Mu):T->am->Prop where
 |undef:fI hp μ .undef (.tuple #[])
 |bool (b:Bool):fI hp μ (.bool b) (.bool b)
 |int (k:ak) (n:Int):fI hp μ (.int k n) (.int k n)
 |str (s:List Nat) (h:∀c∈s,c<256):fI hp μ (.str s) (.string (bytesOf s))
 |kE:fI hp μ .kE (.pointer none)
 |ptr (b ep i j:Nat) (L:Loc) (a:Addr) (hb:μ b=some L) (he:ep<=L.ep) (ha:ep=L.ep->a=⟨L.ja,i*L.sz+j,none⟩):
  fI hp μ (.ptr b ep i j) (.pointer (some a))
 |jH (cells:List T) (ja off:Nat) (arr:af am) (t:ab) (fz:Nat×Nat) (hn:¬nR μ ja) (hh:hp[ja]? =some (.cells arr t fz))
  (hs:off+cells.length<=arr.size) (hc:∀v∈cells,vZ v)
  (hr:∀(k:Nat) v,cells[k]? =some v->fI hp μ v (arr.getD (off+k) Go.undef)):fI hp μ (.jH cells) (.pointer (some ⟨ja,off,none⟩))
 |oc (full:Bool) (a:aa Addr):fI hp μ (.dK [] full) (.slice a 0 0)
 |dK (e:T) (es:List T) (full:Bool) (ja off cap sz:Nat) (arr:af am) (t:ab) (fz:Nat×Nat) (hn:¬nR μ ja)
  (hh:hp[ja]? =some (.cells arr t fz)) (hl:es.length+1<=cap) (hf:full=true->cap=es.length+1)
  (hu:∀v∈e::es,v.cells.length=sz) (hs:off+(fF (e::es)).length<=arr.size) (hc:∀v∈fF (e::es),vZ v)
  (hr:∀(k:Nat) v,(fF (e::es))[k]? =some v->fI hp μ v (arr.getD (off+k) Go.undef)):
  fI hp μ (.dK (e::es) full) (.slice (some ⟨ja,off,none⟩) (es.length+1) cap)
 |gW (a:aa Addr) (cap:Nat):fI hp μ .gW (.slice a 0 cap)
 |arr (b ep o l:Nat) (full:Bool) (L:Loc) (a:aa Addr) (cp:Nat) (hb:μ b=some L) (he:ep<=L.ep) (hl:l<=cp)
  (h:ep=L.ep->(full=true->cp=l)/\(full=false->o+cp=L.cap)/\(cp≠0->a=some ⟨L.ja,o*L.sz,none⟩)):
  fI hp μ (.arr b ep o l full) (.slice a l cp)
 |func (f:aj) (caps:List T) (cs:af am) (hs:cs.size=caps.length)
  (hr:∀(k:Nat) v,caps[k]? =some v->fI hp μ v (cs.getD k Go.undef)):fI hp μ (.func f caps) (.func (.func f) #[] cs)
 |kT:fI hp μ .kT .nilFunc
 |kS:fI hp μ .kS .nilIface
 |iface (t:ab) (v:T) (c:am) (h:fI hp μ v c):fI hp μ (.iface t v) (.iface t c)
 |iter (b:Nat) (L:Loc) (a:Addr) (hb:μ b=some L) (h:L.ep=0->a=⟨L.ja,0,none⟩):fI hp μ (.iter b) (.pointer (some a))
 |map (b:Nat) (L:Loc) (i:Nat) (hb:μ b=some L) (h:L.ep=0->i=L.ja):fI hp μ (.map b) (.map (some i))
 |oq:fI hp μ .oq (.map none)
 |agg (cells:List T) (cs:af am) (hs:cs.size=cells.length) (hc:∀v∈cells,v.scalar=true)
  (hr:∀(k:Nat) v,cells[k]? =some v->fI hp μ v (cs.getD k Go.undef)):fI hp μ (.agg cells) (.agg cs)
 |tuple (vs:List T) (cs:af am) (hs:cs.size=vs.length)
  (hr:∀(k:Nat) v,vs[k]? =some v->fI hp μ v (cs.getD k Go.undef)):fI hp μ (.tuple vs) (.tuple cs)
structure Ext(hp:af Obj)(μ:Mu)(hp':af Obj)(μ':Mu):Prop where
 size:hp.size<=hp'.size
 nZ:∀i,i<hp.size->¬nR μ i->hp'[i]? =hp[i]? /\¬nR μ' i
 mu:∀b L,μ b=some L->∃L',μ' b=some L'/\(L'=L\/L.ep<L'.ep)
 pM:μ'.pM=μ.pM
 kept:∀i,i<hp.size->μ.pM i->hp'[i]? =hp[i]?
structure qg(w:World)(μ:Mu)(w':World)(μ':Mu):Prop where
 ext:Ext w.heap μ w'.heap μ'
 os:w'.os=w.os
 tape:w'.tape=w.tape
 output:w'.output=w.output
def Ext.refl(b:af Obj)(c:Mu):Ext b c b c:=⟨au _,λ_ _ a=>⟨rfl,a⟩,λ_ d a=>⟨d,a,.inl rfl⟩,rfl,λ_ _ _=>rfl⟩
def Ext.trans{hp f g:af Obj}{h i j:Mu}(a:Ext hp h f i)(d:Ext f i g j):Ext hp h g j:=by
 refine⟨aO a.size d.size,λc b o=>?_,λe k n=>?_,d.pM.trans a.pM,λc b hr=>?_⟩
 rotate_right
 ·rw[d.kept c (bD b a.size) (by rw[a.pM];exact hr),a.kept c b hr]
 ·have⟨r,p⟩:=a.nZ c b o;have⟨s,u⟩:=d.nZ c (bD b a.size) p
  grind
 ·have⟨l,m,r1⟩:=a.mu e k n;have⟨q,t,r2⟩:=d.mu e l m
  grind
def qg.refl(a:World)(b:Mu):qg a b a b:=⟨Ext.refl _ _,rfl,rfl,rfl⟩
def qg.trans{c w1 d:World}{e f g:Mu}(a:qg c e w1 f)(b:qg w1 f d g):qg c e d g:=
 ⟨a.ext.trans b.ext,b.os.trans a.os,b.tape.trans a.tape,b.output.trans a.output⟩
def Dv{a:af Obj}{b:Nat}{c:Obj}(d:a[b]? =some c):b<a.size:=by
 grind
def fI.ext{A B:af Obj}{C D:Mu}{t:T}{s:am}(i:fI A C t s)(j:Ext A C B D):fI B D t s:=by
 induction i with
 |undef=>exact .undef
 |bool a=>exact .bool a
 |int N p=>exact .int N p
 |str R i=>exact .str R i
 |kE=>exact .kE
 |ptr a x z M e c g I V=>
  have⟨f,h,r⟩:=j.mu a e g;refine .ptr a x z M f c h ?_ ?_
  ·rcases r with rfl|r<;>omega
  grind
 |jH v k off arr q fz y o d n _ b=>
  have⟨w,p⟩:=j.nZ k (Dv o) y;exact .jH v k off arr q fz p (w.trans o) d n b
 |oc m c=>exact .oc m c
 |dK w G m k off u S arr q fz y o hl K L d n _ b=>
  have⟨Q,p⟩:=j.nZ k (Dv o) y;exact .dK w G m k off u S arr q fz p (Q.trans o) hl K L d n b
 |gW c u=>exact .gW c u
 |arr a x P O m e c F g I hl i=>
  have⟨f,h,r⟩:=j.mu a e g;refine .arr a x P O m f c F h ?_ hl ?_
  ·rcases r with rfl|r<;>omega
  grind
 |func H E l d _ b=>exact .func H E l d b
 |kT=>exact .kT
 |kS=>exact .kS
 |iface q t s _ b=>exact .iface q t s b
 |iter a e c g i=>
  have⟨f,h,r⟩:=j.mu a e g;refine .iter a f c h ?_
  grind
 |map a e z g i=>
  have⟨f,h,r⟩:=j.mu a e g;refine .map a f z h ?_
  grind
 |oq=>exact .oq
 |agg v l d n _ b=>exact .agg v l d n b
 |tuple U l d _ b=>exact .tuple U l d b
def gY(e:af Obj)(f:Mu)(d:List T)(a:List am):Prop:=
 d.length=a.length/\∀(b:Nat) c,d[b]? =some c->fI e f c (a.getD b Go.undef)
def gY.ext{c d:af Obj}{f g:Mu}{e:List T}{a:List am}(b:gY c f e a)(k:Ext c f d g):gY d g e a:=
 ⟨b.1,λi j h=>(b.2 i j h).ext k⟩
theorem gY.nil{a:af Obj}{b:Mu}:gY a b [] []:=⟨rfl,λd e c=>by grind⟩
theorem gY.cons{a:af Obj}{c:Mu}{h:T}{d:am}{i:List T}{e:List am}(k:fI a c h d)(f:gY a c i e):gY a c (h::i) (d::e):=by
 refine⟨by simp[f.1],λb j g=>?_⟩;cases b with
 |zero=>grind
 |succ b=>simp at g;simpa using f.2 b j g
def gY.mB{d:af Obj}{f:Mu}{e:T}{g:List T}{c:List am}(h:gY d f (e::g) c):∃a b,c=a::b/\fI d f e a/\gY d f g b:=by
 obtain⟨hl,hr⟩:=h;cases c with
 |nil=>grind
 |cons a b=>exact⟨a,b,rfl,by simpa using hr 0 e dy,by grind,λi j k=>by simpa using hr (i+1) j (by grind)⟩
theorem gY.append{c:af Obj}{d:Mu}{a g:List T}{b e:List am}(f:gY c d a b)(j:gY c d g e):gY c d (a++g) (b++e):=by
 induction a generalizing b with
 |nil=>obtain⟨hl,_⟩:=f;simp at hl;rw[bg hl.symm];grind
 |cons n a m=>obtain⟨h,i,rfl,l,k⟩:=f.mB;grind [gY.cons]
def gY.take{e:af Obj}{f:Mu}{a:List T}{c:List am}(d:gY e f a c)(b:Nat):gY e f (a.take b) (c.take b):=by
 induction b generalizing a c with
 |zero=>simp[gY.nil]
 |succ b k=>cases a with
  |nil=>obtain⟨hl,_⟩:=d;simp at hl;rw[bg hl.symm];simp[gY.nil]
  |cons l a=>obtain⟨g,h,rfl,j,i⟩:=d.mB;grind [gY.cons]
def gY.drop{e:af Obj}{f:Mu}{a:List T}{c:List am}(d:gY e f a c)(b:Nat):gY e f (a.drop b) (c.drop b):=by
 induction b generalizing a c with
 |zero=>grind
 |succ b j=>cases a with
  |nil=>obtain⟨hl,_⟩:=d;simp at hl;rw[bg hl.symm];simp[gY.nil]
  |cons k a=>obtain⟨g,h,rfl,_,i⟩:=d.mB;grind
def gY.get{d:af Obj}{f:Mu}{e:List T}{a:List am}(c:gY d f e a){k:Nat}{v:T}(h:e[k]? =some v):∃b,a[k]? =some b/\fI d f v b:=by
 have g:k<a.length:=by
  rw[<-c.1]
  grind
 refine⟨a[k],dy,?_⟩;simpa[List.getD,g]using c.2 k v h
theorem r7{d:af Obj}{f:Mu}{b:T}{a:am}(c:fI d f b a)(e:b.scalar=true):a.oneCell'=true:=by
 cases c<;>first|rfl|(simp[T.scalar]at e)
theorem fI.cells{o:af Obj}{q:Mu}{b:T}{c:am}(d:fI o q b c)(V:b.ir=true):
 gY o q b.cells c.cells.toList/\(∀h∈b.cells,h.scalar=true)/\∀h∈c.cells.toList,h.oneCell'=true:=by
 have a:∀{b:T} {c:am},fI o q b c->b.scalar=true->b.cells=[b]->c.cells= #[c]->
  gY o q b.cells c.cells.toList/\(∀h∈b.cells,h.scalar=true)/\∀h∈c.cells.toList,h.oneCell'=true:=by
  intro b c d k z i;rw[z,i]
  grind [gY.nil,gY.cons,r7]
 cases d with
 |agg m r k i hr=>
  have F:gY o q m r.toList:=⟨by grind,λl b z=>by simp_all⟩;refine⟨F,i,?_⟩;intro h M;have L:h∈r.toList:=M;obtain⟨l,W,rfl⟩:=db L;have I:l<m.length:=by grind
  have:=hr l m[l] dy;have U:=r7 this (i _ (aD I));simp_all
 |undef=>grind [T.ir]
 |tuple=>grind [T.ir]
 |bool f=>exact a (.bool f) rfl rfl rfl
 |int l P=>exact a (.int l P) rfl rfl rfl
 |str R g=>exact a (.str R g) rfl rfl rfl
 |kE=>exact a .kE rfl rfl rfl
 |ptr f u y N j e g v G=>exact a (.ptr f u y N j e g v G) rfl rfl rfl
 |jH m s off arr p fz x w k i hr=>exact a (.jH m s off arr p fz x w k i hr) rfl rfl rfl
 |oc n e=>exact a (.oc n e) rfl rfl rfl
 |dK C D n s off t S arr p fz x w hl H K k i hr=>exact a (.dK C D n s off t S arr p fz x w hl H K k i hr) rfl rfl rfl
 |gW e t=>exact a (.gW e t) rfl rfl rfl
 |arr f u Q O n j e B g v hl d=>exact a (.arr f u Q O n j e B g v hl d) rfl rfl rfl
 |func E A r k hr=>exact a (.func E A r k hr) rfl rfl rfl
 |kT=>exact a .kT rfl rfl rfl
 |kS=>exact a .kS rfl rfl rfl
 |iface p b c d=>exact a (.iface p b c d) rfl rfl rfl
 |iter f j e g d=>exact a (.iter f j e g d) rfl rfl rfl
 |map f j y g d=>exact a (.map f j y g d) rfl rfl rfl
 |oq=>exact a .oq rfl rfl rfl
structure AA(hp:af Obj)(μ:Mu)(L:Loc)(tX:Bool)(fc:List T):Prop where
 row:∃arr t,hp[L.ja]? =some (.cells arr t (0,0))/\arr.size=L.cap*L.sz/\gY hp μ (fF fc) (arr.toList.take (fF fc).length)
 room:fc.length<=L.cap
 tX:tX=true->L.cap=fc.length
 size:∀v∈fc,v.cells.length=L.sz
 scalar:∀v∈fF fc,v.scalar=true
def adC(c:af Obj)(i:Mu)(j:Loc)(e:List T):Prop:=
 ∃a:af MapEntry,c[j.ja]? =some (.map a a.size)/\a.size=e.length/\
  ∀(d:Nat) h,e[d]? =some h->∃f g b,h= .tuple [f,g]/\a[d]? =some b/\b.born=d/\fI c i f b.key/\fI c i g b.val
def adD(c:af Obj)(i:Mu)(g:Loc)(h:List T):Prop:=
 ∃e d f b a,h=[.map e,.int .i64 (.ofNat f),.int .i64 (.ofNat b),.int .i64 (.ofNat a)]/\fI c i (.map e) (.map (some d))/\b<=a/\
  c[g.ja]? =some (.mapIter (some d) b (Array.range f) a)
structure rG(hp:af Obj)(μ:Mu)(L:Loc)(x:iX):Prop where
 ep:x.ep=L.ep
 sz:x.sz=L.sz
 plain:x.it=false->AA hp μ L x.exact x.fc
 iter:x.it=true->x.ep=0/\((∃s pos,x.fc=[.str s,.int .i64 (.ofNat pos)]/\(∀c∈s,c<256)/\hp[L.ja]? =some (.stringIter (bytesOf s) pos))\/adC hp μ L x.fc\/adD hp μ L x.fc)
structure St(cx:Ctx)(base:Nat)(hp:af Obj)(μ:Mu)(h:H):Prop where
 wf:h.fG.length=h.size
 fit:base<=hp.size
 box:∀b L,μ b=some L->∃x,h.get b=some x/\rG hp μ L x
 inj:∀b b' L L',μ b=some L->μ b'=some L'->L.ja=L'.ja->b=b'
 low:∀b L,μ b=some L->base<=L.ja
 apart:∀b L,μ b=some L->¬μ.pM L.ja
 rE:∀i,μ.pM i->i<hp.size
 Ab:∀g cs,cx.gl g=some cs->fI hp μ (.jH cs) (.pointer (some ⟨g,0,none⟩))
def AA.ext{c d:af Obj}{g h:Mu}{b:Loc}{f:Bool}{e:List T}(a:AA c g b f e)(j:Ext c g d h)(n:d[b.ja]? =c[b.ja]?):AA d h b f e:=by
 have⟨i,o,k,l,m⟩:=a.row;exact⟨⟨i,o,n.trans k,l,m.ext j⟩,a.room,a.tX,a.size,a.scalar⟩
def rG.ext{j k:af Obj}{n o:Mu}{b:Loc}{h:iX}(d:rG j n b h)(c:Ext j n k o)(i:k[b.ja]? =j[b.ja]?):rG k o b h:=
 ⟨d.ep,d.sz,λa=>(d.plain a).ext c i,λa=>by
   obtain⟨l,⟨E,m,e,f,g⟩|⟨q,e,f,g⟩|⟨A,z,m,C,p,e,f,g,w⟩⟩:=d.iter a
   ·grind
   ·refine⟨l,.inr (.inl ⟨q,i.trans e,f,λy h x=>?_⟩)⟩;have⟨a,D,B,r,s,t,u,v⟩:=g y h x;exact⟨a,D,B,r,s,t,u.ext c,v.ext c⟩
   ·exact⟨l,.inr (.inr ⟨A,z,m,C,p,e,f.ext c,g,i.trans w⟩)⟩⟩
def rG.lt{d:af Obj}{g:Mu}{a:Loc}{e:iX}(b:rG d g a e):a.ja<d.size:=by
 cases c:e.it with
 |false=>have⟨h,m,f,_⟩:=(b.plain c).row;grind
 |true=>
  obtain⟨_,⟨s,l,_,_,j⟩|⟨i,f,_⟩|⟨_,_,_,_,_,_,_,_,k⟩⟩:=b.iter c
  ·grind
  ·grind
  grind
def St.lt{cx:Ctx}{e:Nat}{c:af Obj}{d:Mu}{f:H}(s:St cx e c d f){b:Nat}{a:Loc}(g:d b=some a):a.ja<c.size:=by
 have⟨i,_,h⟩:=s.box b a g;exact h.lt
section
section
variable {P:ai}{cx:Ctx}
structure vK(P:ai)(t:ab)(ty:Ty):Prop where
 is:∃cmp,Xe P t cmp=some ty
def jM{a:Nat}(b:a<256):(UInt8.ofNat a).toNat=a:=by
 simp_all
def OP(a:List UInt8):Bj a=some (a.map UInt8.toNat):=by
 induction a with
 |nil=>rfl
 |cons d a b=>
  show(dW (iq d.toNat) λe=>dW (Bj a) λc=>some (e::c))=_;rw[b];simp
def yk(a:ByteArray):bytesOf (a.data.toList.map UInt8.toNat)=a:=by
 unfold bytesOf;rw[cO];have:(UInt8.ofNat∘UInt8.toNat)=id:=by funext b;simp
 rw[this];simp
theorem fI.oJ{hp:af Obj}{μ:Mu}{d:am}{b:T}(a:oJ d=some b):fI hp μ b d/\b.scalar=true:=by
 unfold TI.oJ at a;split at a
 ·simp at a;subst a;exact⟨.bool _,rfl⟩
 ·simp at a;subst a;exact⟨.int _ _,rfl⟩
 ·rename_i f;rw[OP]at a;simp at a;subst a;refine⟨?_,rfl⟩;have:=fI.str (hp:=hp) (μ:=μ) (f.data.toList.map UInt8.toNat) (by intro g c;simp at c;obtain⟨e,_,rfl⟩:=c;exact e.toNat_lt);rwa[yk]at this
 ·simp at a;subst a;exact⟨.kE,rfl⟩
 ·simp at a;subst a;exact⟨.oq,rfl⟩
 ·simp at a;subst a;exact⟨.oc _ _,rfl⟩
 ·simp at a;subst a;exact⟨.kT,rfl⟩
 ·simp at a;subst a;exact⟨.kS,rfl⟩
 grind
theorem gY.tz{hp:af Obj}{μ:Mu}{b:List am}{e:List T}(j:fQ TI.oJ b=some e):gY hp μ e b/\∀f∈e,f.scalar=true:=by
 have⟨hl,h⟩:=sh.1 j;refine⟨⟨hl.symm,λa f d=>?_⟩,λf d=>?_⟩
 ·have i:a<b.length:=by
   grind
  have⟨k,c,g⟩:=h a b[a] dy;rw[d]at c;grind [fI.oJ,List.getD]
 ·obtain⟨a,i,rfl⟩:=db d;have l:a<b.length:=J;have⟨k,c,g⟩:=h a b[a] dy;simp[i]at c;subst c;exact(fI.oJ (hp:=hp) (μ:=μ) g).2
theorem fI.ym{e:af Obj}{f:Mu}{a:List T}{b:af am}(d:gY e f a b.toList)(g:∀c∈a,c.scalar=true):fI e f (.agg a) (.agg b):=
 .agg a b (by simpa using d.1.symm) g λi c h=>by simpa[cg,List.getD]using d.2 i c h
def fI.zK{d:af Obj}{e:Mu}{a:am}{b:T}(c:zK a=some b):fI d e b a:=by
 unfold TI.zK at c
 grind [fI.ym,gY.tz,dI,fI.oJ]
def vK.unfold{e:ab}{c:Ty}(a:vK P e c):∃b d f,P.info? e=some b/\P.underlying e=some d/\b.zero=some f/\fQ oJ f.cells.toList=some c.zero/\
 BX P d=some c.u/\t9 d f=true/\c.zero.length=b.size/\b.size=c.size/\b.bytes=c.bytes/\
 (c.cmp=true->P.stoodInHeld e=false/\P.eqGuardType P.depth e=false/\Mm d=true):=by
 have⟨p,a⟩:=a.is;unfold Xe at a;have⟨b,h,a⟩:=dI.1 a;have⟨d,i,a⟩:=dI.1 a;have⟨f,j,a⟩:=dI.1 a;have⟨r,k,a⟩:=dI.1 a;have⟨q,l,a⟩:=dI.1 a;have⟨m,a⟩:=dQ.1 a;have⟨n,a⟩:=dQ.1 a;have⟨o,a⟩:=dQ.1 a;simp at a;rw[<-a];refine⟨b,d,f,h,i,j,k,l,m,?_,rfl,rfl,?_⟩
 ·rw[j2]at n;simp_all
 ·intro g;simp only[]at g;rw[g]at o
  grind
def vK.run_sizeOf{a:ab}{b:Ty}(d:vK P a b)(c:World):(sizeOf a).run P c= .ok b.size c:=by
 have⟨h,g,i,e,_,_,_,_,_,_,f,_⟩:=d.unfold;simp[sizeOf,typeInfo,e,f]
def vK.run_typeInfo{c:ab}{b:Ty}(e:vK P c b)(d:World):∃a,(typeInfo c).run P d= .ok a d/\a.bytes=b.bytes/\a.size=b.size:=by
 have⟨a,i,j,f,_,_,_,_,_,_,g,h,_⟩:=e.unfold;exact⟨a,by simp[typeInfo,f],h,g⟩
def adr:TypeDesc->Bool
 | .struct _| .array _ _=>true
 |_=>false
def AY{b:TypeDesc}{c:Ty}(a:BX P b=some c.u):c.isAgg=adr b:=by
 unfold Ty.isAgg;cases b<;>simp only[BX]at a<;>first|(injection a with a;rw[<-a];rfl)|(split at a<;>simp at a;rw[<-a];rfl)
def vK.ui{a:ab}{b:Ty}(e:vK P a b)(c:World):(isAgg a).run P c= .ok b.isAgg c:=by
 have⟨h,d,i,_,f,_,_,g,_⟩:=e.unfold;rw[AY g];simp only[isAgg,Sem.run_bind,run_underlying f,Result.andThen_ok];cases d<;>rfl
def vK.zero{s:ab}{a:Ty}(e:vK P s a)(t:World):∃b,(zeroValue s).run P t= .ok b t/\(∀hp μ,fI hp μ a.kt b)/\(∀hp μ,gY hp μ a.zero b.cells.toList)/\
 (∀z∈a.zero,z.scalar=true)/\a.zero.length=a.size/\a.kt.cells=a.zero/\a.kt.ir=true/\b.cells.size=a.size:=by
 have⟨H,n,b,u,D,v,f,o,g,E,F,G,_⟩:=e.unfold;have h:=(gY.tz (hp:= #[]) (μ:=⟨λ_=>none,λ_=>False⟩) f).2;have k:a.zero.length=b.cells.size:=by
  have:=(gY.tz (hp:= #[]) (μ:=⟨λ_=>none,λ_=>False⟩) f).1.1;omega
 refine⟨b,by simp[zeroValue,typeInfo,u,v],?_,λhp μ=>(gY.tz f).1,h,J,?_⟩
 ·intro hp μ;have d:=(gY.tz (hp:=hp) (μ:=μ) f).1;unfold Ty.kt;rw[AY o];cases n with
  |struct C=>cases b with
   |agg m=>exact fI.ym d h
   |_=>simp[t9]at g
  |array I B=>cases b with
   |agg m=>exact fI.ym d h
   |_=>simp[t9]at g
  |_=>
   have i:b.cells= #[b]:=by cases b<;>simp[t9]at g<;>rfl
   rw[i]at d;obtain⟨hl,_⟩:=d;simp at hl
   match l:a.zero,hl with
   | [c],_=>
    have d:=(gY.tz (hp:=hp) (μ:=μ) f).1;rw[i,l]at d;have⟨A,m,q,x,_⟩:=d.mB;simp at q;show fI hp μ c b;rw[q.1];exact x
 ·have p:=AY o;have w:(a.isAgg=true/\a.kt= .agg a.zero)\/(a.isAgg=false/\∃c,a.zero=[c]/\a.kt=c/\c.scalar=true):=by
   cases j:a.isAgg with
   |true=>left;exact⟨rfl,by unfold Ty.kt;rw[j]⟩
   |false=>
    right;refine⟨rfl,?_⟩;have i:b.cells= #[b]:=by
     rw[j]at p;cases n<;>simp[adr]at p<;>cases b<;>simp[t9]at g<;>rfl
    rw[i]at k;simp at k
    match l:a.zero,k with
    | [c],_=>exact⟨c,rfl,by unfold Ty.kt;rw[j,l];rfl,h c (by grind)⟩
  rcases w with⟨_,e⟩|⟨_,c,y,e,r⟩
  ·rw[e];exact⟨rfl,rfl,J⟩
  ·rw[e,y];refine⟨?_,?_,J⟩
   ·cases c<;>simp[T.scalar]at r<;>rfl
   ·cases c<;>simp[T.scalar]at r<;>rfl
structure jg(P:ai)(cx:Ctx):Prop where
 ty:∀t ty,cx.ty t=some ty->vK P t ty
def kz(d:af Obj)(g:Mu)(e:Nat)(c:Env)(f:af am):Prop:=
 ∀a b,c.get e a=some b->fI d g b (f.getD a Go.undef)
def kz.ext{b c:af Obj}{f g:Mu}{d:Nat}{a:Env}{e:af am}(h:kz b f d a e)(l:Ext b f c g):kz c g d a e:=
 λj k i=>(h j k i).ext l
def ig{k:Nat}{c:af Obj}{e:Mu}{n:H}{j:Nat}{g:Env}{f:Act}(q:St cx k c e n)(p:kz c e j g f.tmps){d:ah}{a:T}
 (b:fN cx j g d=some a):fI c e a (f.eval d):=by
 cases d with
 |tmp r=>exact p r a b
 |const s=>exact fI.zK b
 |global m=>
  have⟨l,o,i⟩:=dI.1 b;simp at i;subst i;exact q.Ab m l o
 |func h=>
  have:T.func h []=a:=by grind [fN]
  subst this;exact .func h [] #[] rfl λu a t=>by grind
def wH{i:Nat}{c:af Obj}{e:Mu}{j:H}{h:Nat}{g:Env}{f:Act}(o:St cx i c e j)(n:kz c e h g f.tmps){b:List ah}{d:List T}
 (a:qG cx h g b=some d):gY c e d (b.map f.eval):=by
 induction b generalizing d with
 |nil=>simp_all[qG,gY.nil]
 |cons p b m=>
  unfold qG at a;rw[jO]at a;have⟨r,k,a⟩:=dI.1 a;have⟨q,l,a⟩:=dI.1 a;simp at a;subst a;exact gY.cons (ig o n k) (m l)
end
end
section
section inv
variable {hp:af Obj}{μ:Mu}{c:am}
def fI.qO{b:Bool}(h:fI hp μ (.bool b) c):c= .bool b:=by cases h;rfl
def fI.j3{b:ak}{d:Int}(h:fI hp μ (.int b d) c):c= .int b d:=by cases h;rfl
def fI.lY{b:List Nat}(h:fI hp μ (.str b) c):c= .string (bytesOf b)/\∀d∈b,d<256:=by cases h;grind
def fI.qN(h:fI hp μ .kE c):c= .pointer none:=by cases h;rfl
def fI.ql{f d g i:Nat}(h:fI hp μ (.ptr f d g i) c):∃b a,c= .pointer (some a)/\μ f=some b/\d<=b.ep/\(d=b.ep->a=⟨b.ja,g*b.sz+i,none⟩):=by
 cases h with|ptr _ _ _ _ b a k l j=>grind
def fI.mh{f:List T}(h:fI hp μ (.jH f) c):∃d off b i fz,c= .pointer (some ⟨d,off,none⟩)/\¬nR μ d/\hp[d]? =some (.cells b i fz)/\
 off+f.length<=b.size/\(∀g∈f,vZ g)/\∀(j:Nat) g,f[j]? =some g->fI hp μ g (b.getD (off+j) Go.undef):=by
 cases h with|jH _ d off b i fz m l n k hr=>exact⟨d,off,b,i,fz,rfl,m,l,n,k,hr⟩
def fI.tJ{j g o f:Nat}{i:Bool}(h:fI hp μ (.arr j g o f i) c):∃b a d,c= .slice a f d/\μ j=some b/\g<=b.ep/\f<=d/\
 (g=b.ep->(i=true->d=f)/\(i=false->o+d=b.cap)/\(d≠0->a=some ⟨b.ja,o*b.sz,none⟩)):=by
 cases h with|arr _ _ _ _ _ b a d k l hl h=>grind
def fI.A0(h:fI hp μ .gW c):∃a b,c= .slice a 0 b:=by cases h;simp
def fI.uI{b:Bool}(h:fI hp μ (.dK [] b) c):∃a,c= .slice a 0 0:=by cases h;simp
def fI.uJ{j:T}{b:List T}{m:Bool}(h:fI hp μ (.dK (j::b) m) c):∃g off i k f l fz,c= .slice (some ⟨g,off,none⟩) (b.length+1) i/\¬nR μ g/\
 hp[g]? =some (.cells f l fz)/\b.length+1<=i/\(m=true->i=b.length+1)/\(∀d∈j::b,d.cells.length=k)/\off+(fF (j::b)).length<=f.size/\
 (∀d∈fF (j::b),vZ d)/\∀(n:Nat) d,(fF (j::b))[n]? =some d->fI hp μ d (f.getD (off+n) Go.undef):=by
 cases h with|dK _ _ _ g off i k f l fz s r hl q u t p hr=>exact⟨g,off,i,k,f,l,fz,rfl,s,r,hl,q,u,t,p,hr⟩
def fI.sq{f:aj}{d:List T}(h:fI hp μ (.func f d) c):∃b,c= .func (.func f) #[] b/\gY hp μ d b.toList:=by
 cases h with|func _ _ b g hr=>exact⟨b,rfl,by grind,λj k i=>by simp_all⟩
def fI.uL(h:fI hp μ .kT c):c= .nilFunc:=by cases h;rfl
def fI.uK(h:fI hp μ .kS c):c= .nilIface:=by cases h;rfl
def fI.xI{b:ab}{f:T}(h:fI hp μ (.iface b f) c):∃d,c= .iface b d:=by cases h;simp
def fI.RB{d:Nat}(h:fI hp μ (.iter d) c):∃b a,c= .pointer (some a)/\μ d=some b/\(b.ep=0->a=⟨b.ja,0,none⟩):=by
 cases h with|iter _ b a f h=>grind
def fI.qm{d:List T}(h:fI hp μ (.agg d) c):∃b,c= .agg b/\gY hp μ d b.toList/\∀f∈d,f.scalar=true:=by
 cases h with|agg _ b i g hr=>exact⟨b,rfl,⟨by grind,λk f j=>by simp_all⟩,g⟩
def fI.AZ{d:List T}(h:fI hp μ (.tuple d) c):∃b,c= .tuple b/\gY hp μ d b.toList:=by
 cases h with|tuple _ b f hr=>exact⟨b,rfl,by grind,λi j g=>by simp_all⟩
end inv
section
variable {P:ai}{cx:Ctx}{base:Nat}{w:World}{μ:Mu}{h:H}{mask:Nat}{e:Env}{a:Act}{o:Oper}
def yS(μ g:Mu)(d f:Nat):Prop:=d<=f/\(∀b,g b≠none->μ b≠none\/(d<=b/\b<f))/\∀b,d<=b->b<f->g b≠none
def yS.refl(μ:Mu)(b:Nat):yS μ μ b b:=⟨au _,λ_ h=> .inl h,λf g d=>absurd d J⟩
def yS.trans{hp s t:af Obj}{μ i j:Mu}{k g l:Nat}(h:yS μ i k g)(d:yS i j g l)(x:Ext s i t j):yS μ j k l:=by
 have v:=h.1;have z:=d.1;refine⟨aO h.1 d.1,λb f=>?_,λb f q=>?_⟩
 ·rcases d.2.1 b f with x|x
  ·rcases h.2.1 b x with y|y
   ·grind
   omega
  omega
 ·by_cases r:b<g
  ·have⟨m,n⟩:=Option.ne_none_iff_exists'.1 (h.2.2 b f r);have⟨u,p,_⟩:=x.mu b m n;rw[p];simp
  ·exact d.2.2 b J q
def jp(cx:Ctx)(base:Nat)(w:World)(μ:Mu)(i:Nat)(g:Result Next)(j:T)(f:H):Prop:=
 ∃c b d,(g= .ok (.value c) b\/(g= .ok .skip b/\c=Go.undef))/\fI b.heap d j c/\St cx base b.heap d f/\qg w μ b d/\yS μ d i f.size
def jp.pure{b:Result Next}{d:T}{c:am}(g:St cx base w.heap μ h)(hr:b= .ok (.value c) w)(f:fI w.heap μ d c):jp cx base w μ h.size b d h:=
 ⟨c,w,μ,.inl hr,f,g,qg.refl _ _,yS.refl _ _⟩
theorem fT{h d:H}{b:aa T}{f:T}:val h b=some (.val f d)↔b=some f/\d=h:=by
 unfold val;cases b with
 |none=>simp
 |some g=>simp;grind
def Bp{h:H}{b:aa T}{f:aj}{d:List T}:val h b≠some (.call f d):=by
 unfold val;cases b<;>simp
theorem BL{d:ah}(g:St cx base w.heap μ h)(l:kz w.heap μ mask e a.tmps)(b:o.op= .move d\/o.op= .assign d){i:T}{f:H}
 (j:DJ d cx mask e h=some (.val i f)):jp cx base w μ h.size ((execOp a.eval o).run P w) i f:=by
 obtain⟨k,rfl⟩:=fT.1 j;refine jp.pure g ?_ (ig g l k);rcases b with b|b<;>simp[execOp,b]
theorem Jc{c n p:ah}(d:St cx base w.heap μ h)(i:kz w.heap μ mask e a.tmps)(l:o.op= .pick c n p){m:T}{j:H}
 (b:F3 c n p cx mask e h=some (.val m j)):jp cx base w μ h.size ((execOp a.eval o).run P w) m j:=by
 obtain⟨f,q,b⟩:=dI.1 b;have r:=ig d i q;cases f<;>simp at b;rename_i f;have k:=r.qO;cases f with
 |false=>
  obtain⟨g,rfl⟩:=fT.1 b;exact jp.pure d (by simp[execOp,l,k,asBool]) (ig d i g)
 |true=>
  obtain⟨g,rfl⟩:=fT.1 b;exact jp.pure d (by simp[execOp,l,k,asBool]) (ig d i g)
theorem B1{l:ah}(g:St cx base w.heap μ h)(p:kz w.heap μ mask e a.tmps)(i:o.op= .nilCheck l){k:T}{j:H}
 (f:rU l cx mask e h=some (.val k j)):jp cx base w μ h.size ((execOp a.eval o).run P w) k j:=by
 have⟨m,n,f⟩:=dI.1 f;have d:=ig g p n;cases m<;>simp at f
 ·obtain⟨rfl,rfl⟩:=f;have⟨q,r,b,_⟩:=d.ql;exact jp.pure g (by simp[execOp,i,b]) (b▸d)
 ·obtain⟨rfl,rfl⟩:=f;have⟨t,off,s,v,fz,b,_⟩:=d.mh;exact jp.pure g (by simp[execOp,i,b]) (b▸d)
 ·obtain⟨rfl,rfl⟩:=f;have⟨u,b,_⟩:=d.sq;exact jp.pure g (by simp[execOp,i,b]) (b▸d)
theorem Hc(jq:jg P cx){d:ab}{g:ah}(p:St cx base w.heap μ h)(B:kz w.heap μ mask e a.tmps)(x:o.op= .makeInterface d g){f:T}{k:H}
 (b:A7 d g cx mask e h=some (.val f k)):jp cx base w μ h.size ((execOp a.eval o).run P w) f k:=by
 have⟨q,y,b⟩:=dI.1 b;have⟨F,j,G,C,s,D,E,l,_⟩:=(jq.ty d q y).unfold;have A:∀{i:H},(dW (fN cx mask e g) λa=>gX a.ir (val h (some (.iface d a))))=some (.val f i)->(∀n,j≠ .interface n)->jp cx base w μ h.size ((execOp a.eval o).run P w) f i:=by
  intro i b v;have⟨r,t,b⟩:=dI.1 b;have⟨_,b⟩:=dQ.1 b;obtain⟨m,rfl⟩:=fT.1 b;simp at m;subst m;refine jp.pure (c:= .iface d (a.eval g)) p ?_ (.iface d r _ (ig p B t));simp only[execOp,x,Instr.makeInterface,Sem.run_bind,run_underlying s,Result.andThen_ok];cases j<;>first|rfl|exact absurd rfl (v _)
 cases z:q.u<;>rw[z]at b l<;>first|(exact A b (by rintro n rfl;simp[BX]at l))|grind
theorem Jh{j:Fn}{first g:af ah}(m:St cx base w.heap μ h)(s:kz w.heap μ mask e a.tmps)(q:o.op= .makeFunc j first g){f:T}{k:H}
 (b:DM j first g cx mask e h=some (.val f k)):jp cx base w μ h.size ((execOp a.eval o).run P w) f k:=by
 unfold DM at b;split at b
 ·rename_i i;split at b
  ·rename_i t;obtain⟨n,p,b⟩:=dI.1 b;obtain⟨d,rfl⟩:=fT.1 b;simp at d;subst d;have l:=wH m s p;refine jp.pure (c:= .func (.func i) #[] (g.map a.eval)) m ?_ (.func i n _ (by simpa using l.1.symm) λr f d=>?_)
   ·have:first= #[]:=by grind
    simp[execOp,q,Instr.makeFunc,this]
   ·have:=l.2 r f d;simp_all
  grind
 grind
theorem DO{j:ah}{f:Nat}(g:St cx base w.heap μ h)(t:kz w.heap μ mask e a.tmps)(q:o.op= .extract j f){i:T}{d:H}
 (b:uM j f cx mask e h=some (.val i d)):jp cx base w μ h.size ((execOp a.eval o).run P w) i d:=by
 have⟨k,m,b⟩:=dI.1 b;have n:=ig g t m;cases k<;>simp at b;obtain⟨s,rfl⟩:=fT.1 b;have⟨u,r,l⟩:=n.AZ;have⟨c,v,p⟩:=l.get s;exact jp.pure g (by simp only[execOp,q,r,Instr.extract];simp_all) p
end
end
section
section
variable {P:ai}{cx:Ctx}{base:Nat}{w:World}{μ:Mu}{h:H}{mask:Nat}{e:Env}{a:Act}{o:Oper}{hp:af Obj}
def vl{i j g:T}{f:ak->Int->Int->aa T}(h:xQ i j f=some g):∃b c d,i= .int b c/\j= .int b d/\f b c d=some g:=by
 unfold xQ at h;split at h
 ·rename_i b c;split at h
  ·rename_i m d;obtain⟨k,l⟩:=dQ.1 h;rw[yF]at k;grind
  grind
 grind
def wm{j k i:T}{f:ak->Int->Nat->aa T}(h:AH j k f=some i):∃c d g b,j= .int c d/\k= .int g (.ofNat b)/\f c d (min b c.bits)=some i:=by
 unfold AH at h;split at h
 ·rename_i c d;split at h
  ·rename_i g b;cases b with
   |ofNat b=>grind
   |negSucc b=>grind
  grind
 grind
def HL{j k i:T}{l:Int->Int->Bool}{m:List Nat->List Nat->Bool}(h:Lu j k l m=some i):
 (∃b c d,j= .int b c/\k= .int b d/\i= .bool (l c d))\/(∃f g,j= .str f/\k= .str g/\i= .bool (m f g)):=by
 unfold Lu at h;split at h
 ·rename_i b c;split at h
  ·rename_i q d;obtain⟨n,p⟩:=dQ.1 h;rw[yF]at n;subst n;rw[r9]at p;grind
  grind
 ·rename_i f;split at h
  ·rename_i g;rw[r9]at h;grind
  grind
 grind
def o8(b:List Nat):(bytesOf b).toList=b.map UInt8.ofNat:=by
 rw[ByteArray.toList_eq];rfl
def j1(b:List Nat):(bytesOf b).size=b.length:=by simp[bytesOf,ByteArray.size]
theorem ofNat_inj{b c:Nat}(d:b<256)(f:c<256)(h:UInt8.ofNat b=UInt8.ofNat c):b=c:=by
 have:=bR UInt8.toNat h;rwa[jM d,jM f]at this
theorem EH{c b:List Nat}(g:∀d∈c,d<256)(ht:∀d∈b,d<256)(h:c.map UInt8.ofNat=b.map UInt8.ofNat):c=b:=by
 induction c generalizing b with
 |nil=>simp_all
 |cons d c j=>cases b with
  |nil=>grind
  |cons k b=>
   simp only[aP,aL]at h;rw[ofNat_inj (g d dy) (ht k dy) h.1,j (λf i=>g f (by grind)) (λf i=>ht f (by grind)) h.2]
def Af{b c:List Nat}(f:∀d∈b,d<256)(ht:∀d∈c,d<256):((bytesOf b).toList==(bytesOf c).toList)=WB b c:=by
 rw[HA,o8,o8,bp,beq_iff_eq,beq_iff_eq]
 grind [EH]
def Dw(b:Nat)(d:List Nat)(c:Nat)(f:List Nat):Tu (b::d) (c::f)=(decide (b<c)||(b==c&&Tu d f)):=by
 show @Bool.rec (λ_=>Bool) (@Bool.rec (λ_=>Bool) false (Tu d f) (Nat.beq b c)) true (Nat.blt b c)=_;have g:Nat.blt b c=decide (b<c):=by rw[bp,aJ];simp
 have i:Nat.beq b c=(b==c):=by rw[bp,Nat.beq_eq];simp
 rw[g,i];cases decide (b<c)<;>cases (b==c)<;>rfl
def zR{d c:List Nat}(i:∀b∈d,b<256)(ht:∀b∈c,b<256):Op.bytesLess (bytesOf d).toList (bytesOf c).toList=Tu d c:=by
 rw[o8,o8];induction d generalizing c with
 |nil=>cases c<;>rfl
 |cons b d p=>cases c with
  |nil=>rfl
  |cons f c=>
   have l:=i b dy;have m:=ht f dy;rw[Dw];simp only[aP,Op.bytesLess];rw[p (λg n=>i g (by grind)) (λg n=>ht g (by grind))];have j:(decide (UInt8.ofNat b<UInt8.ofNat f))=decide (b<f):=by
    rw[bp,decide_eq_true_iff,decide_eq_true_iff,UInt8.lt_iff_toNat_lt,jM l,jM m]
   have k:(UInt8.ofNat b==UInt8.ofNat f)=(b==f):=by
    rw[bp,beq_iff_eq,beq_iff_eq]
    grind [ofNat_inj]
   rw[j,k]
def FU(c b:List Nat):(Tu c b||WB c b)= !Tu b c:=by
 induction c generalizing b with
 |nil=>cases b<;>rfl
 |cons f c d=>cases b with
  |nil=>rfl
  |cons g b=>
   rw[Dw,Dw,HA,List.cons_beq_cons,<-HA];have:=d b
   grind
def Ei(b c:List Nat):bytesOf (b++c)=bytesOf b++bytesOf c:=by
 apply ByteArray.ext;simp[bytesOf,ByteArray.data_append]
def JJ{p:BinOp}{i q l:T}{y A:am}(x:ab)(S:p≠ .eql)(V:p≠ .neq)(u:fI hp μ i y)(v:fI hp μ q A)(b:binop p i q=some l):
 ∃j,(binOp p x y A).run P w= .ok j w/\fI hp μ l j:=by
 have gG:∀{t:ak->Int->Int->aa T},xQ i q t=some l->
  (∀k d c,t k d c=some l->∃j,(binOp p x (.int k d) (.int k c)).run P w= .ok j w/\fI hp μ l j)->∃j,(binOp p x y A).run P w= .ok j w/\fI hp μ l j:=by
  intro t I R;obtain⟨k,d,c,rfl,rfl,m⟩:=vl I;rw[u.j3,v.j3];exact R k d c m
 have z:∀{t:Int->Int->Bool} {G:List Nat->List Nat->Bool},Lu i q t G=some l->
  (∀k d c,(binOp p x (.int k d) (.int k c)).run P w= .ok (.bool (t d c)) w)->
  (∀f g,(∀i∈f,i<256)->(∀i∈g,i<256)->(binOp p x (.string (bytesOf f)) (.string (bytesOf g))).run P w= .ok (.bool (G f g)) w)->∃j,(binOp p x y A).run P w= .ok j w/\fI hp μ l j:=by
  intro t G I B m;rcases HL I with⟨k,d,c,rfl,rfl,rfl⟩|⟨f,g,rfl,rfl,rfl⟩
  ·rw[u.j3,v.j3];exact⟨_,B k d c,.bool _⟩
  ·have⟨E,C⟩:=u.lY;have⟨F,D⟩:=v.lY;rw[E,F];exact⟨_,m f g C D,.bool _⟩
 cases p with
 |eql=>exact absurd rfl S
 |neq=>exact absurd rfl V
 |add=>
  have b:Vm i q=some l:=b;by_cases M:∃f,i= .str f
  ·obtain⟨f,rfl⟩:=M;by_cases N:∃g,q= .str g
   ·obtain⟨g,rfl⟩:=N;have b:(dW (Fg f g) λL=>gX (Nat.ble (kY L) 4294967296) (some (T.str L)))=some l:=b;have⟨L,B,b⟩:=dI.1 b;have⟨hl,b⟩:=dQ.1 b;simp at B b;subst B;subst b;have hl:=bh hl;rw[j2,aS]at hl;have⟨E,C⟩:=u.lY;have⟨F,D⟩:=v.lY;rw[E,F];refine⟨.string (bytesOf (f++g)),?_,.str _ (by intro j n;rcases List.mem_append.1 n with k|k;exact C j k;exact D j k)⟩;rw[Ei];have Q:¬(((bytesOf f).size+(bytesOf g).size:Nat):Int)>IntKind.i64.max:=by
     rw[j1,j1];have:IntKind.i64.max=9223372036854775807:=dB;rw[this];omega
    simp only[binOp,Op.stringOp,Q,bE,Sem.run_pure]
   ·exfalso;unfold Vm at b;cases q<;>first|(simp at b;done)|exact N ⟨_,rfl⟩
  ·have b:xQ i q (λk a O=>qz k (a+O))=some l:=by
    unfold Vm at b;cases i<;>first|exact b|exact absurd ⟨_,rfl⟩ M
   refine gG b λk d c h=>?_;rw[ze]at h;simp at h;subst h;exact⟨_,by simp[binOp,Op.intArith],.int _ _⟩
 |sub=>
  refine gG b λk d c h=>?_;rw[ze]at h;simp at h;subst h;exact⟨_,by simp[binOp,Op.intArith],.int _ _⟩
 |mul=>
  refine gG b λk d c h=>?_;rw[ze]at h;simp at h;subst h;exact⟨_,by simp[binOp,Op.intArith],.int _ _⟩
 |quo=>
  refine gG b λk d c h=>?_;cases n:Tz c 0 with
  |true=>rw[n]at h;simp at h
  |false=>
   rw[n]at h;have K:¬c=0:=by rw[yJ]at n;simpa using n
   simp only[ze]at h;simp at h;subst h;exact⟨_,by simp[binOp,Op.intDiv,K],.int _ _⟩
 |rem=>
  refine gG b λk d c h=>?_;cases n:Tz c 0 with
  |true=>rw[n]at h;grind
  |false=>
   rw[n]at h;have K:¬c=0:=by rw[yJ]at n;grind
   simp only[pj]at h;simp at h;subst h;exact⟨_,by simp[binOp,Op.intDiv,K],.int _ _⟩
 |and=>
  refine gG b λk d c h=>?_;rw[pj]at h;simp only[ar]at h;subst h;exact⟨_,by simp[binOp,Op.intBits],.int _ _⟩
 |or=>
  refine gG b λk d c h=>?_;rw[pj]at h;simp only[ar]at h;subst h;exact⟨_,by simp[binOp,Op.intBits],.int _ _⟩
 |xor=>
  refine gG b λk d c h=>?_;rw[pj]at h;simp only[ar]at h;subst h;exact⟨_,by simp[binOp,Op.intBits],.int _ _⟩
 |shl=>
  have b:AH i q (λk a c=>yt k (k.wrap (a*2^c)))=some l:=b;obtain⟨k,d,W,c,rfl,rfl,m⟩:=wm b;rw[u.j3,v.j3];rw[pj]at m;simp only[ar]at m;subst m;have U:¬((c:Nat):Int)<0:=J;exact⟨_,by rfl,.int _ _⟩
 |shr=>
  have b:AH i q (λk a c=>yt k (a.fdiv (2^c)))=some l:=b;obtain⟨k,d,W,c,rfl,rfl,m⟩:=wm b;rw[u.j3,v.j3];rw[pj]at m;simp only[ar]at m;subst m;have U:¬((c:Nat):Int)<0:=J;exact⟨_,by rfl,.int _ _⟩
 |lss=>exact z b (λk d c=>by simp[binOp,Op.intCmp,yC]) (λf g r s=>by simp only[binOp,Op.stringOp,zR r s,Sem.run_pure])
 |leq=>exact z b (λk d c=>by simp only[binOp,Op.intCmp,yC,ne_eq,not_true,bE,Sem.run_pure];congr 2;rw[bp];simp) (λf g r s=>by simp only[binOp,Op.stringOp,zR r s,Af r s,Sem.run_pure,FU])
 |gtr=>exact z b (λk d c=>by simp[binOp,Op.intCmp,yC]) (λf g r s=>by simp only[binOp,Op.stringOp,zR r s,Af r s,Sem.run_pure,FU,Bool.not_not])
 |geq=>exact z b (λk d c=>by simp only[binOp,Op.intCmp,yC,ne_eq,not_true,bE,Sem.run_pure];congr 2;rw[bp];simp) (λf g r s=>by simp only[binOp,Op.stringOp,zR r s,Sem.run_pure])
 |_=>grind [binop]
def Fa{b:BinOp}{i:ab}{j k:ah}{c d:am}(f:b≠ .eql)(g:b≠ .neq):(eqGuard b i j k c d).run P w= .ok () w:=by
 cases b<;>first|(exact absurd rfl f)|(exact absurd rfl g)|(simp[eqGuard])
def K9{c:BinOp}{k t:ab}{m n:ah}(g:c≠ .eql)(i:c≠ .neq)(d:St cx base w.heap μ h)(j:kz w.heap μ mask e a.tmps)(p:o.op= .binOp c k m n t){l:T}{f:H}
 (b:Oy c m n cx mask e h=some (.val l f)):jp cx base w μ h.size ((execOp a.eval o).run P w) l f:=by
 have⟨u,hp,b⟩:=dI.1 b;have⟨v,q,b⟩:=dI.1 b;obtain⟨r,rfl⟩:=fT.1 b;have⟨x,s,hr⟩:=JJ (P:=P) (w:=w) k g i (ig d j hp) (ig d j q) r;refine jp.pure d ?_ hr;simp only[execOp,p,Sem.run_bind,Fa g i,Result.andThen_ok,s,Sem.run_pure]
theorem Ov{d:UnOp}{r:ab}{m:ah}(f:St cx base w.heap μ h)(q:kz w.heap μ mask e a.tmps)(j:o.op= .unOp d r m){l:T}{g:H}
 (c:hUn d m cx mask e h=some (.val l g)):jp cx base w μ h.size ((execOp a.eval o).run P w) l g:=by
 obtain⟨k,hp,c⟩:=dI.1 c;obtain⟨b,rfl⟩:=fT.1 c;have i:=ig f q hp;cases d with
 |neg=>
  cases k<;>simp[unop]at b;subst b;exact jp.pure f (by simp[execOp,j,i.j3,Op.unary,Op.intArith]) (.int _ _)
 |not=>
  cases k<;>simp[unop]at b;rename_i n;have p:=i.qO;cases n<;>simp at b<;>subst b<;>exact jp.pure f (by simp[execOp,j,p,Op.unary]) (.bool _)
 |_=>simp[unop]at b
end
end
section
section
variable {P:ai}{cx:Ctx}{base:Nat}{w:World}{μ:Mu}{h:H}{mask:Nat}{e:Env}{a:Act}{o:Oper}{hp:af Obj}
def kM{c:ab}{d:Ty}(h:vK P c d):∃b,P.underlying c=some b/\BX P b=some d.u:=by
 have⟨i,b,j,_,f,_,_,g,_⟩:=h.unfold
 grind
def xd{b:TypeDesc}{c:ak}(h:BX P b=some (.int c)):b= .int c:=by
 cases b<;>simp only[BX]at h<;>first|(split at h<;>simp at h;done)|(simp at h;done)|grind
def Pj{b:TypeDesc}(h:BX P b=some .bool):b= .bool:=by
 cases b<;>simp only[BX]at h<;>first|rfl|(split at h<;>simp at h;done)|(simp at h;done)
theorem sU{b:TypeDesc}(h:BX P b=some .str):b= .string:=by
 cases b<;>simp only[BX]at h<;>first|rfl|(split at h<;>simp at h;done)|(simp at h;done)
def lZ{b:TypeDesc}{e:ab}(h:BX P b=some (.slice e)):b= .slice e:=by
 cases b<;>simp only[BX]at h<;>first|(split at h<;>simp at h;done)|(simp at h;done)|grind
def rR{b:TypeDesc}{c:Nat}{e:ab}(h:BX P b=some (.array c e)):b= .array c e:=by
 cases b<;>simp only[BX]at h<;>first|(split at h<;>simp at h;done)|(simp at h;done)|grind
def TG{b:TypeDesc}{e:ab}(h:BX P b=some (.ptr e)):b= .pointer e:=by
 cases b<;>simp only[BX]at h<;>first|(split at h<;>simp at h;done)|(simp at h;done)|grind
def Pi{b:TypeDesc}(h:BX P b=some .func):∃c d f,b= .func c d f:=by
 cases b<;>simp only[BX]at h<;>first|(split at h<;>simp at h;done)|(simp at h;done)|simp
def Nm{b:TypeDesc}(h:BX P b=some .iface):∃c,b= .interface c:=by
 cases b<;>simp only[BX]at h<;>first|(split at h<;>simp at h;done)|(simp at h;done)|simp
def r6{d:TypeDesc}{g:List (Nat×ab)}(h:BX P d=some (.struct g)):
 ∃c,d= .struct c/\g=c.toList.map (λb=>(b.offset,b.type))/\∀b∈c.toList,∃f,P.info? b.type=some f/\f.size≠0:=by
 cases d<;>simp only[BX]at h<;>try (simp at h;done)
 rename_i c;split at h
 ·rename_i j;simp only[ar,U.struct.injEq]at h;refine⟨c,rfl,h.symm,λb k=>?_⟩;have:=List.all_eq_true.1 j b k;cases i:P.info? b.type with
  |none=>rw[i]at this;grind
  |some f=>rw[i]at this;grind
 grind
def bytes_beq{b c:List Nat}(f:∀d∈b,d<256)(ht:∀d∈c,d<256):(bytesOf b==bytesOf c)=WB b c:=by
 rw[beq_toListBytes,Af f ht]
def vm{l:ab}{p:TypeDesc}{t:U}{j g:T}{n s:am}{m:Bool}(d:P.underlying l=some p)(k:BX P p=some t)(i:fI hp μ j n)(f:fI hp μ g s)
 (b:sH t j g=some m) (F:Nat):(Op.equalIn (F+1) l n s).run P w= .ok m w:=by
 unfold sH at b;split at b
 ·have:=xd k;subst this;cases j<;>simp at b;cases g<;>simp at b;obtain⟨q,r⟩:=dQ.1 b;rw[yF]at q;subst q;simp at r;subst r;rw[i.j3,f.j3];simp[Op.equalIn,run_underlying d,yJ]
 ·have:=Pj k;subst this;cases j<;>simp at b;cases g<;>simp at b;rename_i G I;rw[i.qO,f.qO];cases G<;>cases I<;>simp at b<;>subst b<;>simp[Op.equalIn,run_underlying d]
 ·have:=sU k;subst this;cases j<;>simp at b;cases g<;>simp at b;subst b;obtain⟨D,y⟩:=i.lY;obtain⟨E,z⟩:=f.lY;rw[D,E];simp[Op.equalIn,run_underlying d,bytes_beq y z]
 ·have:=TG k;subst this;cases j<;>simp at b
  ·rw[i.qN];cases g<;>simp at b<;>subst b
   ·rw[f.qN];simp[Op.equalIn,run_underlying d]
   ·obtain⟨u,v,c,_⟩:=f.ql;rw[c];simp[Op.equalIn,run_underlying d]
   ·obtain⟨A,off,x,l,fz,c,_⟩:=f.mh;rw[c];simp[Op.equalIn,run_underlying d]
  ·obtain⟨u,v,c,_⟩:=i.ql;cases g<;>simp at b;subst b;rw[f.qN,c];simp[Op.equalIn,run_underlying d]
  ·obtain⟨A,off,x,l,fz,c,_⟩:=i.mh;cases g<;>simp at b;subst b;rw[f.qN,c];simp[Op.equalIn,run_underlying d]
 ·obtain⟨L,M,N,rfl⟩:=Pi k;cases j<;>simp at b
  ·obtain⟨B,c,_⟩:=i.sq;cases g<;>simp at b;subst b;rw[f.uL,c];simp[Op.equalIn,run_underlying d]
  ·rw[i.uL];cases g<;>simp at b<;>subst b
   ·obtain⟨B,c,_⟩:=f.sq;rw[c];simp[Op.equalIn,run_underlying d]
   ·rw[f.uL];simp[Op.equalIn,run_underlying d]
 ·obtain⟨K,rfl⟩:=Nm k;cases j<;>simp at b
  ·rw[i.uK];cases g<;>simp at b<;>subst b
   ·rw[f.uK];simp[Op.equalIn,run_underlying d]
   ·obtain⟨C,c⟩:=f.xI;rw[c];simp[Op.equalIn,run_underlying d]
  ·obtain⟨C,c⟩:=i.xI;cases g<;>simp at b;subst b;rw[f.uK,c];simp[Op.equalIn,run_underlying d]
 grind
def Fb(b:Nat×ab)(d:List (Nat×ab))(c:Nat)(j:T)(g:List T)(k:T)(f:List T):eqFields cx (b::d) c (j::g) (k::f)=
 gX (Nat.beq b.1 c) (dW (cx.ty b.2) λi=>gX i.u.plain (dW (sH i.u j k) λl=> @Bool.rec (λ_=>aa Bool) (some false) (eqFields cx d (c+1) g f) l)):=rfl
def run_part_plain{g:ab}{b:Ty}(h:vK P g b)(hp:b.u.plain=true){d:af am}{f:Nat}{c:am}(j:d[f]? =some c):(part g d f).run P w= .ok c w:=by
 have i:b.isAgg=false:=by
  unfold Ty.isAgg;cases k:b.u<;>simp[k,U.plain]at hp<;>rfl
 simp[part,h.ui,i,j]
def D3(jq:jg P cx)(t:Nat):∀(m:List Field) (c:Nat) (g i:List T) (j l:af am) (f:Bool),
 gY hp μ g (j.toList.drop c)->gY hp μ i (l.toList.drop c)->(∀d∈m,d.name≠ "_")->eqFields cx (m.map λd=>(d.offset,d.type)) c g i=some f->
 (Op.eqFields (t+1) j l m).run P w= .ok f w:=by
 intro m;induction m with
 |nil=>
  intro c g i j l f _ _ _ b;have:f=true:=by simpa[eqFields]using b.symm
  subst this;simp[Op.eqFields]
 |cons d m R=>
  intro c g i j l f r s q b;rw[aP]at b;cases g with
  |nil=>simp[eqFields]at b
  |cons U g=>cases i with
   |nil=>simp[eqFields]at b
   |cons V i=>
    rw[Fb]at b;have⟨z,b⟩:=dQ.1 b;have⟨X,A,b⟩:=dI.1 b;have⟨p,b⟩:=dQ.1 b;have⟨S,B,b⟩:=dI.1 b;have M:d.offset=c:=aF z;have⟨u,C,O⟩:=r.get (k:=0) (v:=U) dy;have⟨x,E,Q⟩:=s.get (k:=0) (v:=V) dy;have D:j[c]? =some u:=by simpa using C
    have G:l[c]? =some x:=by simpa using E
    have n:=jq.ty _ _ A;have⟨W,F,N⟩:=kM n;have I:=vm (P:=P) (w:=w) F N O Q B t;have L:d.name≠ "_" :=q d dy;simp only[Op.eqFields,L,ne_eq,not_false_eq_true,bF,Sem.run_bind,M,run_part_plain n p D,run_part_plain n p G,Result.andThen_ok,I];cases S with
    |false=>
     have:f=false:=by simpa using b.symm
     subst this;simp
    |true=>
     simp only[Bool.not_true,cF,bE];refine R (c+1) g i j l f ?_ ?_ (λy K=>q y (by simp[K])) b
     ·have:=r.drop 1;simpa[cV,Nat.add_comm]using this
     ·have:=s.drop 1;simpa[cV,Nat.add_comm]using this
def Fc{e:ab}{l:Ty}(m:vK P e l)(n:l.u.plain=true)(r:Nat):∀(g d:List T) (f:Nat) (i j:af am) (c:Bool),
 gY hp μ g (i.toList.drop f)->gY hp μ d (j.toList.drop f)->Ag l.u g d=some c->(Op.eqItems (r+1) e 1 i j (List.range' f g.length)).run P w= .ok c w:=by
 intro g;induction g with
 |nil=>
  intro d f i j c _ _ b;have:c=true:=by
   cases d with
   |nil=>have b:some true=some c:=b;simpa using b.symm
   |cons=>simp[Ag]at b
  subst this;simp[Op.eqItems]
 |cons s g L=>
  intro d f i j c p q b;cases d with
  |nil=>simp[Ag]at b
  |cons t d=>
   have b:(dW (sH l.u s t) λN=> @Bool.rec (λ_=>aa Bool) (some false) (Ag l.u g d) N)=some c:=b;have⟨M,z,b⟩:=dI.1 b;have⟨x,A,I⟩:=p.get (k:=0) (v:=s) dy;have⟨y,C,K⟩:=q.get (k:=0) (v:=t) dy;have B:i[f]? =some x:=by simpa using A
   have E:j[f]? =some y:=by simpa using C
   have⟨O,D,G⟩:=kM m;have F:=vm (P:=P) (w:=w) D G I K z r;rw[aT,List.range'_succ];simp only[Op.eqItems,Sem.run_bind,Nat.mul_one,run_part_plain m n B,run_part_plain m n E,Result.andThen_ok,F];cases M with
   |false=>
    have:c=false:=by simpa using b.symm
    subst this;simp
   |true=>
    simp only[Bool.not_true,cF,bE];refine L d (f+1) i j c ?_ ?_ b
    ·have:=p.drop 1;simpa[cV,Nat.add_comm]using this
    ·have:=q.drop 1;simpa[cV,Nat.add_comm]using this
theorem Jp{f:BinOp}{g:ab}{b c:ah}(d:(Region.isConst b||Region.isConst c)=true):(eqGuard f g b c .nilIface .nilIface).run P w= .ok () w:=by
 unfold eqGuard;cases b<;>cases c<;>simp[Region.isConst]at d<;>simp
def F4(jq:jg P cx){neg:Bool}{E:BinOp}{t u:ab}{D y:ah}(f:E=(if neg then BinOp.neq else BinOp.eql))(s:St cx base w.heap μ h)(r:kz w.heap μ mask e a.tmps)
 (ca:o.op= .binOp E t D y u) {v:T} {av:H} (B:Ym neg t D y cx mask e h=some (.val v av)):jp cx base w μ h.size ((execOp a.eval o).run P w) v av:=by
 obtain⟨ec,c4,B⟩:=dI.1 B;obtain⟨F,hp,B⟩:=dI.1 B;obtain⟨x,Q,B⟩:=dI.1 B;obtain⟨a7,B⟩:=dQ.1 B;obtain⟨A,b,B⟩:=dI.1 B;obtain⟨bi,rfl⟩:=fT.1 B;have q:=ig s r hp;have j:=ig s r Q;have c1:=jq.ty _ _ c4;have b6:v= .bool (if neg then !A else A):=by
  rw[r9]at bi;cases neg<;>simpa using bi.symm
 subst b6;have bn:(eqGuard E t D y (a.eval D) (a.eval y)).run P w= .ok () w/\(binOp E t (a.eval D) (a.eval y)).run P w= .ok (.bool (if neg then !A else A)) w:=by
  obtain⟨i,d,z,_,O,_,_,L,_,_,_,_,aA⟩:=c1.unfold;unfold Pc at b;split at b
  ·rename_i dm ae;rw[ae]at L;obtain⟨an,rfl,b7,_⟩:=r6 L;cases F<;>simp at b;cases x<;>simp at b;obtain⟨Y,b⟩:=dQ.1 b;obtain⟨N,K,al⟩:=aA Y;obtain⟨p,g,U,_⟩:=q.qm;obtain⟨C,c,bH,_⟩:=j.qm;rw[g,c];refine⟨run_eqGuard_agg w E t D y p C K,?_⟩;have aN:P.fieldsOf t=an:=by simp[Program.fieldsOf,O]
   have m:(Op.equalIn 10000 t (.agg p) (.agg C)).run P w= .ok A w:=by
    rw[run_equalIn_struct w 9999 t p C (by rw[aN];exact O) N,aN];rw[b7]at b;refine D3 jq 9998 an.toList 0 _ _ p C A (by simpa using U) (by grind) ?_ b;intro V bX;have:=List.all_eq_true.1 al V bX
    grind
   cases neg with
   |false=>simp at f;subst f;rw[run_eql_struct,m];rfl
   |true=>simp at f;subst f;rw[run_neq_struct,m];rfl
  ·rename_i n e ae;rw[ae]at L;have bT:=rR L;subst bT;cases F<;>simp at b;cases x<;>simp at b;obtain⟨Y,b⟩:=dQ.1 b;obtain⟨eb,cL,b⟩:=dI.1 b;obtain⟨cp,b⟩:=dQ.1 b;obtain⟨cy,b⟩:=dQ.1 b;obtain⟨b9,b⟩:=dQ.1 b;obtain⟨N,K,al⟩:=aA Y;obtain⟨p,g,U,_⟩:=q.qm;obtain⟨C,c,bH,_⟩:=j.qm;rw[g,c];refine⟨run_eqGuard_agg w E t D y p C K,?_⟩;have a8:=jq.ty _ _ cL;have m:(Op.equalIn 10000 t (.agg p) (.agg C)).run P w= .ok A w:=by
    obtain⟨ea,dk,ef,a6,_,_,_,_,_,_,dv,_⟩:=a8.unfold;rw[run_equalIn_array w 9999 p C O a6,List.range_eq_range'];have cb:P.cellsOf e=1:=by
     have:=aF cy;simp only[Program.cellsOf,a6,Option.map_some,Option.getD_some];omega
    have b8:=aF b9;rw[cb,<-b8];exact Fc a8 cp 9998 _ _ 0 p C A (by simpa using U) (by grind) b
   cases neg with
   |false=>simp at f;subst f;rw[run_eql_struct,m];rfl
   |true=>simp at f;subst f;rw[run_neq_struct,m];rfl
  ·have m:=vm (P:=P) (w:=w) O L q j b 9999;have aX:∀k l:am,(k≠ .nilIface\/l≠ .nilIface)->((∀de,k≠ .agg de)\/∀di,l≠ .agg di)->(eqGuard E t D y k l).run P w= .ok () w:=by
    intro k l ap dn;cases neg with
    |false=>
     simp at f;subst f;cases k<;>cases l<;>first|(simp[eqGuard];done)|(simp at ap;done)|grind
    |true=>
     simp at f;subst f;cases k<;>cases l<;>first|(simp[eqGuard];done)|(simp at ap;done)|grind
   have ds:∀k l:am,(∀R c6 S c7,(k,l)≠(.int R c6,.int S c7))->(∀c9 dd,(k,l)≠(.string c9,.string dd))->(∀W G X I,(k,l)≠(.float W G,.float X I))->(∀W G N X I K,(k,l)≠(.complex W G N,.complex X I K))->
    (Op.equalIn 10000 t k l).run P w= .ok A w->(binOp E t k l).run P w= .ok (.bool (if neg then !A else A)) w:=by
    intro k l bs bu bB bC aE;cases neg with
    |false=>
     simp at f;subst f;cases k<;>cases l<;>first|(exact absurd rfl (bs _ _ _ _))|(exact absurd rfl (bu _ _))|(exact absurd rfl (bB _ _ _ _))|(exact absurd rfl (bC _ _ _ _ _ _))|(simp[binOp,Op.equal,Op.maxDepth,aE])
    |true=>
     simp at f;subst f;cases k<;>cases l<;>first|(exact absurd rfl (bs _ _ _ _))|(exact absurd rfl (bu _ _))|(exact absurd rfl (bB _ _ _ _))|(exact absurd rfl (bC _ _ _ _ _ _))|(simp[binOp,Op.equal,Op.maxDepth,aE])
   unfold sH at b;split at b
   ·cases F<;>simp at b;cases x<;>simp at b;obtain⟨R,S⟩:=dQ.1 b;rw[yF]at R;subst R;simp at S;subst S;rw[q.j3,j.j3];refine⟨aX _ _ (.inl dy) (.inl dy),?_⟩;cases neg<;>simp at f<;>subst f<;>simp[binOp,Op.intCmp,yJ,bne]
   ·cases F<;>simp at b;cases x<;>simp at b;rw[q.qO,j.qO]at m|-
    grind
   ·cases F<;>simp at b;cases x<;>simp at b;subst b;obtain⟨g,G⟩:=q.lY;obtain⟨c,I⟩:=j.lY;rw[g,c];refine⟨aX _ _ (.inl dy) (.inl dy),?_⟩;cases neg<;>simp at f<;>subst f<;>simp[binOp,Op.stringOp,Af G I]
   ·cases F<;>simp at b
    ·have g:=q.qN;rw[g]at m|-;have c:∃M,a.eval y= .pointer M:=by
      cases x<;>simp at b
      ·exact⟨_,j.qN⟩
      ·obtain⟨_,M,Q,_⟩:=j.ql;grind
      ·obtain⟨_,_,_,_,_,Q,_⟩:=j.mh;grind
     obtain⟨M,c⟩:=c;rw[c]at m|-
     grind
    ·obtain⟨_,M,g,_⟩:=q.ql;cases x<;>simp at b;have c:=j.qN;rw[g,c]at m|-
     grind
    ·obtain⟨_,_,_,_,_,g,_⟩:=q.mh;cases x<;>simp at b;have c:=j.qN;rw[g,c]at m|-
     grind
   ·cases F<;>simp at b
    ·obtain⟨p,g,_⟩:=q.sq;cases x<;>simp at b;have c:=j.uL;rw[g,c]at m|-
     grind
    ·have g:=q.uL;have c:(∃V bN p,a.eval y= .func V bN p)\/a.eval y= .nilFunc:=by
      cases x<;>simp at b
      ·obtain⟨p,Q,_⟩:=j.sq;grind
      ·exact .inr j.uL
     grind
   ·cases F<;>simp at b
    ·have g:=q.uK;cases x<;>simp at b
     ·have c:=j.uK;rw[g,c]at m|-;have a7:(Region.isConst D||Region.isConst y)=true:=a7
      grind [Jp]
     ·obtain⟨bS,c⟩:=j.xI;rw[g,c]at m|-
      grind
    ·obtain⟨bS,g⟩:=q.xI;cases x<;>simp at b;have c:=j.uK;rw[g,c]at m|-
     grind
   grind
 refine jp.pure s ?_ (.bool _);simp only[execOp,ca,Sem.run_bind,bn.1,Result.andThen_ok,bn.2,Sem.run_pure]
end
end
section
section
variable {P:ai}{cx:Ctx}{base:Nat}{w:World}{μ:Mu}{h:H}{mask:Nat}{e:Env}{a:Act}{o:Oper}{hp:af Obj}
def kL(b off c:Nat):(⟨b,off,none⟩:Addr).add c=⟨b,off+c,none⟩:=by
 unfold Addr.add;split<;>simp_all
theorem ml(c:T)(b:List T):fF (c::b)=c.cells++fF b:=by simp[fF]
def nD(a b:List T):fF (a++b)=fF a++fF b:=by simp[fF]
def iu{sz:Nat}{b:List T}(d:∀c∈b,c.cells.length=sz):(fF b).length=b.length*sz:=by
 induction b with
 |nil=>simp[fF]
 |cons g b f=>
  rw[ml,aS,f (λc i=>d c (by grind)),d g dy,aT,ci];omega
def p9{d:Nat}{b:List T}(g:∀f∈b,f.cells.length=d)(c:Nat):(fF b).drop (c*d)=fF (b.drop c):=by
 induction c generalizing b with
 |zero=>simp
 |succ c k=>cases b with
  |nil=>simp[fF]
  |cons i b=>
   have j:=g i dy;rw[ml,ci,Nat.add_comm,<-cV];have:(i.cells++fF b).drop d=fF b:=by rw[<-j];simp
   rw[this,k (λf l=>g f (by grind))];rfl
def rX{g:Nat}{b:List T}(f:∀d∈b,d.cells.length=g)(c:Nat):(fF b).take (c*g)=fF (b.take c):=by
 induction c generalizing b with
 |zero=>simp[fF]
 |succ c j=>cases b with
  |nil=>grind
  |cons k b=>
   have i:=f k dy;rw[ml,List.take_succ_cons,ml,<-j (λd l=>f d (by grind)),ci,List.take_append,i]
   grind
structure tN(hp:af Obj)(μ:Mu)(ja off:Nat)(cs:List T):Prop where
 row:∃arr t fz,hp[ja]? =some (.cells arr t fz)/\off+cs.length<=arr.size/\∀(k:Nat) v,cs[k]? =some v->fI hp μ v (arr.getD (off+k) Go.undef)
 scalar:∀v∈cs,v.scalar=true
def tN.cell{g off:Nat}{c:List T}(n:tN w.heap μ g off c){b:Nat}{d:T}(m:c[b]? =some d):∃i,w.cell? ⟨g,off+b,none⟩=some i/\fI w.heap μ d i:=by
 have⟨f,r,fz,j,p,k⟩:=n.row;have q:b<c.length:=by
  grind
 have l:off+b<f.size:=J;refine⟨f[off+b],by simp[World.cell?,j,l],?_⟩;have:=k b d m;simp_all
def tN.take{d off:Nat}{f:List T}(g:tN hp μ d off f)(m:Nat):tN hp μ d off (f.take m):=by
 have⟨i,n,fz,j,p,k⟩:=g.row;refine⟨⟨i,n,fz,j,by grind,λl c b=>k l c ?_⟩,λc b=>g.scalar c (bG b)⟩;rw[cG]at b
 grind
def tN.drop{g off:Nat}{d:List T}(i:tN hp μ g off d)(c:Nat)(q:c<=d.length):tN hp μ g (off+c) (d.drop c):=by
 have⟨j,n,fz,k,p,l⟩:=i.row;refine⟨⟨j,n,fz,k,by grind,λm f b=>?_⟩,λf b=>i.scalar f (bI b)⟩;rw[bU]at b;have:=l (c+m) f b;rwa[<-cP]at this
def tN.run_loadCells{d off:Nat}{b:List T}(n:tN w.heap μ d off b):∃i:List am,(loadCells ⟨d,off,none⟩ b.length).run P w= .ok i.toArray w/\gY w.heap μ b i:=by
 have⟨c,t,fz,k,p,l⟩:=n.row;refine⟨(c.toList.drop off).take b.length,?_,?_⟩
 ·have hl:((c.toList.drop off).take b.length).length=b.length:=by grind
  have:=Go.run_loadCells_list (P:=P) w ⟨d,off,none⟩ ((c.toList.drop off).take b.length) (λs j f=>by
   rw[kL];rw[cG]at f;split at f
   ·rw[bU]at f;simp only[World.cell?,k]
    grind
   grind)
  rwa[hl]at this
 ·refine⟨by grind,λg j m=>?_⟩;have q:g<b.length:=by
   grind
  have:=l g j m;have r:off+g<c.size:=J;simp_all
def za{s:ab}{c:Ty}{l off:Nat}{f:List T}{k:T}(m:vK P s c)(j:tN w.heap μ l off f)(b:ku c f=some k):
 ∃d,(loadVar s ⟨l,off,none⟩).run P w= .ok d w/\fI w.heap μ k d:=by
 unfold ku at b;cases i:c.isAgg with
 |true=>
  rw[i]at b;have b:(dW (takeN c.size f) λj=>some (T.agg j))=some k:=b;obtain⟨y,g,n⟩:=dI.1 b;rw[oh]at g;split at g
  ·rename_i x;simp at g n;subst g;subst n;have r:=j.take c.size;obtain⟨t,q,v⟩:=tN.run_loadCells (P:=P) r;have u:(f.take c.size).length=c.size:=by grind
   rw[u]at q;refine⟨.agg t.toArray,?_,fI.ym J r.scalar⟩;simp[loadVar,m.ui,i,m.run_sizeOf,q]
  grind
 |false=>
  rw[i]at b;have b:mM f 0=some k:=b;rw[kP]at b;obtain⟨d,p,hr⟩:=j.cell b;refine⟨d,?_,hr⟩;have p:w.cell? ⟨l,off,none⟩=some d:=J;simp[loadVar,m.ui,i,p]
def St.rowAt(I:St cx base hp μ h){j m c:Nat}{b:Loc}{d:T}(A:μ j=some b)(f:h.elem j m c=some d):tN hp μ b.ja (c*b.sz) d.cells/\d.cells.length=b.sz:=by
 have⟨u,C,G⟩:=I.box j b A;unfold H.elem at f;rw[C]at f;obtain⟨O,v,Q,M,r,g⟩:=u;have f:gX (Nat.beq v m) (@Bool.rec (λ_=>aa T) (mM g c) none r)=some d:=f;have⟨_,f⟩:=dQ.1 f;cases r with
 |true=>grind
 |false=>
  have f:g[c]? =some d:=by rw[<-kP];exact f
  have i:=G.plain rfl;have⟨t,K,x,y,z⟩:=i.row;have q:d∈g:=ay f;have p:=i.size d q;have E:c<g.length:=by
   grind
  have N:=iu i.size;refine⟨⟨⟨t,K,(0,0),x,?_,λs l k=>?_⟩,λl k=>i.scalar l ?_⟩,p⟩
  ·rw[p,y];have:c+1<=b.cap:=by have:=i.room;grind
   calc c*b.sz+b.sz=(c+1)*b.sz:=by rw[ci]
    _<=b.cap*b.sz:=aV _ this
  ·have F:s<d.cells.length:=by
    grind
   have D:(fF g)[c*b.sz+s]? =some l:=by
    have n:=p9 i.size c;have:g.drop c=d::g.drop (c+1):=by
     rw[aH E]
     grind
    rw[this,ml]at n;rw[<-bU,n,cv F];exact k
   have⟨L,B,hr⟩:=z.get D;rw[cG]at B;simp_all
  ·exact List.mem_flatMap.2 ⟨d,q,k⟩
def St.UI(s:St cx base hp μ h){d f g:Nat}{c:Loc}{i:T}(n:μ d=some c)(b:h.elem d f g=some i):f=c.ep:=by
 have⟨j,p,q⟩:=s.box d c n;unfold H.elem at b;rw[p]at b;obtain⟨u,l,v,t,r,k⟩:=j;have b:gX (Nat.beq l f) (@Bool.rec (λ_=>aa T) (mM k g) none r)=some i:=b;have⟨m,_⟩:=dQ.1 b;have:=aF m;have:=q.ep
 grind
def Dz{q:ab}{r:Ty}{i f:T}{j:am}(n:vK P q r)(p:St cx base w.heap μ h)(l:fI w.heap μ i j)(b:h.load r i=some f):
 ∃g c,j= .pointer (some g)/\(loadVar q g).run P w= .ok c w/\fI w.heap μ f c:=by
 unfold H.load at b;cases i<;>simp at b
 ·rename_i G M S C;replace b:=dI.1 b;obtain⟨U,m,b⟩:=b;replace b:=dI.1 b;obtain⟨L,d,b⟩:=b;obtain⟨F,g,y,k,_,N⟩:=l.ql;have O:=p.UI k m;obtain⟨D,Q⟩:=p.rowAt k m;rw[mn]at d;split at d
  ·rename_i x;simp at d;subst d;obtain⟨c,t,u⟩:=za n (D.drop C x) b
   grind
  grind
 ·rename_i K;obtain⟨I,off,s,E,fz,y,R,v,z,A,hr⟩:=l.mh;obtain⟨c,t,u⟩:=za n ⟨⟨s,E,fz,v,z,hr⟩,(λf B=>(A f B).1)⟩ b
  grind
theorem Jf(jq:jg P cx){f:ab}{i:ah}(c:St cx base w.heap μ h)(q:kz w.heap μ mask e a.tmps)(l:o.op= .load f i){g:T}{d:H}
 (b:Jg f i cx mask e h=some (.val g d)):jp cx base w μ h.size ((execOp a.eval o).run P w) g d:=by
 replace b:=dI.1 b;obtain⟨u,n,b⟩:=b;replace b:=dI.1 b;obtain⟨t,hp,b⟩:=b;obtain⟨p,rfl⟩:=fT.1 b;have⟨r,s,m,j,k⟩:=Dz (jq.ty _ _ n) c (ig c q hp) p;exact jp.pure c (by simp[execOp,l,Instr.loadAt,m,Instr.sureAddr,j]) k
def yf(jq:jg P cx){l:ab}{f:Nat}{g:Nat×ab}(b:xJ cx l f=some g):∃d c,P.underlying l=some (.struct d)/\d[f]? =some c/\c.offset=g.1/\c.type=g.2/\
 ∃k,P.info? c.type=some k/\k.size≠0:=by
 replace b:=dI.1 b;obtain⟨s,q,b⟩:=b;have⟨t,m,j⟩:=kM (jq.ty _ _ q);cases r:s.u<;>rw[r]at b j<;>simp at b;obtain⟨d,rfl,p,n⟩:=r6 j;subst p;rw[aW]at b;cases i:d.toList[f]? with
 |none=>rw[i]at b;grind
 |some c=>
  rw[i]at b;simp at b;refine⟨d,c,m,by grind,by rw[<-b],by rw[<-b],n c (ay i)⟩
theorem A8(jq:jg P cx){t:ab}{n:ah}{p:Nat}(m:St cx base w.heap μ h)(V:kz w.heap μ mask e a.tmps)(O:o.op= .fieldAddr t n p){c:T}{q:H}
 (b:p8 t n p cx mask e h=some (.val c q)):jp cx base w μ h.size ((execOp a.eval o).run P w) c q:=by
 replace b:=dI.1 b;obtain⟨l,L,b⟩:=b;replace b:=dI.1 b;obtain⟨U,hp,b⟩:=b;obtain⟨ae,al,A,B,C,an,i,D,E⟩:=yf jq L;have r:=ig m V hp;have s:∀d:Addr,a.eval n= .pointer (some d)->(execOp a.eval o).run P w= .ok (.value (.pointer (some (d.add l.1)))) w:=by
  intro d f;simp[execOp,O,Instr.fieldAt,run_underlying A,B,f,Instr.sureAddr,fieldPlace,sizeOf,typeInfo,D,E,C]
 cases U<;>simp at b
 ·rename_i x z R S;obtain⟨rfl,rfl⟩:=b;obtain⟨u,d,f,G,K,F⟩:=r.ql;refine jp.pure m (s d f) (.ptr x z R (S+l.1) u _ G K λI=>?_);rw[F I,kL,cP]
 ·rename_i X;replace b:=dI.1 b;obtain⟨Y,g,b⟩:=b;simp at b;obtain⟨rfl,rfl⟩:=b;obtain⟨y,off,v,W,fz,f,N,M,av,Q,hr⟩:=r.mh;rw[mn]at g;split at g
  ·rename_i ap;simp at g;subst g;refine jp.pure m (s _ f) ?_;rw[kL];refine .jH _ y (off+l.1) v W fz N M (by grind) (λc j=>Q c (bI j)) λk c j=>?_;rw[bU]at j;have:=hr _ c j;rwa[<-cP]at this
  grind
def Bw{r:ab}{c:Ty}{f:List T}{g:af am}{off:Nat}{k:T}(l:vK P r c)(p:gY hp μ f (g.toList.drop off))(s:∀m∈f,m.scalar=true)(b:ku c f=some k):
 ∃d,(part r g off).run P w= .ok d w/\fI hp μ k d:=by
 unfold ku at b;cases j:c.isAgg with
 |true=>
  rw[j]at b;have b:(dW (takeN c.size f) λu=>some (T.agg u))=some k:=b;obtain⟨x,i,n⟩:=dI.1 b;rw[oh]at i;split at i
  ·rename_i v;simp at i n;subst i;subst n;refine⟨.agg (g.extract off (off+c.size)),by simp[part,l.ui,j,l.run_sizeOf],fI.ym ?_ λm t=>s m (bG t)⟩;have:=p.take c.size;rw[Array.toList_extract]
   grind
  grind
 |false=>
  rw[j]at b;have b:mM f 0=some k:=b;rw[kP]at b;obtain⟨d,q,hr⟩:=p.get b;refine⟨d,?_,hr⟩;have q:g[off]? =some d:=by grind
  simp[part,l.ui,j,q]
theorem He(jq:jg P cx){j:ab}{d:ah}{f:Nat}(i:St cx base w.heap μ h)(E:kz w.heap μ mask e a.tmps)(x:o.op= .field j d f){k:T}{g:H}
 (b:A9 j d f cx mask e h=some (.val k g)):jp cx base w μ h.size ((execOp a.eval o).run P w) k g:=by
 replace b:=dI.1 b;obtain⟨l,v,b⟩:=b;replace b:=dI.1 b;obtain⟨M,A,b⟩:=b;replace b:=dI.1 b;obtain⟨D,hp,b⟩:=b;have⟨K,L,m,n,p,q,_⟩:=yf jq v;have s:=ig i E hp;cases D<;>simp at b;replace b:=dI.1 b;obtain⟨G,c,b⟩:=b;obtain⟨B,rfl⟩:=fT.1 b;have⟨I,y,r,z⟩:=s.qm;rw[mn]at c;split at c
 ·simp at c;subst c;have⟨F,t,u⟩:=Bw (P:=P) (w:=w) (jq.ty _ _ A) (r.drop l.1) (λd C=>z d (bI C)) B;refine jp.pure i ?_ u;simp[execOp,x,Instr.field,run_underlying m,n,y,asAgg,p,q,t]
 grind
def oe{c:T}{g:Nat}(d:qu c=some g):∃f,c= .int f (.ofNat g):=by
 unfold qu at d;cases c<;>simp at d;rename_i f b;cases b with
 |ofNat b=>simp_all
 |negSucc b=>grind
theorem Hb(jq:jg P cx){B:ab}{n D:ah}(m:St cx base w.heap μ h)(A:kz w.heap μ mask e a.tmps)(v:o.op= .index B n D){C:T}{s:H}
 (b:A6 B n D cx mask e h=some (.val C s)):jp cx base w μ h.size ((execOp a.eval o).run P w) C s:=by
 replace b:=dI.1 b;obtain⟨al,W,b⟩:=b;replace b:=dI.1 b;obtain⟨z,hp,b⟩:=b;replace b:=dI.1 b;obtain⟨q,S,b⟩:=b;replace b:=dI.1 b;obtain⟨f,O,b⟩:=b;obtain⟨k,Q⟩:=oe O;obtain⟨d,t,r⟩:=kM (jq.ty _ _ W);have l:=ig m A hp;have y:=(Q▸ig m A S).j3;cases X:al.u<;>rw[X]at b r<;>simp at b
 ·
  have:=sU r;subst this;cases z<;>simp at b;rename_i g;replace b:=dI.1 b;obtain⟨c,aE,b⟩:=b;obtain⟨j,rfl⟩:=fT.1 b;simp at j;subst j;obtain⟨p,E⟩:=l.lY;refine jp.pure (c:= .int .u8 (c:Int)) m ?_ (.int _ _);have aN:f<g.length:=by
   grind
  have M:g[f]=c:=by grind
  have L:c<256:=E c (by rw[<-M];simp);have N:(bytesOf g)[f]? =some (UInt8.ofNat c):=by
   have U:f<(bytesOf g).size:=by rw[j1];omega
   rw[getElem?_pos (bytesOf g) f U];congr 1;show(bytesOf g).data[f]=_
   grind [bytesOf]
  simp[execOp,v,Instr.index,y,asIntOf,run_underlying t,p,N,jM L]
 ·rename_i Y aA;have:=rR r;subst this;cases z<;>simp at b;rename_i an;replace b:=dI.1 b;obtain⟨ae,x,b⟩:=b;replace b:=dQ.1 b;obtain⟨G,b⟩:=b;replace b:=dI.1 b;obtain⟨ap,i,b⟩:=b;obtain⟨j,rfl⟩:=fT.1 b;obtain⟨av,p,F,V⟩:=l.qm;rw[mn]at i;split at i
  ·simp at i;subst i;obtain⟨c,I,K⟩:=Bw (P:=P) (w:=w) (jq.ty _ _ x) (F.drop (f*ae.size)) (λn l=>V n (bI l)) j;refine jp.pure m ?_ K;rw[aJ]at G;have R:¬Y<=f:=J;simp[execOp,v,Instr.index,y,asIntOf,run_underlying t,p,R,(jq.ty _ _ x).run_sizeOf,I]
  grind
end
end
section
section
variable {P:ai}{cx:Ctx}{base:Nat}{w:World}{μ:Mu}{h:H}{mask:Nat}{e:Env}{a:Act}{o:Oper}{hp:af Obj}
def St.LX(k:St cx base hp μ h){c:Nat}{b:Loc}{d:iX}(j:μ c=some b)(f:h.get c=some d):d.sz=b.sz/\d.ep=b.ep:=by
 have⟨l,i,g⟩:=k.box c b j;rw[i]at f;simp at f;subst f;exact⟨g.sz,g.ep⟩
def flat_get{d:Nat}{es:List T}(g:∀v∈es,v.cells.length=d){i k:Nat}{v z:T}(j:es[i]? =some v)(m:v.cells[k]? =some z):(fF es)[i*d+k]? =some z:=by
 have c:i<es.length:=by
  grind
 have f:k<v.cells.length:=by
  grind
 have b:=p9 g i;have l:es[i]=v:=by rw[az c]at j;grind
 rw[aH c,l,ml]at b;rw[<-bU,b,cv f];exact m
def Np{f:T}{d:List T}{j off c g:Nat}{i:af am}{r:ab}{fz:Nat×Nat}{b:T}(y:¬nR μ j)(u:hp[j]? =some (.cells i r fz))
 (k:∀b∈f::d,b.cells.length=c) (z:off+(fF (f::d)).length<=i.size) (s:∀b∈fF (f::d),vZ b)
 (hr:∀(m:Nat) b,(fF (f::d))[m]? =some b->fI hp μ b (i.getD (off+m) Go.undef)) (q:(f::d)[g]? =some b):
 fI hp μ (.jH b.cells) (.pointer (some ⟨j,off+g*c,none⟩)):=by
 have p:=ay q;have v:g<(f::d).length:=by
  grind
 have t:=iu k;have x:=k b p;refine .jH b.cells j (off+g*c) i r fz y u ?_ (λn l=>s n (List.mem_flatMap.2 ⟨b,p,l⟩)) λm n l=>?_
 ·rw[x];have:g*c+c<=(fF (f::d)).length:=by
   rw[t]
   calc g*c+c=(g+1)*c:=by rw[ci]
    _<=(f::d).length*c:=aV _ v
  omega
 ·have:=hr _ n (flat_get k q l);rwa[<-cP]at this
theorem A5(jq:jg P cx){t:ab}{x y:ah}(i:St cx base w.heap μ h)(r:kz w.heap μ mask e a.tmps)(ap:o.op= .indexAddr t x y){s:T}{I:H}
 (b:p7 t x y cx mask e h=some (.val s I)):jp cx base w μ h.size ((execOp a.eval o).run P w) s I:=by
 replace b:=dI.1 b;obtain⟨c6,cL,b⟩:=b;replace b:=dI.1 b;obtain⟨p,hp,b⟩:=b;replace b:=dI.1 b;obtain⟨q,av,b⟩:=b;replace b:=dI.1 b;obtain⟨f,b9,b⟩:=b;obtain⟨k,ca⟩:=oe b9;obtain⟨d,X,aN⟩:=kM (jq.ty _ _ cL);have Q:=ig i r hp;have aX:=(ca▸ig i r av).j3;cases c1:c6.u<;>rw[c1]at b aN<;>simp at b
 ·rename_i bS;have:=lZ aN;subst this;replace b:=dI.1 b;obtain⟨m,aE,b⟩:=b;have N:=(jq.ty _ _ aE).run_sizeOf w;unfold kK at b;cases p<;>simp at b
  ·rename_i D bT;replace b:=dI.1 b;obtain⟨z,bB,b⟩:=b;replace b:=dQ.1 b;obtain⟨hl,b⟩:=b;simp at b;obtain⟨rfl,rfl⟩:=b;have hl:=aF hl;cases D with
   |nil=>grind
   |cons eb D=>
    obtain⟨a7,off,dd,c4,a6,bC,fz,G,an,ae,dn,dm,bu,bs,b7,hr⟩:=Q.uJ;have cy:c4=m.size:=by rw[<-bu z (ay bB)];exact hl
    have dv:f<D.length+1:=by
     grind
    have ea:¬((D.length:Int)+1<=(f:Int)):=J;refine jp.pure i ?_ (Np an ae bu bs b7 hr bB);rw[<-kL,cy];have F:¬D.length+1<=f:=J;simp[execOp,ap,Instr.indexAt,aX,asIntOf,run_underlying X,G,N,F]
  ·rename_i A B S l bT;replace b:=dQ.1 b;obtain⟨hl,b⟩:=b;replace b:=dI.1 b;obtain⟨a8,W,b⟩:=b;replace b:=dQ.1 b;obtain⟨V,b⟩:=b;replace b:=dQ.1 b;obtain⟨bi,b⟩:=b;simp at b;obtain⟨rfl,rfl⟩:=b;rw[aJ]at hl;have V:=aF V;have bi:=aF bi;obtain⟨g,v,bN,G,C,L,dk,b8⟩:=Q.tJ;obtain⟨U,bX⟩:=i.LX C W;obtain⟨c7,c9,bH⟩:=b8 J;have cb:bN≠0:=J;rw[bH cb]at G;refine jp.pure (c:= .pointer (some ⟨g.ja,(S+f)*g.sz,none⟩)) i ?_ (.ptr A B (S+f) 0 g _ C L λ_=>by simp);have F:¬l<=f:=J;have b6:(⟨g.ja,S*g.sz,none⟩:Addr).add (f*m.size)=⟨g.ja,(S+f)*g.sz,none⟩:=by
    rw[kL,<-V,U,cq]
   simp[execOp,ap,Instr.indexAt,aX,asIntOf,run_underlying X,G,N,F,b6]
 ·rename_i n bS;have:=rR aN;subst this;replace b:=dI.1 b;obtain⟨m,aE,b⟩:=b;have N:=(jq.ty _ _ aE).run_sizeOf w;unfold pA at b;replace b:=dQ.1 b;obtain⟨hl,b⟩:=b;rw[aJ]at hl;have F:¬n<=f:=J;have aA:∀v:Addr,a.eval x= .pointer (some v)->(execOp a.eval o).run P w= .ok (.value (.pointer (some (v.add (f*m.size))))) w:=by
   intro v av;simp[execOp,ap,Instr.indexAt,aX,asIntOf,run_underlying X,av,Instr.sureAddr,N,F]
  cases p<;>simp at b
  ·rename_i A B R j;replace b:=dI.1 b;obtain⟨a8,W,b⟩:=b;obtain⟨g,v,M,C,L,bn⟩:=Q.ql;obtain⟨U,bX⟩:=i.LX C W;cases E:Nat.beq a8.sz m.size with
   |false=>
    rw[E]at b;have b:some (lQ.val (T.ptr A B R (j+f*m.size)) h)=some (.val s I):=b;simp only[ar,lQ.val.injEq]at b;obtain⟨rfl,rfl⟩:=b;refine jp.pure i (aA v M) (.ptr A B R (j+f*m.size) g _ C L λY=>?_);rw[bn Y,kL,cP]
   |true=>
    rw[E]at b;have b:gX (Nat.beq j 0) (some (lQ.val (T.ptr A B (R+f) 0) h))=some (.val s I):=b;replace b:=dQ.1 b;obtain⟨al,b⟩:=b;have al:=aF al;subst al;simp only[ar]at b;obtain⟨rfl,rfl⟩:=b;have E:=aF E;refine jp.pure i (aA v M) (.ptr A B (R+f) 0 g _ C L λY=>?_);rw[bn Y,kL,<-E,U,cq];simp
  ·rename_i de;replace b:=dI.1 b;obtain⟨di,K,b⟩:=b;simp at b;obtain⟨rfl,rfl⟩:=b;obtain⟨a7,off,a6,bC,fz,M,an,ae,bs,cp,hr⟩:=Q.mh;rw[mn]at K;split at K
   ·rename_i ds;simp at K;subst K;refine jp.pure i (aA _ M) ?_;rw[kL];refine .jH _ a7 (off+f*m.size) a6 bC fz an ae (by grind) (λs O=>cp s (bI O)) λk s O=>?_;rw[bU]at O;have:=hr _ s O;rwa[<-cP]at this
   grind
end
end
section
section
variable {P:ai}{cx:Ctx}{base:Nat}{w:World}{μ:Mu}{h:H}{mask:Nat}{e:Env}{a:Act}{o:Oper}{hp:af Obj}
theorem BM(jq:jg P cx){q j:ab}{s:ah}(g:St cx base w.heap μ h)(A:kz w.heap μ mask e a.tmps)(n:o.op= .convert q j s){r:T}{k:H}{c:T}
 (d:∃i,cx.ty q=some i) (hp:fN cx mask e s=some c) (b:conv cx j c=some r) (x:k=h):jp cx base w μ h.size ((execOp a.eval o).run P w) r k:=by
 subst x;obtain⟨D,d⟩:=d;have⟨C,m,_⟩:=kM (jq.ty _ _ d);replace b:=dI.1 b;obtain⟨i,y,b⟩:=b;have⟨B,l,f⟩:=kM (jq.ty _ _ y);have p:=ig g A hp;cases z:i.u<;>rw[z]at b f<;>simp at b
 ·have:=xd f;subst this;cases c<;>simp at b;subst b;exact jp.pure g (by simp[execOp,n,convert,run_underlying m,run_underlying l,p.j3,Conv.intToInt]) (.int _ _)
 ·have:=sU f;subst this;cases c<;>simp at b;subst b;have⟨v,t⟩:=p.lY;exact jp.pure g (by simp[execOp,n,convert,run_underlying m,run_underlying l,v]) (.str _ t)
def u9{g:aa ah}{c:aa Nat}(p:St cx base w.heap μ h)(n:kz w.heap μ mask e a.tmps)(b:jX cx mask e g=some c):
 (g=none/\c=none)\/∃d i f,g=some d/\c=some f/\a.eval d= .int i (f:Nat):=by
 cases g with
 |none=>left;simp[jX]at b;grind
 |some d=>
  right;have b:(dW (fN cx mask e d) λj=>dW (qu j) λc=>some (some c))=some c:=b;replace b:=dI.1 b;obtain⟨j,m,b⟩:=b;replace b:=dI.1 b;obtain⟨f,l,b⟩:=b;simp at b;subst b;have⟨i,k⟩:=oe l;exact⟨d,i,f,rfl,rfl,(k▸ig p n m).j3⟩
def run_sliceBound{d:am}{j:ak}{b:Nat}(i:d= .int j (b:Nat)){c:Nat}(k:b<=c)(f:BoundsCode):(Instr.sliceBound d c f).run P w= .ok b w:=by
 subst i;have g:0<=((b:Nat):Int)/\((b:Nat):Int)<=(c:Int):=⟨J,J⟩;simp only[Instr.sliceBound,asIntOf,Sem.run_bind,Sem.run_pure,Result.andThen_ok,g,and_self,bF];simp
def qZ{isS:Bool}{len cap:Nat}{q p r:aa ah}{l d m:aa Nat}
 (n:(q=none/\l=none)\/∃c i b,q=some c/\l=some b/\a.eval c= .int i (b:Nat)) (t:(p=none/\d=none)\/∃c i b,p=some c/\d=some b/\a.eval c= .int i (b:Nat))
 (B:(r=none/\m=none)\/∃c i b,r=some c/\m=some b/\a.eval c= .int i (b:Nat)) (C:∀b,m=some b->b<=cap/\d=some b) (hl:gH l 0<=gH d len) (u:gH d len<=len) (G:len<=cap):
 (Instr.sliceBounds isS len cap (q.map a.eval) (p.map a.eval) (r.map a.eval)).run P w= .ok (gH l 0,gH d len,gH m cap) w:=by
 rcases B with⟨rfl,rfl⟩|⟨K,I,E,rfl,rfl,s⟩
 ·rcases t with⟨rfl,rfl⟩|⟨F,D,k,rfl,rfl,g⟩
  ·rcases n with⟨rfl,rfl⟩|⟨A,z,j,rfl,rfl,f⟩
   ·rfl
   ·have hl:j<=len:=hl;simp[Instr.sliceBounds,gH,run_sliceBound f hl]
  ·have u:k<=len:=u;have v:k<=cap:=J;rcases n with⟨rfl,rfl⟩|⟨A,z,j,rfl,rfl,f⟩
   ·simp[Instr.sliceBounds,gH,run_sliceBound g v]
   ·have hl:j<=k:=hl;simp[Instr.sliceBounds,gH,run_sliceBound g v,run_sliceBound f hl]
 ·have⟨x,y⟩:=C E rfl;rcases t with⟨rfl,rfl⟩|⟨F,D,k,rfl,rfl,g⟩
  ·grind
  ·simp at y;subst y;rcases n with⟨rfl,rfl⟩|⟨A,z,j,rfl,rfl,f⟩
   ·simp[Instr.sliceBounds,gH,run_sliceBound g (au _),run_sliceBound s x]
   ·have hl:j<=k:=hl;simp[Instr.sliceBounds,gH,run_sliceBound g (au _),run_sliceBound s x,run_sliceBound f hl]
def FE(b:Nat):gH none b=b:=rfl
def Am{j:Type}{d g:List j}{c b:Nat}(l:c<=b)(f:Ls d c b=some g):b<=d.length/\g=(d.drop c).take (b-c):=by
 unfold Ls at f;have⟨m,i,k⟩:=dI.1 f;rw[mn]at i
 grind [oh]
def DX{c:Nat}{b:List T}(f:∀d∈b,d.cells.length=c)(g i:Nat):fF ((b.drop g).take i)=((fF b).drop (g*c)).take (i*c):=by
 rw[p9 f,rX (λd j=>f d (bI j))]
def Ic{g:T}{f:List T}{m off i:Nat}{l:af am}{t:ab}{fz:Nat×Nat}{b d:Nat}{p:T}{k:List T}{full:Bool}{cap:Nat}(A:¬nR μ m)(x:hp[m]? =some (.cells l t fz))
 (r:∀c∈g::f,c.cells.length=i) (F:off+(fF (g::f)).length<=l.size) (B:∀c∈fF (g::f),vZ c)
 (hr:∀(n:Nat) c,(fF (g::f))[n]? =some c->fI hp μ c (l.getD (off+n) Go.undef)) (E:b<=d) (D:d<=(g::f).length) (s:p::k=((g::f).drop b).take (d-b))
 (C:d-b<=cap) (u:full=true->cap=d-b):fI hp μ (.dK (p::k) full) (.slice (some ⟨m,off+b*i,none⟩) (d-b) cap):=by
 have y:k.length+1=d-b:=by
  have:=bR List.length s
  grind
 have v:=iu r;have q:=DX r b (d-b);rw[<-s]at q;have z:∀c∈p::k,c∈g::f:=λc j=>bI (bG (s▸j));rw[<-y];refine .dK p k full m (off+b*i) cap i l t fz A x J (λn=>by rw[u n];omega) (λc j=>r c (z c j)) ?_ ?_ ?_
 ·rw[q];simp only[List.length_take,List.length_drop];have:b*i+(d-b)*i<=(fF (g::f)).length:=by
   rw[v,<-cq];simp_all[aV]
  omega
 ·intro c j;rw[q]at j
  grind
 grind
def B8(d:List Nat)(b c:Nat):(bytesOf d).extract b c=bytesOf ((d.drop b).take (c-b)):=by
 apply ByteArray.ext;have:((bytesOf d).extract b c).data.toList=((bytesOf d).data.toList.drop b).take (c-b):=Lib.extract_data _ _ _;apply cH;rw[this];simp[bytesOf,List.map_take,List.map_drop]
def If(jq:jg P cx){t:ab}{x:ah}{N E O:aa ah}(Q:St cx base w.heap μ h)(bn:o.op= .slice t x N E O){d:Nat}{v:ab}(a6:P.underlying t=some (.array d v)){s:T}
 (bC:fI w.heap μ s (a.eval x)) {g f k:aa Nat}
 (bS:(N=none/\g=none)\/∃l p c,N=some l/\g=some c/\a.eval l= .int p (c:Nat)) (bT:(E=none/\f=none)\/∃l p c,E=some l/\f=some c/\a.eval l= .int p (c:Nat))
 (bX:(O=none/\k=none)\/∃l p c,O=some l/\k=some c/\a.eval l= .int p (c:Nat)) (cp:AW f k=true) (j:jJ cx h (.array d v) s=true) {u:T}
 (b:pT (asSlice (.array d v) s) g f k=some u):jp cx base w μ h.size ((execOp a.eval o).run P w) u h:=by
 unfold jJ at j;simp only at j;cases G:cx.ty v with
 |none=>rw[G]at j;grind
 |some al=>
  rw[G]at j;have bB:=(jq.ty _ _ G).run_sizeOf w;have hp:∃m q X Y,s= .ptr m q X Y:=by cases s<;>first|exact⟨_,_,_,_,rfl⟩|(simp at j)
  obtain⟨m,q,X,Y,rfl⟩:=hp;simp only at j;cases D:h.get m with
  |none=>rw[D]at j;grind
  |some R=>
   rw[D]at j;obtain⟨b6,av,cL,ca,cy,ap⟩:=R;simp only[ax,bK]at j;obtain⟨⟨⟨⟨⟨⟨I,ae⟩,K⟩,L⟩,bH⟩,bN⟩,M⟩:=j;have I:=aF I;have ae:=aF ae;have K:=aF K;have L:=aF L;have M:=aF M;rw[j2]at M;subst K L bH bN;have⟨i,b7,bu,r,U,aN⟩:=bC.ql;have⟨R,C,B⟩:=Q.box m i r;rw[D]at C;simp only[ar]at C;subst C;have b8:av=i.ep:=B.ep;have an:b6=i.sz:=B.sz;have b9:i.cap=ap.length:=(B.plain rfl).tX rfl;have S:=aN J;simp at S;subst S;have b:wj m q 0 d false (gH g 0) (gH f d) k=some u:=b;unfold wj at b;replace b:=dQ.1 b;obtain⟨F,b⟩:=b;replace b:=dQ.1 b;obtain⟨y,b⟩:=b;have F:=bh F;have y:=bh y;simp only[iM,ed,Nat.add_eq,Nat.zero_add,Nat.sub_eq]at b;have W:(∀c,k=some c->c=gH f d)->
    (execOp a.eval o).run P w= .ok (.value (.slice (some (if gH k d=gH g 0 then⟨i.ja,0,none⟩else(⟨i.ja,0,none⟩:Addr).add (gH g 0*al.size))) (gH f d-gH g 0) (gH k d-gH g 0))) w:=by
    intro aE;have r:=qZ (P:=P) (w:=w) (isS:=false) (len:=d) (cap:=d) bS bT bX (by
     intro c a8;have n:=aE c a8;cases f with
     |none=>simp_all[AW]
     |some p=>
      have n:c=p:=n;subst n;have cb:c<=d:=y
      grind) F y (au _)
    simp[execOp,bn,Instr.sliceAt,run_underlying a6,bu,Instr.sureAddr,r,bB]
   have aX:∀A:Nat,(⟨i.ja,0,none⟩:Addr).add (A*al.size)=⟨i.ja,A*i.sz,none⟩:=by
    intro A;rw[kL,<-I,an];simp
   cases V:k with
   |none=>
    subst V;have z:=W dy;have b:some (T.arr m q (gH g 0) (gH f d-gH g 0) false)=some u:=b;simp only[ar]at b;subst b;refine jp.pure Q z (.arr _ _ _ _ _ i _ _ r U ?_ λa7=>⟨dy,λ_=>?_,λbi=>?_⟩)
    ·grind [gH]
    ·grind [gH]
    grind
   |some c=>
    subst V;have b:gX (Nat.beq c (gH f d)) (some (T.arr m q (gH g 0) (gH f d-gH g 0) true))=some u:=b;replace b:=dQ.1 b;obtain⟨n,b⟩:=b;have n:=aF n;simp only[ar]at b;subst b;have z:=W (by grind);have bs:gH (some c) d=gH f d:=n;rw[bs]at z;refine jp.pure Q z (.arr _ _ _ _ _ i _ _ r U (au _) λa7=>⟨λ_=>rfl,dy,λbi=>?_⟩);have aA:¬gH f d=gH g 0:=J;rw[ao aA,aX]
theorem G8(jq:jg P cx){t:ab}{x:ah}{dn c9 ca:aa ah}(v:St cx base w.heap μ h)(r:kz w.heap μ mask e a.tmps)(bS:o.op= .slice t x dn c9 ca){s:T}{bu:H}
 (j:DH t x dn c9 ca cx mask e h=some (.val s bu)):jp cx base w μ h.size ((execOp a.eval o).run P w) s bu:=by
 replace j:=dI.1 j;obtain⟨ds,eD,j⟩:=j;replace j:=dI.1 j;obtain⟨p,hp,j⟩:=j;replace j:=dQ.1 j;obtain⟨m,j⟩:=j;replace j:=dI.1 j;obtain⟨g,eo,j⟩:=j;replace j:=dI.1 j;obtain⟨i,eh,j⟩:=j;replace j:=dI.1 j;obtain⟨I,eu,j⟩:=j;replace j:=dQ.1 j;obtain⟨dk,j⟩:=j;obtain⟨f,rfl⟩:=fT.1 j;have cb:=u9 v r eo;have cp:=u9 v r eh;have bs:=u9 v r eu;obtain⟨d,bC,aE⟩:=kM (jq.ty _ _ eD);have Y:=ig v r hp;by_cases eb:∃n aN,ds.u= .array n aN
 ·obtain⟨n,aN,b7⟩:=eb;rw[b7]at m aE f;have:=rR aE;subst this;exact If jq v bS bC Y cb cp bs dk m f
 unfold jJ at m;cases b7:ds.u<;>rw[b7]at m aE f<;>(try simp at m)
 ·
  have:=sU aE;subst this;replace f:pT p g i I=some s:=f;cases p<;>simp at m;rename_i V;obtain⟨K,dv⟩:=Y.lY;unfold pT at f;cases G:I with
  |some k=>rw[G]at f;simp at f
  |none=>
   subst G;have f:gX (Nat.ble (gH g 0) (gH i (kY V))) (dW (Ls V (gH g 0) (gH i (kY V))) λr=>some (T.str r))=some s:=f;rw[j2]at f;replace f:=dQ.1 f;obtain⟨A,f⟩:=f;have A:=bh A;replace f:=dI.1 f;obtain⟨q,bX,f⟩:=f;obtain⟨a7,rfl⟩:=Am A bX;simp at f;subst f;have et:ca=none:=by rcases bs with⟨N,_⟩|⟨_,_,_,_,N,_⟩;exact N;simp at N
   subst et;have F:=qZ (P:=P) (w:=w) (isS:=false) (len:=V.length) (cap:=V.length) cb cp bs dy A a7 (au _);simp only[Option.map_none]at F;refine jp.pure (c:= .string ((bytesOf V).extract (gH g 0) (gH i V.length))) v ?_ ?_
   ·simp[execOp,bS,Instr.sliceAt,Instr.slice,run_underlying bC,K,j1,F]
   ·rw[B8];exact .str _ λc X=>dv c (bI (bG X))
 ·rename_i aN;have:=lZ aE;subst this;replace f:pT p g i I=some s:=f;cases b6:cx.ty aN with
  |none=>rw[b6]at m;simp at m
  |some al=>
   rw[b6]at m;have eC:=(jq.ty _ _ b6).run_sizeOf w;have ey:∀k,I=some k->i.isSome=true:=by
    intro k bi;subst bi;cases i with
    |none=>simp[AW]at dk
    |some N=>rfl
   have S:∀(D:aa Addr) (len cap:Nat),a.eval x= .slice D len cap->len<=cap->gH g 0<=gH i len->gH i len<=len->(∀k,I=some k->k=gH i len)->
    (execOp a.eval o).run P w= .ok (.value (.slice (if gH I cap=gH g 0 then D else D.map (·.add (gH g 0*al.size))) (gH i len-gH g 0) (gH I cap-gH g 0))) w:=by
    intro D len cap M X W R av;have F:=qZ (P:=P) (w:=w) (isS:=true) (len:=len) (cap:=cap) cb cp bs (by
     intro k bi;have bn:=ey k bi;have B:=av k bi;cases i with
     |none=>simp at bn
     |some N=>
      have B:k=N:=B;subst B;have R:k<=len:=R;exact⟨J,rfl⟩) W R X
    simp[execOp,bS,Instr.sliceAt,Instr.slice,run_underlying bC,M,F,eC]
   unfold pT at f;cases p<;>simp at m
   ·rename_i l full;have f:ug l full (gH g 0) (gH i l.length) I=some s:=by rw[<-j2];exact f
    unfold ug at f;replace f:=dQ.1 f;obtain⟨A,f⟩:=f;have A:=bh A;replace f:=dI.1 f;obtain⟨q,bX,f⟩:=f;obtain⟨a7,U⟩:=Am A bX;cases l with
    |nil=>
     obtain⟨D,K⟩:=Y.uI;have eB:q=[]:=by rw[U];simp
     rw[eB]at f;have c7:gH i 0=0:=by simpa using a7
     have de:gH g 0=0:=by simp only[cQ]at A;omega
     cases G:I with
     |none=>
      subst G;have f:some (T.dK [] false)=some s:=f;simp at f;subst f;have:=S D 0 0 K (au _) J J dy;refine jp.pure v this ?_;rw[de,c7,FE];exact .oc _ _
     |some k=>
      subst G;have f:gX (Nat.beq k (gH i 0)) (some (T.dK [] false))=some s:=f;replace f:=dQ.1 f;obtain⟨B,f⟩:=f;have B:=aF B;simp at f;subst f;have:=S D 0 0 K (au _) J J (by intro N aA;simp at aA;omega);refine jp.pure v this ?_;have er:gH (some k) 0=0:=by show k=0;omega
      rw[de,c7,er];exact .oc _ _
    |cons O l=>
     obtain⟨eH,off,cap,eE,eF,eI,fz,K,di,c6,dd,ef,b8,bn,X,hr⟩:=Y.uJ;have dm:eE=al.size:=by
      have m:Nat.beq (kY O.cells) al.size=true:=m;have:=aF m;rw[j2]at this;rw[<-this];exact(b8 O dy).symm
     have a8:gH i (l.length+1)<=l.length+1:=by simpa using a7
     have a6:gH g 0<=gH i (l.length+1):=by simpa using A
     cases G:I with
     |none=>
      subst G;have z:=S _ _ _ K dd a6 a8 dy;cases q with
      |nil=>
       have f:some T.gW=some s:=f;simp at f;subst f;have b9:gH i (l.length+1)-gH g 0=0:=by
        have:=bR List.length U;simp only[cQ,List.length_take,List.length_drop,aT]at this;omega
       rw[b9]at z;exact jp.pure v z (.gW _ _)
      |cons y cy=>
       have f:some (T.dK (y::cy) (@Bool.rec (λ_=>Bool) false (Nat.beq (gH i (O::l).length) (kY (O::l))) full))=some s:=f;have eA:gH g 0<gH i (l.length+1):=by
        have:=bR List.length U;simp only[aT,List.length_take,List.length_drop]at this;omega
       have L:¬cap=gH g 0:=J;simp only[FE,L,bE,Option.map_some,kL]at z;refine jp.pure v z ?_;simp only[ar]at f;rw[<-f,<-dm];have:=Ic (full:= @Bool.rec (λ_=>Bool) false (Nat.beq (gH i (O::l).length) (kY (O::l))) full) (cap:=cap-gH g 0) di c6 b8 bn X hr a6 (by simpa using a8) U J (by
        intro F;cases full with
        |false=>simp at F
        |true=>
         have F:Nat.beq (gH i (O::l).length) (kY (O::l))=true:=F;have:=aF F;rw[j2]at this;simp only[aT]at this;rw[ef rfl,this])
       exact this
     |some k=>
      subst G;have f:gX (Nat.beq k (gH i (O::l).length)) (@List.rec T (λ_=>aa T) (some (T.dK [] false)) (λ_ _ _=>some (T.dK q true)) q)=some s:=f;replace f:=dQ.1 f;obtain⟨B,f⟩:=f;have B:=aF B;simp only[aT]at B;have z:=S _ _ _ K dd a6 a8 (by intro N aA;simp at aA;omega);have bT:gH (some k) cap=gH i (l.length+1):=B;rw[bT]at z;cases q with
      |nil=>
       have f:some (T.dK [] false)=some s:=f;simp at f;subst f;have b9:gH i (l.length+1)-gH g 0=0:=by
        have:=bR List.length U;simp only[cQ,List.length_take,List.length_drop,aT]at this;omega
       rw[b9]at z;exact jp.pure v z (.oc _ _)
      |cons y cy=>
       have f:some (T.dK (y::cy) true)=some s:=f;have eA:gH g 0<gH i (l.length+1):=by
        have:=bR List.length U;simp only[aT,List.length_take,List.length_drop]at this;omega
       have L:¬gH i (l.length+1)=gH g 0:=J;simp only[L,bE,Option.map_some,kL]at z;refine jp.pure v z ?_;simp only[ar]at f;rw[<-f,<-dm];exact Ic di c6 b8 bn X hr a6 (by simpa using a8) U (au _) (λ_=>rfl)
   ·
    obtain⟨D,cap,K⟩:=Y.A0;have f:gX (Nat.beq (gH g 0) 0) (gX (Nat.beq (gH i 0) 0) (@Option.rec Nat (λ_=>aa T) (some T.gW) (λk=>gX (Nat.beq k 0) (some (T.dK [] false))) I))=some s:=f;replace f:=dQ.1 f;obtain⟨W,f⟩:=f;replace f:=dQ.1 f;obtain⟨R,f⟩:=f;have W:=aF W;have R:=aF R;cases G:I with
    |none=>
     subst G;have f:some T.gW=some s:=f;simp at f;subst f;have:=S D 0 cap K (aw _) J J dy;rw[W,R]at this;exact jp.pure v this (.gW _ _)
    |some k=>
     subst G;have f:gX (Nat.beq k 0) (some (T.dK [] false))=some s:=f;replace f:=dQ.1 f;obtain⟨av,f⟩:=f;have av:=aF av;simp at f;subst f;subst av;have:=S D 0 cap K (aw _) J J (by intro N aA;simp at aA;omega);rw[W,R]at this;exact jp.pure v this (.oc _ _)
   ·rename_i b an ae C full;obtain⟨Q,D,E,K,F,bH,c1,bB⟩:=Y.tJ;have f:wj b an ae C full (gH g 0) (gH i C) I=some s:=f;unfold wj at f;replace f:=dQ.1 f;obtain⟨A,f⟩:=f;replace f:=dQ.1 f;obtain⟨aX,f⟩:=f;have A:=bh A;have aX:=bh aX;simp only[iM,ed]at f;have ec:Q.sz=al.size:=by
     cases bN:bu.get b with
     |none=>rw[bN]at m;simp at m
     |some ea=>
      rw[bN]at m;have m:Nat.beq ea.sz al.size=true:=m;rw[<-aF m];exact(v.LX F bN).1.symm
    have cL:∀c:Nat,E≠0->an=Q.ep->D.map (·.add (c*al.size))=some ⟨Q.ja,(ae+c)*Q.sz,none⟩:=by
     intro c L M;rw[(bB M).2.2 L,<-ec];simp[kL,cq]
    cases G:I with
    |none=>
     subst G;have z:=S D C E K c1 A aX dy;have f:(@Bool.rec (λ_=>aa T) (some (T.arr b an (ae+gH g 0) (gH i C-gH g 0) false)) (gX (Nat.beq (gH i C) C) (some (T.arr b an (ae+gH g 0) (gH i C-gH g 0) true))) full)=some s:=f;cases full with
     |false=>
      simp at f;subst f;refine jp.pure v z (.arr _ _ _ _ _ Q _ _ F bH ?_ λM=>⟨dy,λ_=>?_,λL=>?_⟩)
      ·show gH i C-gH g 0<=E-gH g 0;omega
      ·have:=(bB M).2.1 rfl;show ae+gH g 0+(E-gH g 0)=Q.cap;omega
      ·have L:E-gH g 0≠0:=L;have ap:¬gH none E=gH g 0:=by show¬E=gH g 0;omega
       rw[ao ap];exact cL _ J M
     |true=>
      replace f:=dQ.1 f;obtain⟨c4,f⟩:=f;have c4:=aF c4;simp at f;subst f;refine jp.pure v z (.arr _ _ _ _ _ Q _ _ F bH ?_ λM=>⟨λ_=>?_,dy,λL=>?_⟩)
      ·show gH i C-gH g 0<=E-gH g 0;omega
      ·have:=(bB M).1 rfl;show E-gH g 0=gH i C-gH g 0;omega
      ·have L:E-gH g 0≠0:=L;have ap:¬gH none E=gH g 0:=by show¬E=gH g 0;omega
       rw[ao ap];exact cL _ J M
    |some k=>
     subst G;have f:gX (Nat.beq k (gH i C)) (some (T.arr b an (ae+gH g 0) (gH i C-gH g 0) true))=some s:=f;replace f:=dQ.1 f;obtain⟨B,f⟩:=f;have B:=aF B;simp at f;subst f;have z:=S D C E K c1 A aX (by grind);have bT:gH (some k) E=gH i C:=B;rw[bT]at z;refine jp.pure v z (.arr _ _ _ _ _ Q _ _ F bH (au _) λM=>⟨λ_=>rfl,dy,λL=>?_⟩);have ap:¬gH i C=gH g 0:=J;rw[ao ap]
     grind
 grind
end
end
section
section
variable {P:ai}{cx:Ctx}{base:Nat}{w:World}{μ:Mu}{h h':H}{mask:Nat}{e:Env}{a:Act}{o:Oper}{hp hp':af Obj}
def St.fa(g:St cx base hp μ h){b:Nat}{c:Loc}(f:μ b=some c):b<h.size:=by
 have⟨i,d,_⟩:=g.box b c f;rw[H.get_eq]at d
 grind
def St.Rp(c:St cx base hp μ h):μ h.size=none:=by
 cases b:μ h.size with
 |none=>rfl
 |some d=>exact absurd (c.fa b) (Nat.lt_irrefl _)
def rC(μ:Mu)(d:Nat)(c:Loc):Mu:=⟨λb=>if b=d then some c else μ b,μ.pM⟩
theorem jD(μ:Mu)(c:Nat)(b:Loc):rC μ c b c=some b:=by simp[rC]
theorem iV(μ:Mu){c b:Nat}(d:Loc)(h:b≠c):rC μ c d b=μ b:=by simp[rC,h]
def H.cons(h:H)(b:iX):H:=⟨h.size+1,h.low,b::h.fG⟩
def H.lz(b:Nat->T)(h:H)(c:iX):h.new b c=some (b h.size,h.cons c):=H.Rq b h c
def H.tU(c:h.fG.length=h.size)(b:iX):(h.cons b).get h.size=some b:=by
 rw[H.get_eq];simp[H.cons]
theorem H.nC{b:Nat}(f:b<h.size)(c:iX):(h.cons c).get b=h.get b:=by
 rw[H.get_eq,H.get_eq];have d:b<(h.cons c).size:=by show b<h.size+1;omega
 rw[aq d,aq f];show(c::h.fG)[h.size+1-1-b]? =_;have:h.size+1-1-b=(h.size-1-b)+1:=J;rw[this];simp
def St.new(d:St cx base hp μ h)(n:Obj)(l:Loc)(m:iX)(z:l.ja=hp.size)(E:Ext hp μ (hp.push n) (rC μ h.size l)->rG (hp.push n) (rC μ h.size l) l m):
 St cx base (hp.push n) (rC μ h.size l) (h.cons m)/\Ext hp μ (hp.push n) (rC μ h.size l)/\yS μ (rC μ h.size l) h.size (h.cons m).size:=by
 have D:=d.Rp;have p:Ext hp μ (hp.push n) (rC μ h.size l):=by
  refine⟨dy,λr C t=>⟨?_,?_⟩,λb k c=>?_,rfl,λr C _=>?_⟩
  rotate_right
  ·rw[Array.getElem?_push];grind
  ·rw[Array.getElem?_push];grind
  ·rintro(⟨b,k,c,rfl⟩|hr)
   ·by_cases i:b=h.size
    ·subst i;rw[jD]at c;grind
    ·rw[iV _ _ i]at c;exact t (.inl ⟨b,k,c,rfl⟩)
   ·exact t (.inr hr)
  ·have:b≠h.size:=by rintro rfl;rw[D]at c;grind
   exact⟨k,by rw[iV _ _ this];exact c,.inl rfl⟩
 refine⟨⟨?_,?_,?_,?_,?_,?_,?_,?_⟩,p,?_⟩
 ·show(m::h.fG).length=h.size+1;simp[d.wf]
 ·simp;have:=d.fit;omega
 ·intro b k c;by_cases i:b=h.size
  ·subst i;rw[jD]at c;simp at c;subst c;exact⟨m,H.tU d.wf m,E p⟩
  ·rw[iV _ _ i]at c;have⟨F,j,g⟩:=d.box b k c;refine⟨F,by rw[H.nC (d.fa c)];exact j,g.ext p ?_⟩;have:=d.lt c;rw[Array.getElem?_push];grind
 ·intro b s u v j g A;by_cases c:b=h.size<;>by_cases q:s=h.size
  ·omega
  ·subst c;rw[jD]at j;simp at j;subst j;rw[iV _ _ q]at g;have:=d.lt g;omega
  ·subst q;rw[jD]at g;simp at g;subst g;rw[iV _ _ c]at j;have:=d.lt j;omega
  ·rw[iV _ _ c]at j;rw[iV _ _ q]at g;exact d.inj b s u v j g A
 ·intro b k c;by_cases i:b=h.size
  ·subst i;rw[jD]at c;simp at c;subst c;rw[z];exact d.fit
  ·rw[iV _ _ i]at c;exact d.low b k c
 ·intro b k c hr;by_cases i:b=h.size
  ·subst i;rw[jD]at c;simp at c;subst c;have:=d.rE _ hr;omega
  ·rw[iV _ _ i]at c;exact d.apart b k c hr
 ·intro r hr;have:=d.rE r hr
  grind
 ·intro y x B;exact(d.Ab y x B).ext p
 ·refine⟨by show h.size<=h.size+1;omega,λb c=>?_,λb j g=>?_⟩
  ·by_cases i:b=h.size
   ·right;exact⟨J,by show b<h.size+1;omega⟩
   grind [iV]
  ·have:b=h.size:=by have g:b<h.size+1:=g;omega
   subst this;rw[jD];simp
def Cg{c:Nat}{d:iX}(f:h.put c d=some h')(k:h.fG.length=h.size):
 h'.size=h.size/\h'.fG.length=h'.size/\h'.get c=some d/\∀b,b≠c->h'.get b=h.get b:=by
 obtain⟨g,i,rfl⟩:=H.wF.1 f;refine⟨rfl,by grind,?_,λb j=>?_⟩
 ·rw[H.get_eq];grind
 ·rw[H.get_eq,H.get_eq]
  grind
def St.change(d:St cx base hp μ h){f:Nat}{i L':Loc}{B:iX}(p:μ f=some i)(G:h.put f B=some h')(A:hp.size<=hp'.size)(x:∀n,n<hp.size->n≠i.ja->hp'[n]? =hp[n]?)
 (K:L'=i\/(i.ep<L'.ep/\(L'.ja=i.ja\/hp.size<=L'.ja))) (L:Ext hp μ hp' (rC μ f L')->rG hp' (rC μ f L') L' B):
 St cx base hp' (rC μ f L') h'/\Ext hp μ hp' (rC μ f L')/\yS μ (rC μ f L') h.size h'.size:=by
 have⟨p1,p2,p3,p4⟩:=Cg G d.wf;have q:L'.ja=i.ja\/hp.size<=L'.ja:=by
  grind
 have u:Ext hp μ hp' (rC μ f L'):=by
  refine⟨A,λn v t=>⟨x n v λk=>t (.inl ⟨f,i,p,k.symm⟩),?_⟩,λc m b=>?_,rfl,λn v hr=>x n v λk=>d.apart f i p (k▸hr)⟩
  ·rintro(⟨c,m,b,rfl⟩|hr)
   ·by_cases g:c=f
    ·subst g;rw[jD]at b;simp at b;subst b;rcases q with k|k
     ·exact t (.inl ⟨c,i,p,k.symm⟩)
     ·omega
    ·rw[iV _ _ g]at b;exact t (.inl ⟨c,m,b,rfl⟩)
   ·exact t (.inr hr)
  ·by_cases g:c=f
   ·subst g;rw[p]at b;grind [jD]
   ·exact⟨m,by rw[iV _ _ g];exact b,.inl rfl⟩
 refine⟨⟨p2,by have:=d.fit;omega,?_,?_,?_,?_,λn hr=>bD (d.rE n hr) A,?_⟩,u,⟨J,λc b=>?_,λc j l=>by omega⟩⟩
 ·intro c m b;by_cases g:c=f
  ·subst g;rw[jD]at b;grind
  ·rw[iV _ _ g]at b;have⟨I,j,l⟩:=d.box c m b;refine⟨I,by rw[p4 c g];exact j,l.ext u (x _ (d.lt b) λk=>g (d.inj c f m i b p k))⟩
 ·intro c r y z j l E;by_cases b:c=f<;>by_cases s:r=f
  ·omega
  ·subst b;rw[jD]at j;simp at j;subst j;rw[iV _ _ s]at l;rcases q with k|k
   ·exact absurd (d.inj r c z i l p J) s
   ·have:=d.lt l;omega
  ·subst s;rw[jD]at l;simp at l;subst l;rw[iV _ _ b]at j;rcases q with k|k
   ·exact absurd (d.inj c r y i j p J) b
   ·have:=d.lt j;omega
  ·rw[iV _ _ b]at j;rw[iV _ _ s]at l;exact d.inj c r y z j l E
 ·intro c m b;by_cases g:c=f
  ·subst g;rw[jD]at b;simp at b;subst b;rcases q with k|k
   ·rw[k];exact d.low _ _ p
   ·have:=d.fit;omega
  ·rw[iV _ _ g]at b;exact d.low c m b
 ·intro c m b hr;by_cases g:c=f
  ·subst g;rw[jD]at b;simp at b;subst b;rcases q with k|k
   ·exact d.apart c i p (by rw[<-k];exact hr)
   ·have:=d.rE _ hr;omega
  ·rw[iV _ _ g]at b;exact d.apart c m b hr
 ·intro D C F;exact(d.Ab D C F).ext u
 grind [iV]
end
end
section
section
variable {P:ai}{cx:Ctx}{base:Nat}{w:World}{μ:Mu}{h h':H}{mask:Nat}{e:Env}{a:Act}{o:Oper}{hp hp':af Obj}
theorem jy{b:aa (T×H)}{c:T}{h':H}:jL b=some (.val c h')↔b=some (c,h'):=by
 unfold jL;cases b with
 |none=>simp
 |some d=>obtain⟨g,f⟩:=d;simp
def xD(r:St cx base w.heap μ h)(b:ab){arr:af am}{cap sz:Nat}{ex:Bool}{es:List T}(k:arr.size=cap*sz)(n:es.length<=cap)(l:ex=true->cap=es.length)
 (q:∀d∈es,d.cells.length=sz) (p:∀d∈fF es,d.scalar=true) (j:gY w.heap μ (fF es) (arr.toList.take (fF es).length)):
 ∃c,St cx base (w.heap.push (.cells arr b)) c (h.cons (lL sz ex es))/\qg w μ {w with heap:=w.heap.push (.cells arr b)} c/\yS μ c h.size (h.cons (lL sz ex es)).size/\
  c h.size=some ⟨0,w.heap.size,cap,sz⟩:=by
 have⟨f,g,i⟩:=r.new (.cells arr b) ⟨0,w.heap.size,cap,sz⟩ (lL sz ex es) rfl (by
  intro m;refine⟨rfl,rfl,λ_=>⟨⟨arr,b,dy,k,j.ext m⟩,n,l,q,p⟩,λs=>by grind [lL]⟩)
 exact⟨_,f,⟨g,rfl,rfl,rfl⟩,i,jD _ _ _⟩
def y8{b:T}(h:b.scalar=true):b.cells=[b]:=by
 cases b<;>first|rfl|grind [T.scalar]
def Ad{b:List T}(h:∀c∈b,c.scalar=true):fF b=b:=by
 induction b with
 |nil=>rfl
 |cons c b g=>
  have f:=y8 (h c dy);have d:=g λi j=>h i (by grind);unfold fF at d|-;rw[br,f,d];rfl
theorem Hg(jq:jg P cx){g:ab}(x:St cx base w.heap μ h)(t:o.op= .alloc g){i:T}
 (b:DQ g cx mask e h=some (.val i h')):jp cx base w μ h.size ((execOp a.eval o).run P w) i h':=by
 replace b:=dI.1 b;obtain⟨c,y,b⟩:=b;have⟨f,u,_,z,k,B,v,A,C⟩:=(jq.ty _ _ y).zero w;cases s:xH cx c with
 |false=>
  rw[s]at b;have b:jL (h.new (λj=>T.ptr j 0 0 0) (lL c.size true [c.kt]))=some (.val i h'):=b;rw[jy,H.lz]at b;simp only[ar,aB]at b;obtain⟨rfl,rfl⟩:=b;have⟨r,l,m,n,p⟩:=xD x g (arr:=f.cells) (cap:=1) (sz:=c.size) (ex:=true) (es:=[c.kt]) J dy dy
   (by intro q d;simp at d;subst d;rw[v];omega) (by intro q d;simp[fF]at d;rw[v]at d;grind)
   (by
     have:fF [c.kt]=c.zero:=by grind [fF]
     rw[this];have hl:f.cells.toList.take c.zero.length=f.cells.toList:=by grind [bL]
     rw[hl];grind)
  refine⟨.pointer (some ⟨w.heap.size,0,none⟩),_,r,.inl ?_,.ptr _ 0 0 0 _ _ p (au _) (λ_=>by simp),l,m,n⟩;simp[execOp,t,Instr.alloc,u,newVar,newRow]
 |true=>
  rw[s]at b;have b:jL (h.new (λj=>T.ptr j 0 0 0) (lL 1 true c.zero))=some (.val i h'):=b;rw[jy,H.lz]at b;simp only[ar,aB]at b;obtain⟨rfl,rfl⟩:=b;have⟨r,l,m,n,p⟩:=xD x g (arr:=f.cells) (cap:=c.zero.length) (sz:=1) (ex:=true) (es:=c.zero) J (au _) (λ_=>rfl)
   (by intro q d;rw[y8 (k q d)];rfl) (by rw[Ad k];omega)
   (by
     rw[Ad k];have hl:f.cells.toList.take c.zero.length=f.cells.toList:=by grind [bL]
     rw[hl];grind)
  refine⟨.pointer (some ⟨w.heap.size,0,none⟩),_,r,.inl ?_,.ptr _ 0 0 0 _ _ p (au _) (λ_=>by simp),l,m,n⟩;simp[execOp,t,Instr.alloc,u,newVar,newRow]
theorem K8{i:ab}{d:ah}(g:St cx base w.heap μ h)(s:kz w.heap μ mask e a.tmps)(m:o.op= .box i d){j:T}
 (b:Ox d cx mask e h=some (.val j h')):jp cx base w μ h.size ((execOp a.eval o).run P w) j h':=by
 replace b:=dI.1 b;obtain⟨c,hp,b⟩:=b;replace b:=dQ.1 b;obtain⟨k,b⟩:=b;rw[jy,H.lz]at b;simp only[ar,aB]at b;obtain⟨rfl,rfl⟩:=b;have⟨f,u,_⟩:=(ig g s hp).cells k;have l:=f.1;have⟨t,n,p,q,r⟩:=xD g i (arr:=(a.eval d).cells) (cap:=1) (sz:=c.cells.length) (ex:=true) (es:=[c]) (by grind) dy dy
  dy (by grind [fF])
  (by
    have:fF [c]=c.cells:=by simp[fF]
    rw[this,l,aK];exact f)
 rw[j2];refine⟨.pointer (some ⟨w.heap.size,0,none⟩),_,t,.inl ?_,.ptr _ 0 0 0 _ _ r (au _) (λ_=>by simp),n,p,q⟩;simp[execOp,m,Instr.box,newVar,newRow]
def T4(b c:List T):over b c=if c.length<=b.length then some (c++b.drop c.length)else none:=by
 induction c generalizing b with
 |nil=>rfl
 |cons i c f=>cases b with
  |nil=>rfl
  |cons j b=>
   show(dW (over b c) λg=>some (i::g))=_;rw[f];by_cases d:c.length<=b.length<;>simp[d]
def uf(b:List T)(c:Nat)(d:List T):kV b c d=if c+d.length<=b.length then some (b.take c++d++b.drop (c+d.length))else none:=by
 induction c generalizing b with
 |zero=>show over b d=_;rw[T4];simp
 |succ c j=>cases b with
  |nil=>show none=_;simp
  |cons f b=>
   show(dW (kV b c d) λk=>some (f::k))=_;rw[j];have g:c+1+d.length=(c+d.length)+1:=J;by_cases i:c+d.length<=b.length
   ·rw[aq i,aq (by grind),g];simp
   simp_all[ao]
def o9{b d f:List T}{c:Nat}(g:kV b c d=some f):c+d.length<=b.length/\f=b.take c++d++b.drop (c+d.length):=by
 rw[uf]at g
 grind
def KU{d g f:List T}{j:Nat}(i:kV d j g=some f){c:T->Prop}(k:∀b∈d,c b)(l:∀b∈g,c b):∀b∈f,c b:=by
 obtain⟨_,rfl⟩:=o9 i
 grind
def F7{cells:af am}{c:am}{off:Nat}(k:off+c.cells.size<=cells.size):
 (c.cells.zipIdx.foldl (λd (b:am×Nat)=>d.setIfInBounds (off+b.2) b.1) cells).toList=cells.toList.take off++c.cells.toList++cells.toList.drop (off+c.cells.size):=by
 have g:c.cells.zipIdx.foldl (λd (b:am×Nat)=>d.setIfInBounds (off+b.2) b.1) cells=(c.cells.toList.zipIdx 0).foldl (λd (b:am×Nat)=>d.setIfInBounds (off+b.2) b.1) cells:=by
  rw[<-Array.foldl_toList,Array.toList_zipIdx]
 rw[g];have⟨j,f⟩:=Great.foldl_set off c.cells.toList 0 cells;apply cW;intro i;have:=f i;rw[<-Array.getElem?_toList]at this;rw[this]
 grind
def D0(place:Nat->aa (Nat×Nat))(b:Nat×T)(d:List (Nat×T))(c:List T):
 mU place (b::d) c=dW (place b.1) λf=>gX (Nat.beq (kY b.2.cells) f.2) (dW (kV c f.1 b.2.cells) λg=>mU place d g):=rfl
def OW(hp:af Obj)(μ:Mu)(g:List (Nat×T))(qs:List (Nat×am)):Prop:=
 g.length=qs.length/\∀(f:Nat) d b,g[f]? =some (d,b)->∃c,qs[f]? =some (d,c)/\fI hp μ b c/\b.ir=true
def OW.mB{b:Nat×T}{g:List (Nat×T)}{qs:List (Nat×am)}(h:OW hp μ (b::g) qs):∃c i,qs=(b.1,c)::i/\fI hp μ b.2 c/\b.2.ir=true/\OW hp μ g i:=by
 obtain⟨hl,f⟩:=h;cases qs with
 |nil=>grind
 |cons p qs=>
  have⟨c,d,hr,j⟩:=f 0 b.1 b.2 dy;simp at d;subst d;exact⟨c,qs,rfl,hr,j,by grind,λl k m n=>by simpa using f (l+1) k m (by grind)⟩
def xZ(v:St cx base w.heap μ h)(u:kz w.heap μ mask e a.tmps){c:List (Nat×ah)}{l:List (Nat×T)}(i:partsOf cx mask e c=some l):
 OW w.heap μ l (c.map λk=>(k.1,a.eval k.2)):=by
 unfold partsOf at i;have⟨hl,n⟩:=sh.1 i;refine⟨by grind,λd s f q=>?_⟩;have x:d<c.length:=by
  grind
 have⟨y,g,b⟩:=n d c[d] dy;rw[q]at g;simp at g;subst g;rcases p:c[d]with⟨t,j⟩;rw[p]at b;have b:(dW (fN cx mask e j) λf=>gX f.ir (some (t,f)))=some (s,f):=b;have⟨z,r,b⟩:=dI.1 b;have⟨m,b⟩:=dQ.1 b;simp at b;obtain⟨rfl,rfl⟩:=b;exact⟨a.eval j,by grind,ig v u r,m⟩
def vQ{place place':Nat->aa (Nat×Nat)}(G:∀t f,place t=some f->place' t=some f):∀(k:List (Nat×T)) (qs:List (Nat×am)) (d g:List T) (cells:af am),
 OW hp μ k qs->gY hp μ d cells.toList->(∀n∈d,n.scalar=true)->mU place k d=some g->
 ∃j,Instr.fill place' cells qs=some j/\gY hp μ g j.toList/\(∀n∈g,n.scalar=true)/\j.size=cells.size:=by
 intro k;induction k with
 |nil=>
  intro qs d g cells hp i m b;have:qs=[]:=bg hp.1.symm;subst this;have:g=d:=by grind [mU]
  subst this;exact⟨cells,rfl,i,m,rfl⟩
 |cons S k K=>
  intro qs d g cells z i m b;obtain⟨c,Q,rfl,hr,D,A⟩:=z.mB;rw[D0]at b;have⟨f,I,b⟩:=dI.1 b;have⟨hl,b⟩:=dQ.1 b;have⟨q,r,b⟩:=dI.1 b;have⟨p,v,_⟩:=hr.cells D;have F:=aF hl;rw[j2]at F;have⟨R,C⟩:=o9 r;have x:=i.1;have l:=p.1;simp only[cJ]at x l;have E:f.1+c.cells.size<=cells.size:=J;have s:=F7 (cells:=cells) (c:=c) E;have y:gY hp μ q (c.cells.zipIdx.foldl (λd (u:am×Nat)=>d.setIfInBounds (f.1+u.2) u.1) cells).toList:=by
   rw[s,C,<-l];exact((i.take f.1).append p).append (by rw[l];exact i.drop _)
  have⟨j,L,M,N,O⟩:=K Q q g _ A y (KU r m v) b;refine⟨j,?_,M,N,?_⟩
  ·simp only[Instr.fill,G _ _ I];have B:¬(c.cells.size≠f.2||decide (f.1+c.cells.size>cells.size))=true:=by grind
   rw[ao B];exact L
  ·rw[O];have:=bR List.length s
   grind
