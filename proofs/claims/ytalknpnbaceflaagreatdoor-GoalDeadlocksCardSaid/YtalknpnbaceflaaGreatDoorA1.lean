/- TiBase -/
import Derived.Test.YtalknpnbaceflaaGreatDoorA0
import Derived.IntWalk
import Derived.Calls
import Derived.Laws.CopyRow
import Derived.Laws.Cells
import Derived.Laws.Entries
import Derived.WalkCall
import Derived.Laws.Strings
import Derived.Lib.Strings
import Derived.Laws.StructEq
import Derived.ChangeKeysEq
import Derived.Great.FillDense
set_option linter.all false
namespace Go.TI
abbrev C(n:Int):T:=.int .i64 n
abbrev dV:T:=.V [] false
abbrev X(s v:Nat)(e:List T):jK:=⟨s,0,v,true,false,e⟩
@[simp] abbrev Y(v:iM)(n:Nat)(t:T):Prop:=TI.M v n=some t
end Go.TI
namespace Go.TI
noncomputable section
section
@[simp]theorem fw {α β:Type} (a:α) (b:α->aa β):J (some a) b=b a:=rfl
@[simp]theorem afL {α β:Type} (a:α->aa β):J (none:aa α) a=none:=rfl
theorem eg{α β:Type}{a:aa α}{c:α->aa β}{d:β}:J a c=some d↔∃b,a=some b/\c b=some d:=by
 cases a<;>simp
@[simp]theorem jf {α:Type} (a:aa α):iS true a=a:=rfl
@[simp]theorem Ry {α:Type} (a:aa α):iS false a=none:=rfl
theorem fj{α:Type}{a:Bool}{b:aa α}{c:α}:iS a b=some c↔a=true/\b=some c:=by
 cases a<;>simp
@[simp]theorem mv {α β d:Type} (a:α) (b:β) (c:α->β->d):two (a,b) c=c a b:=rfl
@[simp]theorem nC {e:Type} (d:Ex) (a:Env) (c:H) (b:Ex->Env->H->e):three (d,a,c) b=b d a c:=rfl
section lists
variable {α β:Type}
@[simp]def mg (b:List α) (a:Nat):oo b a=b[a]? :=by
 induction b generalizing a with
 |nil=>rfl
 |cons e d c=>cases a with
  |zero=>rfl
  |succ a=>exact(c a).trans G 
def mz(b:List α)(a:Nat)(c:α):mw b a c=if a<b.length then some (b.set a c)else none:=by
 induction b generalizing a with
 |nil=>rfl
 |cons h d f=>cases a with
  |zero=>rfl
  |succ a=>
   show(J (mw d a c) λg=>some (h::g))=_;rw[f];by_cases e:a<d.length<;>simp[e]
theorem pR(a:Nat)(b:List α):takeN a b=if a<=b.length then some (b.take a)else none:=by
 induction a generalizing b with
 |zero=>rfl
 |succ a e=>cases b with
  |nil=>rfl
  |cons g c=>
   show(J (takeN a c) λf=>some (g::f))=_;rw[e];by_cases d:a<=c.length<;>simp[d]
def nO(a:Nat)(b:List α):kZ a b=if a<=b.length then some (b.drop a)else none:=by
 induction a generalizing b with
 |zero=>rfl
 |succ a e=>cases b with
  |nil=>rfl
  |cons f c=>
   show kZ a c=_;rw[e];by_cases d:a<=c.length<;>simp[d]
@[simp]theorem kE (a:List α):mJ a=a.length:=by
 induction a with
 |nil=>rfl
 |cons d c b=>show Nat.succ (mJ c)=_;rw[b];rfl
@[simp]theorem qY (a b:List α):HC a b=some (a++b):=by
 induction a with
 |nil=>rfl
 |cons f d c=>show(J (HC d b) λe=>some (f::e))=_;rw[c];rfl
theorem kx(a:α->aa β)(c:α)(b:List α):iH a (c::b)=J (a c) λe=>J (iH a b) λd=>some (e::d):=rfl
@[simp]theorem aaN (a:α->aa β):iH a []=some []:=rfl
def uM{e:α->aa β}{b:List α}{a:List β}:iH e b=some a↔b.length=a.length/\∀(c:Nat) d,b[c]? =some d->∃f,a[c]? =some f/\e d=some f:=by
 induction b generalizing a with
 |nil=>
  constructor
  ·simp_all
  ·rintro⟨g,_⟩;simp at g;simp[aZ g.symm]
 |cons d b k=>
  rw[kx];constructor
  ·grind [eg]
  ·rintro⟨hl,h⟩;cases a with
   |nil=>grind
   |cons f a=>
    have⟨n,i,j⟩:=h 0 d G;simp at i;subst i;have:iH e b=some a:=k.2 ⟨by grind,λc l m=>by simpa using h (c+1) l (by grind)⟩;rw[j,this];rfl
@[simp]theorem sj (b:α) (a:Nat):rJ b a=List.replicate a b:=by
 induction a with
 |zero=>rfl
 |succ a c=>show b::rJ b a=_;rw[c];rfl
@[simp]def Cr (a:α->Bool) (b:List α):Af a b=b.all a:=by
 induction b with
 |nil=>rfl
 |cons c b e=>
  show @Bool.rec (λ_=>Bool) false (Af a b) (a c)=_;rw[e];cases d:a c<;>simp[d]
end lists
@[simp]theorem jt (a:Nat):jd a=some a:=by cases a<;>rfl
@[simp]theorem aaJ (b:Int):OZ b=some b:=by
 cases b with
 |ofNat a=>cases a<;>rfl
 |negSucc a=>cases a<;>rfl
@[simp]def qI (a:ao) (b:Int):AI a b=some (.int a b):=by simp[AI]
@[simp]theorem uG (a:Bool):Ak a=some (.ez a):=by cases a<;>rfl
@[simp]def AT (a b:ao):(G6 a b=true)↔a=b:=by cases a<;>cases b<;>decide
def AQ(c b:Int):O9 c b=decide (c<b):=by
 cases c with
 |ofNat d=>cases b with
  |ofNat a=>
   show Nat.blt d a=_;rw[bJ,aK];simp
  |negSucc a=>rfl
 |negSucc d=>cases b with
  |ofNat a=>show true=_;grind
  |negSucc a=>
   show Nat.blt a d=_;rw[bJ,aK];grind
def AZ(c b:Int):VW c b=(c==b):=by
 cases c with
 |ofNat d=>cases b with
  |ofNat a=>
   show Nat.beq d a=_;rw[bJ,Nat.beq_eq];grind
  |negSucc a=>rfl
 |negSucc d=>cases b with
  |ofNat a=>rfl
  |negSucc a=>
   show Nat.beq d a=_;rw[bJ,Nat.beq_eq];simp
def kv(c:ao)(d:Int):Or c d=c.wrap d:=by
 cases c<;>try rfl
 cases d with
 |ofNat a=>
  show @Bool.rec (λ_=>Int) (IntKind.i64.wrap (.ofNat a)) (Int.ofNat a) (Nat.ble a 9223372036854775807)=_;cases b:Nat.ble a 9223372036854775807
  ·rfl
  ·have:=bh b;show Int.ofNat a=_;exact(IntWalk.i64_in _ (by grind)).symm
 |negSucc a=>
  show @Bool.rec (λ_=>Int) (IntKind.i64.wrap (.negSucc a)) (Int.negSucc a) (Nat.ble a 9223372036854775807)=_;cases b:Nat.ble a 9223372036854775807
  ·rfl
  ·have:=bh b;show Int.negSucc a=_;exact(IntWalk.i64_in _ B).symm
@[simp]def Bp (a:ao) (b:Int):sP a b=some (.int a (a.wrap b)):=by simp[sP,kv]
def Jt(b a:List Nat):Zu b a=(b==a):=by
 induction b generalizing a with
 |nil=>cases a<;>rfl
 |cons c b f=>cases a with
  |nil=>rfl
  |cons d a=>
   show @Bool.rec (λ_=>Bool) false (Zu b a) (Nat.beq c d)=_;rw[f];rw[List.cons_beq_cons];cases e:Nat.beq c d
   ·have:(c==d)=false:=by rw[<-Bool.not_eq_true,beq_iff_eq,<-Nat.beq_eq];simp[e]
    grind
   simp_all
theorem H.get_eq(b:H)(a:Nat):b.get a=if a<b.size then b.ir[b.size-1-a]? else none:=by
 obtain⟨d,f,e⟩:=b;show iS (Nat.blt a d) (oo e _)=_;by_cases c:a<d
 ·have:Nat.blt a d=true:=by rw[aK];exact c
  simp[this,c]
 ·have:Nat.blt a d=false:=by rw[<-Bool.not_eq_true,aK];exact c
  simp[this,c]
def H.Ui(b:Nat->T)(a:H)(c:jK):a.new b c=some (b a.size,⟨a.size+1,a.low,c::a.ir⟩):=by
 obtain⟨d,f,e⟩:=a;show(J (jd (Nat.succ d)) λg=>some (b d,(⟨g,f,c::e⟩:H)))=_;simp
def H.yF{b j:H}{a:Nat}{i:jK}:b.put a i=some j↔
 a<b.size/\b.size-1-a<b.ir.length/\j=⟨b.size,if a<b.low then a else b.low,b.ir.set (b.size-1-a) i⟩:=by
 obtain⟨d,c,l⟩:=b;show iS (Nat.blt a d) (J (mw l (d-1-a) i) λe=> @Bool.rec (λ_=>aa H) (some (⟨d,c,e⟩:H)) (some ⟨d,a,e⟩) (Nat.blt a c))=_↔_;rw[fj,aK,mz];constructor
 ·rintro⟨g,m⟩;obtain⟨e,f,k⟩:=eg.1 m;split at f
  ·rename_i hl;simp at f;subst f;refine⟨g,hl,?_⟩;by_cases h:a<c
   ·have:Nat.blt a c=true:=by rw[aK];omega
    rw[this]at k;grind
   ·have:Nat.blt a c=false:=by rw[<-Bool.not_eq_true,aK];omega
    rw[this]at k;grind
  grind
 ·rintro⟨g,hl,rfl⟩;refine⟨g,?_⟩;simp only[]at hl;rw[au hl];by_cases h:a<c
  ·have:Nat.blt a c=true:=by rw[aK];omega
   simp[this,h]
  ·have:Nat.blt a c=false:=by rw[<-Bool.not_eq_true,aK];omega
   simp[this,h]
end
structure Loc where
 ep:Nat
 jO:Nat
 cap:Nat
 sz:Nat
structure Mu where
 loc:Nat->aa Loc
 rf:Nat->Prop
instance :CoeFun Mu (λ_=>Nat->aa Loc):=⟨Mu.loc⟩
def pG(c:Mu)(b:Nat):Prop:=(∃d a,c d=some a/\a.jO=b)\/c.rf b
def T.scalar:T->Bool
 | .undef| .eZ _| .tuple _=>false
 |_=>true
inductive lP:T->Prop where
 |ez (b:Bool):lP (.ez b)
 |int (k:ao) (n:Int):lP (.int k n)
 |str (s:List Nat):lP (.str s)
 |lU:lP .lU
 |ks (cs:List T) (h:∀v∈cs,lP v):lP (.ks cs)
 |V (es:List T) (full:Bool) (h:∀v∈es,lP v):lP (.V es full)
 |iX:lP .iX
 |my:lP .my
 |mB:lP .mB
 |eZ (cs:List T) (h:∀v∈cs,lP v):lP (.eZ cs)
def yh(a:T):Prop:=a.scalar=true/\lP a
def iq(a:List T):List T:=a.flatMap T.cells
def bytesOf(a:List Nat):ByteArray:=⟨(a.map UInt8.ofNat).toArray⟩
inductive iu (hp:ah Obj) (μ:Mu):T->aq->Prop where
 |undef:iu hp μ .undef (.tuple #[])
 |ez (b:Bool):iu hp μ (.ez b) (.bool b)
 |int (k:ao) (n:Int):iu hp μ (.int k n) (.int k n)
 |str (s:List Nat) (h:∀c∈s,c<256):iu hp μ (.str s) (.string (bytesOf s))
 |lU:iu hp μ .lU (.pointer none)
 |fc (b ep i j:Nat) (L:Loc) (a:Addr) (hb:μ b=some L) (he:ep<=L.ep) (ha:ep=L.ep->a=⟨L.jO,i*L.sz+j,none⟩):
  iu hp μ (.fc b ep i j) (.pointer (some a))
 |ks (cells:List T) (jO off:Nat) (arr:ah aq) (t:af) (fz:Nat×Nat) (hn:¬pG μ jO) (hh:hp[jO]? =some (.cells arr t fz))
  (hs:off+cells.length<=arr.size) (hc:∀v∈cells,yh v)
  (hr:∀(k:Nat) v,cells[k]? =some v->iu hp μ v (arr.getD (off+k) Go.undef)):iu hp μ (.ks cells) (.pointer (some ⟨jO,off,none⟩))
 |pP (full:Bool) (a:aa Addr):iu hp μ (.V [] full) (.slice a 0 0)
 |V (e:T) (es:List T) (full:Bool) (jO off cap sz:Nat) (arr:ah aq) (t:af) (fz:Nat×Nat) (hn:¬pG μ jO)
  (hh:hp[jO]? =some (.cells arr t fz)) (hl:es.length+1<=cap) (hf:full=true->cap=es.length+1)
  (hu:∀v∈e::es,v.cells.length=sz) (hs:off+(iq (e::es)).length<=arr.size) (hc:∀v∈iq (e::es),yh v)
  (hr:∀(k:Nat) v,(iq (e::es))[k]? =some v->iu hp μ v (arr.getD (off+k) Go.undef)):
  iu hp μ (.V (e::es) full) (.slice (some ⟨jO,off,none⟩) (es.length+1) cap)
 |iX (a:aa Addr) (cap:Nat):iu hp μ .iX (.slice a 0 cap)
 |arr (b ep o l:Nat) (full:Bool) (L:Loc) (a:aa Addr) (cp:Nat) (hb:μ b=some L) (he:ep<=L.ep) (hl:l<=cp)
  (h:ep=L.ep->(full=true->cp=l)/\(full=false->o+cp=L.cap)/\(cp≠0->a=some ⟨L.jO,o*L.sz,none⟩)):
  iu hp μ (.arr b ep o l full) (.slice a l cp)
 |func (f:ak) (caps:List T) (cs:ah aq) (hs:cs.size=caps.length)
  (hr:∀(k:Nat) v,caps[k]? =some v->iu hp μ v (cs.getD k Go.undef)):iu hp μ (.func f caps) (.func (.func f) #[] cs)
 |my:iu hp μ .my .nilFunc
 |mB:iu hp μ .mB .nilIface
 |iface (t:af) (v:T) (c:aq) (h:iu hp μ v c):iu hp μ (.iface t v) (.iface t c)
 |iter (b:Nat) (L:Loc) (a:Addr) (hb:μ b=some L) (h:L.ep=0->a=⟨L.jO,0,none⟩):iu hp μ (.iter b) (.pointer (some a))
 |map (b:Nat) (L:Loc) (i:Nat) (hb:μ b=some L) (h:L.ep=0->i=L.jO):iu hp μ (.map b) (.map (some i))
 |pS:iu hp μ .pS (.map none)
 |eZ (cells:List T) (cs:ah aq) (hs:cs.size=cells.length) (hc:∀v∈cells,v.scalar=true)
  (hr:∀(k:Nat) v,cells[k]? =some v->iu hp μ v (cs.getD k Go.undef)):iu hp μ (.eZ cells) (.agg cs)
 |tuple (vs:List T) (cs:ah aq) (hs:cs.size=vs.length)
  (hr:∀(k:Nat) v,vs[k]? =some v->iu hp μ v (cs.getD k Go.undef)):iu hp μ (.tuple vs) (.tuple cs)
structure Ext(hp:ah Obj)(μ:Mu)(hp':ah Obj)(μ':Mu):Prop where
 size:hp.size<=hp'.size
 pN:∀i,i<hp.size->¬pG μ i->hp'[i]? =hp[i]? /\¬pG μ' i
 mu:∀b L,μ b=some L->∃L',μ' b=some L'/\(L'=L\/L.ep<L'.ep)
 rf:μ'.rf=μ.rf
 kept:∀i,i<hp.size->μ.rf i->hp'[i]? =hp[i]?
structure sd(w:World)(μ:Mu)(w':World)(μ':Mu):Prop where
 ext:Ext w.heap μ w'.heap μ'
 os:w'.os=w.os
 tape:w'.tape=w.tape
 output:w'.output=w.output
def Ext.refl(b:ah Obj)(c:Mu):Ext b c b c:=⟨ax _,λ_ _ a=>⟨rfl,a⟩,λ_ d a=>⟨d,a,.inl rfl⟩,rfl,λ_ _ _=>rfl⟩
def Ext.trans{hp f g:ah Obj}{h i j:Mu}(a:Ext hp h f i)(d:Ext f i g j):Ext hp h g j:=by
 refine⟨aU a.size d.size,λc b o=>?_,λe k n=>?_,d.rf.trans a.rf,λc b hr=>?_⟩
 rotate_right
 ·rw[d.kept c (bK b a.size) (by rw[a.rf];exact hr),a.kept c b hr]
 ·have⟨r,p⟩:=a.pN c b o;have⟨s,u⟩:=d.pN c (bK b a.size) p
  grind
 ·have⟨l,m,r1⟩:=a.mu e k n;have⟨q,t,r2⟩:=d.mu e l m
  grind
def sd.refl(a:World)(b:Mu):sd a b a b:=⟨Ext.refl _ _,rfl,rfl,rfl⟩
def sd.trans{c w1 d:World}{e f g:Mu}(a:sd c e w1 f)(b:sd w1 f d g):sd c e d g:=
 ⟨a.ext.trans b.ext,b.os.trans a.os,b.tape.trans a.tape,b.output.trans a.output⟩
def FO{a:ah Obj}{b:Nat}{c:Obj}(d:a[b]? =some c):b<a.size:=by
 grind
def iu.ext{A D:ah Obj}{E F:Mu}{t:T}{s:aq}(i:iu A E t s)(j:Ext A E D F):iu D F t s:=by
 induction i with
 |undef=>exact .undef
 |ez a=>exact .ez a
 |int P p=>exact .int P p
 |str U i=>exact .str U i
 |lU=>exact .lU
 |fc a x z O e c g L ab=>
  have⟨f,h,r⟩:=j.mu a e g;refine .fc a x z O f c h ?_ ?_
  ·rcases r with rfl|r<;>omega
  grind
 |ks v k off arr q fz y o d n _ b=>
  have⟨w,p⟩:=j.pN k (FO o) y;exact .ks v k off arr q fz p (w.trans o) d n b
 |pP m c=>exact .pP m c
 |V w J m k off u W arr q fz y o hl M N d n _ b=>
  have⟨S,p⟩:=j.pN k (FO o) y;exact .V w J m k off u W arr q fz p (S.trans o) hl M N d n b
 |iX c u=>exact .iX c u
 |arr a x R Q m e c I g L hl i=>
  have⟨f,h,r⟩:=j.mu a e g;refine .arr a x R Q m f c I h ?_ hl ?_
  ·rcases r with rfl|r<;>omega
  grind
 |func K H l d _ b=>exact .func K H l d b
 |my=>exact .my
 |mB=>exact .mB
 |iface q t s _ b=>exact .iface q t s b
 |iter a e c g i=>
  have⟨f,h,r⟩:=j.mu a e g;refine .iter a f c h ?_
  grind
 |map a e z g i=>
  have⟨f,h,r⟩:=j.mu a e g;refine .map a f z h ?_
  grind
 |pS=>exact .pS
 |eZ v l d n _ b=>exact .eZ v l d n b
 |tuple Z l d _ b=>exact .tuple Z l d b
def iW(e:ah Obj)(f:Mu)(d:List T)(a:List aq):Prop:=
 d.length=a.length/\∀(b:Nat) c,d[b]? =some c->iu e f c (a.getD b Go.undef)
def iW.ext{c d:ah Obj}{f g:Mu}{e:List T}{a:List aq}(b:iW c f e a)(k:Ext c f d g):iW d g e a:=
 ⟨b.1,λi j h=>(b.2 i j h).ext k⟩
theorem iW.nil{a:ah Obj}{b:Mu}:iW a b [] []:=⟨rfl,λd e c=>by grind⟩
theorem iW.cons{a:ah Obj}{c:Mu}{h:T}{d:aq}{i:List T}{e:List aq}(k:iu a c h d)(f:iW a c i e):iW a c (h::i) (d::e):=by
 refine⟨by simp[f.1],λb j g=>?_⟩;cases b with
 |zero=>grind
 |succ b=>simp at g;simpa using f.2 b j g
def iW.nU{d:ah Obj}{f:Mu}{e:T}{g:List T}{c:List aq}(h:iW d f (e::g) c):∃a b,c=a::b/\iu d f e a/\iW d f g b:=by
 obtain⟨hl,hr⟩:=h;cases c with
 |nil=>grind
 |cons a b=>exact⟨a,b,rfl,by simpa using hr 0 e G,by grind,λi j k=>by simpa using hr (i+1) j (by grind)⟩
theorem iW.append{c:ah Obj}{d:Mu}{a g:List T}{b e:List aq}(f:iW c d a b)(j:iW c d g e):iW c d (a++g) (b++e):=by
 induction a generalizing b with
 |nil=>obtain⟨hl,_⟩:=f;simp at hl;rw[aZ hl.symm];grind
 |cons n a m=>obtain⟨h,i,rfl,l,k⟩:=f.nU;grind [iW.cons]
def iW.take{e:ah Obj}{f:Mu}{a:List T}{c:List aq}(d:iW e f a c)(b:Nat):iW e f (a.take b) (c.take b):=by
 induction b generalizing a c with
 |zero=>simp[iW.nil]
 |succ b k=>cases a with
  |nil=>obtain⟨hl,_⟩:=d;simp at hl;rw[aZ hl.symm];simp[iW.nil]
  |cons l a=>obtain⟨g,h,rfl,j,i⟩:=d.nU;grind [iW.cons]
def iW.drop{e:ah Obj}{f:Mu}{a:List T}{c:List aq}(d:iW e f a c)(b:Nat):iW e f (a.drop b) (c.drop b):=by
 induction b generalizing a c with
 |zero=>grind
 |succ b j=>cases a with
  |nil=>obtain⟨hl,_⟩:=d;simp at hl;rw[aZ hl.symm];simp[iW.nil]
  |cons k a=>obtain⟨g,h,rfl,_,i⟩:=d.nU;grind
def iW.get{d:ah Obj}{f:Mu}{e:List T}{a:List aq}(c:iW d f e a){k:Nat}{v:T}(h:e[k]? =some v):∃b,a[k]? =some b/\iu d f v b:=by
 have g:k<a.length:=by
  rw[<-c.1]
  grind
 refine⟨a[k],G,?_⟩;simpa[List.getD,g]using c.2 k v h
theorem uD{d:ah Obj}{f:Mu}{b:T}{a:aq}(c:iu d f b a)(e:b.scalar=true):a.oneCell'=true:=by
 cases c<;>first|rfl|(simp[T.scalar]at e)
theorem iu.cells{o:ah Obj}{q:Mu}{b:T}{c:aq}(d:iu o q b c)(ab:b.jc=true):
 iW o q b.cells c.cells.toList/\(∀h∈b.cells,h.scalar=true)/\∀h∈c.cells.toList,h.oneCell'=true:=by
 have a:∀{b:T} {c:aq},iu o q b c->b.scalar=true->b.cells=[b]->c.cells= #[c]->
  iW o q b.cells c.cells.toList/\(∀h∈b.cells,h.scalar=true)/\∀h∈c.cells.toList,h.oneCell'=true:=by
  intro b c d k z i;rw[z,i]
  grind [iW.nil,iW.cons,uD]
 cases d with
 |eZ m r k i hr=>
  have I:iW o q m r.toList:=⟨by grind,λl b z=>by simp_all⟩;refine⟨I,i,?_⟩;intro h O;have N:h∈r.toList:=O;obtain⟨l,ae,rfl⟩:=List.getElem_of_mem N;have L:l<m.length:=by grind
  have:=hr l m[l] G;have Z:=uD this (i _ (aG L));simp_all
 |undef=>grind [T.jc]
 |tuple=>grind [T.jc]
 |ez f=>exact a (.ez f) rfl rfl rfl
 |int l R=>exact a (.int l R) rfl rfl rfl
 |str U g=>exact a (.str U g) rfl rfl rfl
 |lU=>exact a .lU rfl rfl rfl
 |fc f u y P j e g v J=>exact a (.fc f u y P j e g v J) rfl rfl rfl
 |ks m s off arr p fz x w k i hr=>exact a (.ks m s off arr p fz x w k i hr) rfl rfl rfl
 |pP n e=>exact a (.pP n e) rfl rfl rfl
 |V E F n s off t W arr p fz x w hl K M k i hr=>exact a (.V E F n s off t W arr p fz x w hl K M k i hr) rfl rfl rfl
 |iX e t=>exact a (.iX e t) rfl rfl rfl
 |arr f u S Q n j e D g v hl d=>exact a (.arr f u S Q n j e D g v hl d) rfl rfl rfl
 |func H A r k hr=>exact a (.func H A r k hr) rfl rfl rfl
 |my=>exact a .my rfl rfl rfl
 |mB=>exact a .mB rfl rfl rfl
 |iface p b c d=>exact a (.iface p b c d) rfl rfl rfl
 |iter f j e g d=>exact a (.iter f j e g d) rfl rfl rfl
 |map f j y g d=>exact a (.map f j y g d) rfl rfl rfl
 |pS=>exact a .pS rfl rfl rfl
structure Cw(hp:ah Obj)(μ:Mu)(L:Loc)(wq:Bool)(gW:List T):Prop where
 row:∃arr t,hp[L.jO]? =some (.cells arr t (0,0))/\arr.size=L.cap*L.sz/\iW hp μ (iq gW) (arr.toList.take (iq gW).length)
 room:gW.length<=L.cap
 wq:wq=true->L.cap=gW.length
 size:∀v∈gW,v.cells.length=L.sz
 scalar:∀v∈iq gW,v.scalar=true
def af3(c:ah Obj)(i:Mu)(j:Loc)(e:List T):Prop:=
 ∃a:ah MapEntry,c[j.jO]? =some (.map a a.size)/\a.size=e.length/\
  ∀(d:Nat) h,e[d]? =some h->∃f g b,h= .tuple [f,g]/\a[d]? =some b/\b.born=d/\iu c i f b.key/\iu c i g b.val
def af4(c:ah Obj)(i:Mu)(g:Loc)(h:List T):Prop:=
 ∃e d f b a,h=[.map e,.int .i64 (.ofNat f),.int .i64 (.ofNat b),.int .i64 (.ofNat a)]/\iu c i (.map e) (.map (some d))/\b<=a/\
  c[g.jO]? =some (.mapIter (some d) b (Array.range f) a)
structure ud(hp:ah Obj)(μ:Mu)(L:Loc)(x:jK):Prop where
 ep:x.ep=L.ep
 sz:x.sz=L.sz
 plain:x.it=false->Cw hp μ L x.exact x.gW
 iter:x.it=true->x.ep=0/\((∃s pos,x.gW=[.str s,.int .i64 (.ofNat pos)]/\(∀c∈s,c<256)/\hp[L.jO]? =some (.stringIter (bytesOf s) pos))\/af3 hp μ L x.gW\/af4 hp μ L x.gW)
structure St(cx:Ctx)(base:Nat)(hp:ah Obj)(μ:Mu)(h:H):Prop where
 wf:h.ir.length=h.size
 fit:base<=hp.size
 box:∀b L,μ b=some L->∃x,h.get b=some x/\ud hp μ L x
 inj:∀b b' L L',μ b=some L->μ b'=some L'->L.jO=L'.jO->b=b'
 low:∀b L,μ b=some L->base<=L.jO
 apart:∀b L,μ b=some L->¬μ.rf L.jO
 tV:∀i,μ.rf i->i<hp.size
 B7:∀g cs,cx.gl g=some cs->iu hp μ (.ks cs) (.pointer (some ⟨g,0,none⟩))
def Cw.ext{c d:ah Obj}{g h:Mu}{b:Loc}{f:Bool}{e:List T}(a:Cw c g b f e)(j:Ext c g d h)(n:d[b.jO]? =c[b.jO]?):Cw d h b f e:=by
 have⟨i,o,k,l,m⟩:=a.row;exact⟨⟨i,o,n.trans k,l,m.ext j⟩,a.room,a.wq,a.size,a.scalar⟩
def ud.ext{j k:ah Obj}{n o:Mu}{b:Loc}{h:jK}(d:ud j n b h)(c:Ext j n k o)(i:k[b.jO]? =j[b.jO]?):ud k o b h:=
 ⟨d.ep,d.sz,λa=>(d.plain a).ext c i,λa=>by
   obtain⟨l,⟨H,m,e,f,g⟩|⟨q,e,f,g⟩|⟨A,z,m,E,p,e,f,g,w⟩⟩:=d.iter a
   ·grind
   ·refine⟨l,.inr (.inl ⟨q,i.trans e,f,λy h x=>?_⟩)⟩;have⟨a,F,D,r,s,t,u,v⟩:=g y h x;exact⟨a,F,D,r,s,t,u.ext c,v.ext c⟩
   ·exact⟨l,.inr (.inr ⟨A,z,m,E,p,e,f.ext c,g,i.trans w⟩)⟩⟩
def ud.lt{d:ah Obj}{g:Mu}{a:Loc}{e:jK}(b:ud d g a e):a.jO<d.size:=by
 cases c:e.it with
 |false=>have⟨h,m,f,_⟩:=(b.plain c).row;grind
 |true=>
  obtain⟨_,⟨s,l,_,_,j⟩|⟨i,f,_⟩|⟨_,_,_,_,_,_,_,_,k⟩⟩:=b.iter c
  ·grind
  ·grind
  grind
def St.lt{cx:Ctx}{e:Nat}{c:ah Obj}{d:Mu}{f:H}(s:St cx e c d f){b:Nat}{a:Loc}(g:d b=some a):a.jO<c.size:=by
 have⟨i,_,h⟩:=s.box b a g;exact h.lt
section
section
variable {P:aj}{cx:Ctx}
structure xS(P:aj)(t:af)(ty:Ty):Prop where
 is:∃cmp,ZT P t cmp=some ty
def kw{a:Nat}(b:a<256):(UInt8.ofNat a).toNat=a:=by
 simp_all
def RE(a:List UInt8):Dh a=some (a.map UInt8.toNat):=by
 induction a with
 |nil=>rfl
 |cons d a b=>
  show(J (jd d.toNat) λe=>J (Dh a) λc=>some (e::c))=_;rw[b];simp
def Az(a:ByteArray):bytesOf (a.data.toList.map UInt8.toNat)=a:=by
 unfold bytesOf;rw[List.map_map];have:(UInt8.ofNat∘UInt8.toNat)=id:=by funext b;simp
 rw[this];simp
theorem iu.qg{hp:ah Obj}{μ:Mu}{d:aq}{b:T}(a:qg d=some b):iu hp μ b d/\b.scalar=true:=by
 unfold TI.qg at a;split at a
 ·simp at a;subst a;exact⟨.ez _,rfl⟩
 ·simp at a;subst a;exact⟨.int _ _,rfl⟩
 ·rename_i f;rw[RE]at a;simp at a;subst a;refine⟨?_,rfl⟩;have:=iu.str (hp:=hp) (μ:=μ) (f.data.toList.map UInt8.toNat) (by intro g c;simp at c;obtain⟨e,_,rfl⟩:=c;exact e.toNat_lt);rwa[Az]at this
 ·simp at a;subst a;exact⟨.lU,rfl⟩
 ·simp at a;subst a;exact⟨.pS,rfl⟩
 ·simp at a;subst a;exact⟨.pP _ _,rfl⟩
 ·simp at a;subst a;exact⟨.my,rfl⟩
 ·simp at a;subst a;exact⟨.mB,rfl⟩
 grind
theorem iW.vJ{hp:ah Obj}{μ:Mu}{b:List aq}{e:List T}(j:iH TI.qg b=some e):iW hp μ e b/\∀f∈e,f.scalar=true:=by
 have⟨hl,h⟩:=uM.1 j;refine⟨⟨hl.symm,λa f d=>?_⟩,λf d=>?_⟩
 ·have i:a<b.length:=by
   grind
  have⟨k,c,g⟩:=h a b[a] G;rw[d]at c;grind [iu.qg,List.getD]
 ·obtain⟨a,i,rfl⟩:=List.getElem_of_mem d;have l:a<b.length:=B;have⟨k,c,g⟩:=h a b[a] G;simp[i]at c;subst c;exact(iu.qg (hp:=hp) (μ:=μ) g).2
theorem iu.AB{e:ah Obj}{f:Mu}{a:List T}{b:ah aq}(d:iW e f a b.toList)(g:∀c∈a,c.scalar=true):iu e f (.eZ a) (.agg b):=
 .eZ a b (by simpa using d.1.symm) g λi c h=>by simpa[cj,List.getD]using d.2 i c h
def iu.BP{d:ah Obj}{e:Mu}{a:aq}{b:T}(c:BP a=some b):iu d e b a:=by
 unfold TI.BP at c
 grind [iu.AB,iW.vJ,eg,iu.qg]
def xS.unfold{e:af}{c:Ty}(a:xS P e c):∃b d f,P.info? e=some b/\P.underlying e=some d/\b.zero=some f/\iH qg f.cells.toList=some c.zero/\
 DZ P d=some c.u/\wv d f=true/\c.zero.length=b.size/\b.size=c.size/\b.bytes=c.bytes/\
 (c.cmp=true->P.stoodInHeld e=false/\P.eqGuardType P.depth e=false/\O7 d=true):=by
 have⟨p,a⟩:=a.is;unfold ZT at a;have⟨b,h,a⟩:=eg.1 a;have⟨d,i,a⟩:=eg.1 a;have⟨f,j,a⟩:=eg.1 a;have⟨r,k,a⟩:=eg.1 a;have⟨q,l,a⟩:=eg.1 a;have⟨m,a⟩:=fj.1 a;have⟨n,a⟩:=fj.1 a;have⟨o,a⟩:=fj.1 a;simp at a;rw[<-a];refine⟨b,d,f,h,i,j,k,l,m,?_,rfl,rfl,?_⟩
 ·rw[kE]at n;simp_all
 ·intro g;simp only[]at g;rw[g]at o
  grind
def xS.run_sizeOf{a:af}{b:Ty}(d:xS P a b)(c:World):(sizeOf a).run P c= .ok b.size c:=by
 have⟨h,g,i,e,_,_,_,_,_,_,f,_⟩:=d.unfold;simp[sizeOf,typeInfo,e,f]
def xS.run_typeInfo{c:af}{b:Ty}(e:xS P c b)(d:World):∃a,(typeInfo c).run P d= .ok a d/\a.bytes=b.bytes/\a.size=b.size:=by
 have⟨a,i,j,f,_,_,_,_,_,_,g,h,_⟩:=e.unfold;exact⟨a,by simp[typeInfo,f],h,g⟩
def afR:TypeDesc->Bool
 | .struct _| .array _ _=>true
 |_=>false
def CY{b:TypeDesc}{c:Ty}(a:DZ P b=some c.u):c.isAgg=afR b:=by
 unfold Ty.isAgg;cases b<;>simp only[DZ]at a<;>first|(injection a with a;rw[<-a];rfl)|(split at a<;>simp at a;rw[<-a];rfl)
def xS.wA{a:af}{b:Ty}(e:xS P a b)(c:World):(isAgg a).run P c= .ok b.isAgg c:=by
 have⟨h,d,i,_,f,_,_,g,_⟩:=e.unfold;rw[CY g];simp only[isAgg,Sem.run_bind,run_underlying f,Result.andThen_ok];cases d<;>rfl
def xS.zero{s:af}{a:Ty}(e:xS P s a)(t:World):∃b,(zeroValue s).run P t= .ok b t/\(∀hp μ,iu hp μ a.lH b)/\(∀hp μ,iW hp μ a.zero b.cells.toList)/\
 (∀z∈a.zero,z.scalar=true)/\a.zero.length=a.size/\a.lH.cells=a.zero/\a.lH.jc=true/\b.cells.size=a.size:=by
 have⟨K,n,b,u,F,v,f,o,g,H,I,J,_⟩:=e.unfold;have h:=(iW.vJ (hp:= #[]) (μ:=⟨λ_=>none,λ_=>False⟩) f).2;have k:a.zero.length=b.cells.size:=by
  have:=(iW.vJ (hp:= #[]) (μ:=⟨λ_=>none,λ_=>False⟩) f).1.1;omega
 refine⟨b,by simp[zeroValue,typeInfo,u,v],?_,λhp μ=>(iW.vJ f).1,h,B,?_⟩
 ·intro hp μ;have d:=(iW.vJ (hp:=hp) (μ:=μ) f).1;unfold Ty.lH;rw[CY o];cases n with
  |struct E=>cases b with
   |agg m=>exact iu.AB d h
   |_=>simp[wv]at g
  |array L D=>cases b with
   |agg m=>exact iu.AB d h
   |_=>simp[wv]at g
  |_=>
   have i:b.cells= #[b]:=by cases b<;>simp[wv]at g<;>rfl
   rw[i]at d;obtain⟨hl,_⟩:=d;simp at hl
   match l:a.zero,hl with
   | [c],_=>
    have d:=(iW.vJ (hp:=hp) (μ:=μ) f).1;rw[i,l]at d;have⟨A,m,q,x,_⟩:=d.nU;simp at q;show iu hp μ c b;rw[q.1];exact x
 ·have p:=CY o;have w:(a.isAgg=true/\a.lH= .eZ a.zero)\/(a.isAgg=false/\∃c,a.zero=[c]/\a.lH=c/\c.scalar=true):=by
   cases j:a.isAgg with
   |true=>left;exact⟨rfl,by unfold Ty.lH;rw[j]⟩
   |false=>
    right;refine⟨rfl,?_⟩;have i:b.cells= #[b]:=by
     rw[j]at p;cases n<;>simp[afR]at p<;>cases b<;>simp[wv]at g<;>rfl
    rw[i]at k;simp at k
    match l:a.zero,k with
    | [c],_=>exact⟨c,rfl,by unfold Ty.lH;rw[j,l];rfl,h c (by grind)⟩
  rcases w with⟨_,e⟩|⟨_,c,y,e,r⟩
  ·rw[e];exact⟨rfl,rfl,B⟩
  ·rw[e,y];refine⟨?_,?_,B⟩
   ·cases c<;>simp[T.scalar]at r<;>rfl
   ·cases c<;>simp[T.scalar]at r<;>rfl
structure jT(P:aj)(cx:Ctx):Prop where
 ty:∀t ty,cx.ty t=some ty->xS P t ty
def lO(d:ah Obj)(g:Mu)(e:Nat)(c:Env)(f:ah aq):Prop:=
 ∀a b,c.get e a=some b->iu d g b (f.getD a Go.undef)
def lO.ext{b c:ah Obj}{f g:Mu}{d:Nat}{a:Env}{e:ah aq}(h:lO b f d a e)(l:Ext b f c g):lO c g d a e:=
 λj k i=>(h j k i).ext l
def iZ{k:Nat}{c:ah Obj}{e:Mu}{n:H}{j:Nat}{g:Env}{f:Act}(q:St cx k c e n)(p:lO c e j g f.tmps){d:ai}{a:T}
 (b:iG cx j g d=some a):iu c e a (f.eval d):=by
 cases d with
 |tmp r=>exact p r a b
 |const s=>exact iu.BP b
 |global m=>
  have⟨l,o,i⟩:=eg.1 b;simp at i;subst i;exact q.B7 m l o
 |func h=>
  have:T.func h []=a:=by grind [iG]
  subst this;exact .func h [] #[] rfl λu a t=>by grind
def yG{i:Nat}{c:ah Obj}{e:Mu}{j:H}{h:Nat}{g:Env}{f:Act}(o:St cx i c e j)(n:lO c e h g f.tmps){b:List ai}{d:List T}
 (a:s7 cx h g b=some d):iW c e d (b.map f.eval):=by
 induction b generalizing d with
 |nil=>simp_all[s7,iW.nil]
 |cons p b m=>
  unfold s7 at a;rw[kx]at a;have⟨r,k,a⟩:=eg.1 a;have⟨q,l,a⟩:=eg.1 a;simp at a;subst a;exact iW.cons (iZ o n k) (m l)
end
end
section
section inv
variable {hp:ah Obj}{μ:Mu}{c:aq}
def iu.tu{b:Bool}(h:iu hp μ (.ez b) c):c= .bool b:=by cases h;rfl
def iu.kR{b:ao}{d:Int}(h:iu hp μ (.int b d) c):c= .int b d:=by cases h;rfl
def iu.nq{b:List Nat}(h:iu hp μ (.str b) c):c= .string (bytesOf b)/\∀d∈b,d<256:=by cases h;grind
def iu.tq(h:iu hp μ .lU c):c= .pointer none:=by cases h;rfl
def iu.sx{f d g i:Nat}(h:iu hp μ (.fc f d g i) c):∃b a,c= .pointer (some a)/\μ f=some b/\d<=b.ep/\(d=b.ep->a=⟨b.jO,g*b.sz+i,none⟩):=by
 cases h with|fc _ _ _ _ b a k l j=>grind
def iu.nM{f:List T}(h:iu hp μ (.ks f) c):∃d off b i fz,c= .pointer (some ⟨d,off,none⟩)/\¬pG μ d/\hp[d]? =some (.cells b i fz)/\
 off+f.length<=b.size/\(∀g∈f,yh g)/\∀(j:Nat) g,f[j]? =some g->iu hp μ g (b.getD (off+j) Go.undef):=by
 cases h with|ks _ d off b i fz m l n k hr=>exact⟨d,off,b,i,fz,rfl,m,l,n,k,hr⟩
def iu.vP{j g o f:Nat}{i:Bool}(h:iu hp μ (.arr j g o f i) c):∃b a d,c= .slice a f d/\μ j=some b/\g<=b.ep/\f<=d/\
 (g=b.ep->(i=true->d=f)/\(i=false->o+d=b.cap)/\(d≠0->a=some ⟨b.jO,o*b.sz,none⟩)):=by
 cases h with|arr _ _ _ _ _ b a d k l hl h=>grind
def iu.C0(h:iu hp μ .iX c):∃a b,c= .slice a 0 b:=by cases h;simp
def iu.wO{b:Bool}(h:iu hp μ (.V [] b) c):∃a,c= .slice a 0 0:=by cases h;simp
def iu.wP{j:T}{b:List T}{m:Bool}(h:iu hp μ (.V (j::b) m) c):∃g off i k f l fz,c= .slice (some ⟨g,off,none⟩) (b.length+1) i/\¬pG μ g/\
 hp[g]? =some (.cells f l fz)/\b.length+1<=i/\(m=true->i=b.length+1)/\(∀d∈j::b,d.cells.length=k)/\off+(iq (j::b)).length<=f.size/\
 (∀d∈iq (j::b),yh d)/\∀(n:Nat) d,(iq (j::b))[n]? =some d->iu hp μ d (f.getD (off+n) Go.undef):=by
 cases h with|V _ _ _ g off i k f l fz s r hl q u t p hr=>exact⟨g,off,i,k,f,l,fz,rfl,s,r,hl,q,u,t,p,hr⟩
def iu.uQ{f:ak}{d:List T}(h:iu hp μ (.func f d) c):∃b,c= .func (.func f) #[] b/\iW hp μ d b.toList:=by
 cases h with|func _ _ b g hr=>exact⟨b,rfl,by grind,λj k i=>by simp_all⟩
def iu.wS(h:iu hp μ .my c):c= .nilFunc:=by cases h;rfl
def iu.wQ(h:iu hp μ .mB c):c= .nilIface:=by cases h;rfl
def iu.zI{b:af}{f:T}(h:iu hp μ (.iface b f) c):∃d,c= .iface b d:=by cases h;simp
def iu.Uv{d:Nat}(h:iu hp μ (.iter d) c):∃b a,c= .pointer (some a)/\μ d=some b/\(b.ep=0->a=⟨b.jO,0,none⟩):=by
 cases h with|iter _ b a f h=>grind
def iu.sH{d:List T}(h:iu hp μ (.eZ d) c):∃b,c= .agg b/\iW hp μ d b.toList/\∀f∈d,f.scalar=true:=by
 cases h with|eZ _ b i g hr=>exact⟨b,rfl,⟨by grind,λk f j=>by simp_all⟩,g⟩
def iu.CZ{d:List T}(h:iu hp μ (.tuple d) c):∃b,c= .tuple b/\iW hp μ d b.toList:=by
 cases h with|tuple _ b f hr=>exact⟨b,rfl,by grind,λi j g=>by simp_all⟩
end inv
section
variable {P:aj}{cx:Ctx}{base:Nat}{w:World}{μ:Mu}{h:H}{D:Nat}{e:Env}{a:Act}{o:Oper}
def Bb(μ g:Mu)(d f:Nat):Prop:=d<=f/\(∀b,g b≠none->μ b≠none\/(d<=b/\b<f))/\∀b,d<=b->b<f->g b≠none
def Bb.refl(μ:Mu)(b:Nat):Bb μ μ b b:=⟨ax _,λ_ h=> .inl h,λf g d=>absurd d B⟩
def Bb.trans{hp s t:ah Obj}{μ i j:Mu}{k g l:Nat}(h:Bb μ i k g)(d:Bb i j g l)(x:Ext s i t j):Bb μ j k l:=by
 have v:=h.1;have z:=d.1;refine⟨aU h.1 d.1,λb f=>?_,λb f q=>?_⟩
 ·rcases d.2.1 b f with x|x
  ·rcases h.2.1 b x with y|y
   ·grind
   omega
  omega
 ·by_cases r:b<g
  ·have⟨m,n⟩:=Option.ne_none_iff_exists'.1 (h.2.2 b f r);have⟨u,p,_⟩:=x.mu b m n;rw[p];simp
  ·exact d.2.2 b B q
def j4(cx:Ctx)(base:Nat)(w:World)(μ:Mu)(i:Nat)(g:Result Next)(j:T)(f:H):Prop:=
 ∃c b d,(g= .ok (.value c) b\/(g= .ok .skip b/\c=Go.undef))/\iu b.heap d j c/\St cx base b.heap d f/\sd w μ b d/\Bb μ d i f.size
def j4.pure{b:Result Next}{d:T}{c:aq}(g:St cx base w.heap μ h)(hr:b= .ok (.value c) w)(f:iu w.heap μ d c):j4 cx base w μ h.size b d h:=
 ⟨c,w,μ,.inl hr,f,g,sd.refl _ _,Bb.refl _ _⟩
theorem iI{h d:H}{b:aa T}{f:T}:val h b=some (.val f d)↔b=some f/\d=h:=by
 unfold val;cases b with
 |none=>simp
 |some g=>simp;grind
def Do{h:H}{b:aa T}{f:ak}{d:List T}:val h b≠some (.call f d):=by
 unfold val;cases b<;>simp
theorem DM{d:ai}(g:St cx base w.heap μ h)(l:lO w.heap μ D e a.tmps)(b:o.op= .move d\/o.op= .assign d){i:T}{f:H}
 (j:F8 d cx D e h=some (.val i f)):j4 cx base w μ h.size ((execOp a.eval o).run P w) i f:=by
 obtain⟨k,rfl⟩:=iI.1 j;refine j4.pure g ?_ (iZ g l k);rcases b with b|b<;>simp[execOp,b]
theorem Lt{c n p:ai}(d:St cx base w.heap μ h)(i:lO w.heap μ D e a.tmps)(l:o.op= .pick c n p){m:T}{j:H}
 (b:Im c n p cx D e h=some (.val m j)):j4 cx base w μ h.size ((execOp a.eval o).run P w) m j:=by
 obtain⟨f,q,b⟩:=eg.1 b;have r:=iZ d i q;cases f<;>simp at b;rename_i f;have k:=r.tu;cases f with
 |false=>
  obtain⟨g,rfl⟩:=iI.1 b;exact j4.pure d (by simp[execOp,l,k,asBool]) (iZ d i g)
 |true=>
  obtain⟨g,rfl⟩:=iI.1 b;exact j4.pure d (by simp[execOp,l,k,asBool]) (iZ d i g)
theorem D3{l:ai}(g:St cx base w.heap μ h)(p:lO w.heap μ D e a.tmps)(i:o.op= .nilCheck l){k:T}{j:H}
 (f:uw l cx D e h=some (.val k j)):j4 cx base w μ h.size ((execOp a.eval o).run P w) k j:=by
 have⟨m,n,f⟩:=eg.1 f;have d:=iZ g p n;cases m<;>simp at f
 ·obtain⟨rfl,rfl⟩:=f;have⟨q,r,b,_⟩:=d.sx;exact j4.pure g (by simp[execOp,i,b]) (b▸d)
 ·obtain⟨rfl,rfl⟩:=f;have⟨t,off,s,v,fz,b,_⟩:=d.nM;exact j4.pure g (by simp[execOp,i,b]) (b▸d)
 ·obtain⟨rfl,rfl⟩:=f;have⟨u,b,_⟩:=d.uQ;exact j4.pure g (by simp[execOp,i,b]) (b▸d)
theorem Ji(j7:jT P cx){d:af}{g:ai}(p:St cx base w.heap μ h)(E:lO w.heap μ D e a.tmps)(x:o.op= .makeInterface d g){f:T}{k:H}
 (b:C6 d g cx D e h=some (.val f k)):j4 cx base w μ h.size ((execOp a.eval o).run P w) f k:=by
 have⟨q,y,b⟩:=eg.1 b;have⟨L,j,M,F,s,I,K,l,_⟩:=(j7.ty d q y).unfold;have A:∀{i:H},(J (iG cx D e g) λa=>iS a.jc (val h (some (.iface d a))))=some (.val f i)->(∀n,j≠ .interface n)->j4 cx base w μ h.size ((execOp a.eval o).run P w) f i:=by
  intro i b v;have⟨r,t,b⟩:=eg.1 b;have⟨_,b⟩:=fj.1 b;obtain⟨m,rfl⟩:=iI.1 b;simp at m;subst m;refine j4.pure (c:= .iface d (a.eval g)) p ?_ (.iface d r _ (iZ p E t));simp only[execOp,x,Instr.makeInterface,Sem.run_bind,run_underlying s,Result.andThen_ok];cases j<;>first|rfl|exact absurd rfl (v _)
 cases z:q.u<;>rw[z]at b l<;>first|(exact A b (by rintro n rfl;simp[DZ]at l))|grind
theorem Ly{j:Fn}{first g:ah ai}(m:St cx base w.heap μ h)(s:lO w.heap μ D e a.tmps)(q:o.op= .makeFunc j first g){f:T}{k:H}
 (b:F9 j first g cx D e h=some (.val f k)):j4 cx base w μ h.size ((execOp a.eval o).run P w) f k:=by
 unfold F9 at b;split at b
 ·rename_i i;split at b
  ·rename_i t;obtain⟨n,p,b⟩:=eg.1 b;obtain⟨d,rfl⟩:=iI.1 b;simp at d;subst d;have l:=yG m s p;refine j4.pure (c:= .func (.func i) #[] (g.map a.eval)) m ?_ (.func i n _ (by simpa using l.1.symm) λr f d=>?_)
   ·have:first= #[]:=by grind
    simp[execOp,q,Instr.makeFunc,this]
   ·have:=l.2 r f d;simp_all
  grind
 grind
theorem Ga{j:ai}{f:Nat}(g:St cx base w.heap μ h)(t:lO w.heap μ D e a.tmps)(q:o.op= .extract j f){i:T}{d:H}
 (b:wU j f cx D e h=some (.val i d)):j4 cx base w μ h.size ((execOp a.eval o).run P w) i d:=by
 have⟨k,m,b⟩:=eg.1 b;have n:=iZ g t m;cases k<;>simp at b;obtain⟨s,rfl⟩:=iI.1 b;have⟨u,r,l⟩:=n.CZ;have⟨c,v,p⟩:=l.get s;exact j4.pure g (by simp only[execOp,q,r,Instr.extract];simp_all) p
end
end
section
section
variable {P:aj}{cx:Ctx}{base:Nat}{w:World}{μ:Mu}{h:H}{D:Nat}{e:Env}{a:Act}{o:Oper}{hp:ah Obj}
def xC{i j g:T}{f:ao->Int->Int->aa T}(h:Aa i j f=some g):∃b c d,i= .int b c/\j= .int b d/\f b c d=some g:=by
 unfold Aa at h;split at h
 ·rename_i b c;split at h
  ·rename_i m d;obtain⟨k,l⟩:=fj.1 h;rw[AT]at k;grind
  grind
 grind
def yq{j k i:T}{f:ao->Int->Nat->aa T}(h:CF j k f=some i):∃c d g b,j= .int c d/\k= .int g (.ofNat b)/\f c d (min b c.bits)=some i:=by
 unfold CF at h;split at h
 ·rename_i c d;split at h
  ·rename_i g b;cases b with
   |ofNat b=>grind
   |negSucc b=>grind
  grind
 grind
def JK{j k i:T}{l:Int->Int->Bool}{m:List Nat->List Nat->Bool}(h:N1 j k l m=some i):
 (∃b c d,j= .int b c/\k= .int b d/\i= .ez (l c d))\/(∃f g,j= .str f/\k= .str g/\i= .ez (m f g)):=by
 unfold N1 at h;split at h
 ·rename_i b c;split at h
  ·rename_i q d;obtain⟨n,p⟩:=fj.1 h;rw[AT]at n;subst n;rw[uG]at p;grind
  grind
 ·rename_i f;split at h
  ·rename_i g;rw[uG]at h;grind
  grind
 grind
def qD(b:List Nat):(bytesOf b).toList=b.map UInt8.ofNat:=by
 rw[ByteArray.toList_eq];rfl
def kQ(b:List Nat):(bytesOf b).size=b.length:=by simp[bytesOf,ByteArray.size]
theorem ofNat_inj{b c:Nat}(d:b<256)(f:c<256)(h:UInt8.ofNat b=UInt8.ofNat c):b=c:=by
 have:=bL UInt8.toNat h;rwa[kw d,kw f]at this
theorem Hk{c b:List Nat}(g:∀d∈c,d<256)(ht:∀d∈b,d<256)(h:c.map UInt8.ofNat=b.map UInt8.ofNat):c=b:=by
 induction c generalizing b with
 |nil=>simp_all
 |cons d c j=>cases b with
  |nil=>grind
  |cons k b=>
   simp only[aO,bY]at h;rw[ofNat_inj (g d G) (ht k G) h.1,j (λf i=>g f (by grind)) (λf i=>ht f (by grind)) h.2]
def Cb{b c:List Nat}(f:∀d∈b,d<256)(ht:∀d∈c,d<256):((bytesOf b).toList==(bytesOf c).toList)=Zu b c:=by
 rw[Jt,qD,qD,bJ,beq_iff_eq,beq_iff_eq]
 grind [Hk]
def FP(b:Nat)(d:List Nat)(c:Nat)(f:List Nat):VV (b::d) (c::f)=(decide (b<c)||(b==c&&VV d f)):=by
 show @Bool.rec (λ_=>Bool) (@Bool.rec (λ_=>Bool) false (VV d f) (Nat.beq b c)) true (Nat.blt b c)=_;have g:Nat.blt b c=decide (b<c):=by rw[bJ,aK];simp
 have i:Nat.beq b c=(b==c):=by rw[bJ,Nat.beq_eq];simp
 rw[g,i];cases decide (b<c)<;>cases (b==c)<;>rfl
def BW{d c:List Nat}(i:∀b∈d,b<256)(ht:∀b∈c,b<256):Op.bytesLess (bytesOf d).toList (bytesOf c).toList=VV d c:=by
 rw[qD,qD];induction d generalizing c with
 |nil=>cases c<;>rfl
 |cons b d p=>cases c with
  |nil=>rfl
  |cons f c=>
   have l:=i b G;have m:=ht f G;rw[FP];simp only[aO,Op.bytesLess];rw[p (λg n=>i g (by grind)) (λg n=>ht g (by grind))];have j:(decide (UInt8.ofNat b<UInt8.ofNat f))=decide (b<f):=by
    rw[bJ,decide_eq_true_iff,decide_eq_true_iff,UInt8.lt_iff_toNat_lt,kw l,kw m]
   have k:(UInt8.ofNat b==UInt8.ofNat f)=(b==f):=by
    rw[bJ,beq_iff_eq,beq_iff_eq]
    grind [ofNat_inj]
   rw[j,k]
def Ia(c b:List Nat):(VV c b||Zu c b)= !VV b c:=by
 induction c generalizing b with
 |nil=>cases b<;>rfl
 |cons f c d=>cases b with
  |nil=>rfl
  |cons g b=>
   rw[FP,FP,Jt,List.cons_beq_cons,<-Jt];have:=d b
   grind
def GJ(b c:List Nat):bytesOf (b++c)=bytesOf b++bytesOf c:=by
 apply ByteArray.ext;simp[bytesOf,ByteArray.data_append]
def L7{p:BinOp}{i q l:T}{y A:aq}(x:af)(W:p≠ .eql)(ab:p≠ .neq)(u:iu hp μ i y)(v:iu hp μ q A)(b:binop p i q=some l):
 ∃j,(binOp p x y A).run P w= .ok j w/\iu hp μ l j:=by
 have iz:∀{t:ao->Int->Int->aa T},Aa i q t=some l->
  (∀k d c,t k d c=some l->∃j,(binOp p x (.int k d) (.int k c)).run P w= .ok j w/\iu hp μ l j)->∃j,(binOp p x y A).run P w= .ok j w/\iu hp μ l j:=by
  intro t M V;obtain⟨k,d,c,rfl,rfl,m⟩:=xC M;rw[u.kR,v.kR];exact V k d c m
 have z:∀{t:Int->Int->Bool} {L:List Nat->List Nat->Bool},N1 i q t L=some l->
  (∀k d c,(binOp p x (.int k d) (.int k c)).run P w= .ok (.bool (t d c)) w)->
  (∀f g,(∀i∈f,i<256)->(∀i∈g,i<256)->(binOp p x (.string (bytesOf f)) (.string (bytesOf g))).run P w= .ok (.bool (L f g)) w)->∃j,(binOp p x y A).run P w= .ok j w/\iu hp μ l j:=by
  intro t L M D m;rcases JK M with⟨k,d,c,rfl,rfl,rfl⟩|⟨f,g,rfl,rfl,rfl⟩
  ·rw[u.kR,v.kR];exact⟨_,D k d c,.ez _⟩
  ·have⟨I,E⟩:=u.nq;have⟨K,F⟩:=v.nq;rw[I,K];exact⟨_,m f g E F,.ez _⟩
 cases p with
 |eql=>exact absurd rfl W
 |neq=>exact absurd rfl ab
 |add=>
  have b:Ye i q=some l:=b;by_cases Q:∃f,i= .str f
  ·obtain⟨f,rfl⟩:=Q;by_cases R:∃g,q= .str g
   ·obtain⟨g,rfl⟩:=R;have b:(J (HC f g) λO=>iS (Nat.ble (mJ O) 4294967296) (some (T.str O)))=some l:=b;have⟨O,D,b⟩:=eg.1 b;have⟨hl,b⟩:=fj.1 b;simp at D b;subst D;subst b;have hl:=bh hl;rw[kE,aV]at hl;have⟨I,E⟩:=u.nq;have⟨K,F⟩:=v.nq;rw[I,K];refine⟨.string (bytesOf (f++g)),?_,.str _ (by intro j n;rcases List.mem_append.1 n with k|k;exact E j k;exact F j k)⟩;rw[GJ];have U:¬(((bytesOf f).size+(bytesOf g).size:Nat):Int)>IntKind.i64.max:=by
     rw[kQ,kQ];have:IntKind.i64.max=9223372036854775807:=dT;rw[this];omega
    simp only[binOp,Op.stringOp,U,br,Sem.run_pure]
   ·exfalso;unfold Ye at b;cases q<;>first|(simp at b;done)|exact R ⟨_,rfl⟩
  ·have b:Aa i q (λk a S=>sP k (a+S))=some l:=by
    unfold Ye at b;cases i<;>first|exact b|exact absurd ⟨_,rfl⟩ Q
   refine iz b λk d c h=>?_;rw[Bp]at h;simp at h;subst h;exact⟨_,by simp[binOp,Op.intArith],.int _ _⟩
 |sub=>
  refine iz b λk d c h=>?_;rw[Bp]at h;simp at h;subst h;exact⟨_,by simp[binOp,Op.intArith],.int _ _⟩
 |mul=>
  refine iz b λk d c h=>?_;rw[Bp]at h;simp at h;subst h;exact⟨_,by simp[binOp,Op.intArith],.int _ _⟩
 |quo=>
  refine iz b λk d c h=>?_;cases n:VW c 0 with
  |true=>rw[n]at h;simp at h
  |false=>
   rw[n]at h;have N:¬c=0:=by rw[AZ]at n;simpa using n
   simp only[Bp]at h;simp at h;subst h;exact⟨_,by simp[binOp,Op.intDiv,N],.int _ _⟩
 |rem=>
  refine iz b λk d c h=>?_;cases n:VW c 0 with
  |true=>rw[n]at h;grind
  |false=>
   rw[n]at h;have N:¬c=0:=by rw[AZ]at n;grind
   simp only[qI]at h;simp at h;subst h;exact⟨_,by simp[binOp,Op.intDiv,N],.int _ _⟩
 |and=>
  refine iz b λk d c h=>?_;rw[qI]at h;simp only[aw]at h;subst h;exact⟨_,by simp[binOp,Op.intBits],.int _ _⟩
 |or=>
  refine iz b λk d c h=>?_;rw[qI]at h;simp only[aw]at h;subst h;exact⟨_,by simp[binOp,Op.intBits],.int _ _⟩
 |xor=>
  refine iz b λk d c h=>?_;rw[qI]at h;simp only[aw]at h;subst h;exact⟨_,by simp[binOp,Op.intBits],.int _ _⟩
 |shl=>
  have b:CF i q (λk a c=>AI k (k.wrap (a*2^c)))=some l:=b;obtain⟨k,d,ae,c,rfl,rfl,m⟩:=yq b;rw[u.kR,v.kR];rw[qI]at m;simp only[aw]at m;subst m;have Z:¬((c:Nat):Int)<0:=B;exact⟨_,by rfl,.int _ _⟩
 |shr=>
  have b:CF i q (λk a c=>AI k (a.fdiv (2^c)))=some l:=b;obtain⟨k,d,ae,c,rfl,rfl,m⟩:=yq b;rw[u.kR,v.kR];rw[qI]at m;simp only[aw]at m;subst m;have Z:¬((c:Nat):Int)<0:=B;exact⟨_,by rfl,.int _ _⟩
 |lss=>exact z b (λk d c=>by simp[binOp,Op.intCmp,AQ]) (λf g r s=>by simp only[binOp,Op.stringOp,BW r s,Sem.run_pure])
 |leq=>exact z b (λk d c=>by simp only[binOp,Op.intCmp,AQ,ne_eq,not_true,br,Sem.run_pure];congr 2;rw[bJ];simp) (λf g r s=>by simp only[binOp,Op.stringOp,BW r s,Cb r s,Sem.run_pure,Ia])
 |gtr=>exact z b (λk d c=>by simp[binOp,Op.intCmp,AQ]) (λf g r s=>by simp only[binOp,Op.stringOp,BW r s,Cb r s,Sem.run_pure,Ia,Bool.not_not])
 |geq=>exact z b (λk d c=>by simp only[binOp,Op.intCmp,AQ,ne_eq,not_true,br,Sem.run_pure];congr 2;rw[bJ];simp) (λf g r s=>by simp only[binOp,Op.stringOp,BW r s,Sem.run_pure])
 |_=>grind [binop]
def Hx{b:BinOp}{i:af}{j k:ai}{c d:aq}(f:b≠ .eql)(g:b≠ .neq):(eqGuard b i j k c d).run P w= .ok () w:=by
 cases b<;>first|(exact absurd rfl f)|(exact absurd rfl g)|(simp[eqGuard])
def NB{c:BinOp}{k t:af}{m n:ai}(g:c≠ .eql)(i:c≠ .neq)(d:St cx base w.heap μ h)(j:lO w.heap μ D e a.tmps)(p:o.op= .binOp c k m n t){l:T}{f:H}
 (b:Rq c m n cx D e h=some (.val l f)):j4 cx base w μ h.size ((execOp a.eval o).run P w) l f:=by
 have⟨u,hp,b⟩:=eg.1 b;have⟨v,q,b⟩:=eg.1 b;obtain⟨r,rfl⟩:=iI.1 b;have⟨x,s,hr⟩:=L7 (P:=P) (w:=w) k g i (iZ d j hp) (iZ d j q) r;refine j4.pure d ?_ hr;simp only[execOp,p,Sem.run_bind,Hx g i,Result.andThen_ok,s,Sem.run_pure]
theorem Rm{d:UnOp}{r:af}{m:ai}(f:St cx base w.heap μ h)(q:lO w.heap μ D e a.tmps)(j:o.op= .unOp d r m){l:T}{g:H}
 (c:hUn d m cx D e h=some (.val l g)):j4 cx base w μ h.size ((execOp a.eval o).run P w) l g:=by
 obtain⟨k,hp,c⟩:=eg.1 c;obtain⟨b,rfl⟩:=iI.1 c;have i:=iZ f q hp;cases d with
 |neg=>
  cases k<;>simp[unop]at b;subst b;exact j4.pure f (by simp[execOp,j,i.kR,Op.unary,Op.intArith]) (.int _ _)
 |not=>
  cases k<;>simp[unop]at b;rename_i n;have p:=i.tu;cases n<;>simp at b<;>subst b<;>exact j4.pure f (by simp[execOp,j,p,Op.unary]) (.ez _)
 |_=>simp[unop]at b
end
end
section
section
variable {P:aj}{cx:Ctx}{base:Nat}{w:World}{μ:Mu}{h:H}{D:Nat}{e:Env}{a:Act}{o:Oper}{hp:ah Obj}
def mt{c:af}{d:Ty}(h:xS P c d):∃b,P.underlying c=some b/\DZ P b=some d.u:=by
 have⟨i,b,j,_,f,_,_,g,_⟩:=h.unfold
 grind
def y9{b:TypeDesc}{c:ao}(h:DZ P b=some (.int c)):b= .int c:=by
 cases b<;>simp only[DZ]at h<;>first|(split at h<;>simp at h;done)|(simp at h;done)|grind
def R8{b:TypeDesc}(h:DZ P b=some .ez):b= .bool:=by
 cases b<;>simp only[DZ]at h<;>first|rfl|(split at h<;>simp at h;done)|(simp at h;done)
theorem vi{b:TypeDesc}(h:DZ P b=some .str):b= .string:=by
 cases b<;>simp only[DZ]at h<;>first|rfl|(split at h<;>simp at h;done)|(simp at h;done)
def nz{b:TypeDesc}{e:af}(h:DZ P b=some (.slice e)):b= .slice e:=by
 cases b<;>simp only[DZ]at h<;>first|(split at h<;>simp at h;done)|(simp at h;done)|grind
def us{b:TypeDesc}{c:Nat}{e:af}(h:DZ P b=some (.array c e)):b= .array c e:=by
 cases b<;>simp only[DZ]at h<;>first|(split at h<;>simp at h;done)|(simp at h;done)|grind
def V2{b:TypeDesc}{e:af}(h:DZ P b=some (.fc e)):b= .pointer e:=by
 cases b<;>simp only[DZ]at h<;>first|(split at h<;>simp at h;done)|(simp at h;done)|grind
def R7{b:TypeDesc}(h:DZ P b=some .func):∃c d f,b= .func c d f:=by
 cases b<;>simp only[DZ]at h<;>first|(split at h<;>simp at h;done)|(simp at h;done)|simp
def Qi{b:TypeDesc}(h:DZ P b=some .iface):∃c,b= .interface c:=by
 cases b<;>simp only[DZ]at h<;>first|(split at h<;>simp at h;done)|(simp at h;done)|simp
def uB{d:TypeDesc}{g:List (Nat×af)}(h:DZ P d=some (.struct g)):
 ∃c,d= .struct c/\g=c.toList.map (λb=>(b.offset,b.type))/\∀b∈c.toList,∃f,P.info? b.type=some f/\f.size≠0:=by
 cases d<;>simp only[DZ]at h<;>try (simp at h;done)
 rename_i c;split at h
 ·rename_i j;simp only[aw,U.struct.injEq]at h;refine⟨c,rfl,h.symm,λb k=>?_⟩;have:=List.all_eq_true.1 j b k;cases i:P.info? b.type with
  |none=>rw[i]at this;grind
  |some f=>rw[i]at this;grind
 grind
def bytes_beq{b c:List Nat}(f:∀d∈b,d<256)(ht:∀d∈c,d<256):(bytesOf b==bytesOf c)=Zu b c:=by
 rw[beq_toListBytes,Cb f ht]
def xF{l:af}{p:TypeDesc}{t:U}{j g:T}{n s:aq}{m:Bool}(d:P.underlying l=some p)(k:DZ P p=some t)(i:iu hp μ j n)(f:iu hp μ g s)
 (b:uU t j g=some m) (J:Nat):(Op.equalIn (J+1) l n s).run P w= .ok m w:=by
 unfold uU at b;split at b
 ·have:=y9 k;subst this;cases j<;>simp at b;cases g<;>simp at b;obtain⟨q,r⟩:=fj.1 b;rw[AT]at q;subst q;simp at r;subst r;rw[i.kR,f.kR];simp[Op.equalIn,run_underlying d,AZ]
 ·have:=R8 k;subst this;cases j<;>simp at b;cases g<;>simp at b;rename_i K L;rw[i.tu,f.tu];cases K<;>cases L<;>simp at b<;>subst b<;>simp[Op.equalIn,run_underlying d]
 ·have:=vi k;subst this;cases j<;>simp at b;cases g<;>simp at b;subst b;obtain⟨F,y⟩:=i.nq;obtain⟨I,z⟩:=f.nq;rw[F,I];simp[Op.equalIn,run_underlying d,bytes_beq y z]
 ·have:=V2 k;subst this;cases j<;>simp at b
  ·rw[i.tq];cases g<;>simp at b<;>subst b
   ·rw[f.tq];simp[Op.equalIn,run_underlying d]
   ·obtain⟨u,v,c,_⟩:=f.sx;rw[c];simp[Op.equalIn,run_underlying d]
   ·obtain⟨A,off,x,l,fz,c,_⟩:=f.nM;rw[c];simp[Op.equalIn,run_underlying d]
  ·obtain⟨u,v,c,_⟩:=i.sx;cases g<;>simp at b;subst b;rw[f.tq,c];simp[Op.equalIn,run_underlying d]
  ·obtain⟨A,off,x,l,fz,c,_⟩:=i.nM;cases g<;>simp at b;subst b;rw[f.tq,c];simp[Op.equalIn,run_underlying d]
 ·obtain⟨N,O,Q,rfl⟩:=R7 k;cases j<;>simp at b
  ·obtain⟨D,c,_⟩:=i.uQ;cases g<;>simp at b;subst b;rw[f.wS,c];simp[Op.equalIn,run_underlying d]
  ·rw[i.wS];cases g<;>simp at b<;>subst b
   ·obtain⟨D,c,_⟩:=f.uQ;rw[c];simp[Op.equalIn,run_underlying d]
   ·rw[f.wS];simp[Op.equalIn,run_underlying d]
 ·obtain⟨M,rfl⟩:=Qi k;cases j<;>simp at b
  ·rw[i.wQ];cases g<;>simp at b<;>subst b
   ·rw[f.wQ];simp[Op.equalIn,run_underlying d]
   ·obtain⟨E,c⟩:=f.zI;rw[c];simp[Op.equalIn,run_underlying d]
  ·obtain⟨E,c⟩:=i.zI;cases g<;>simp at b;subst b;rw[f.wQ,c];simp[Op.equalIn,run_underlying d]
 grind
def At(b:Nat×af)(d:List (Nat×af))(c:Nat)(j:T)(g:List T)(k:T)(f:List T):eqFields cx (b::d) c (j::g) (k::f)=
 iS (Nat.beq b.1 c) (J (cx.ty b.2) λi=>iS i.u.plain (J (uU i.u j k) λl=> @Bool.rec (λ_=>aa Bool) (some false) (eqFields cx d (c+1) g f) l)):=rfl
def run_part_plain{g:af}{b:Ty}(h:xS P g b)(hp:b.u.plain=true){d:ah aq}{f:Nat}{c:aq}(j:d[f]? =some c):(part g d f).run P w= .ok c w:=by
 have i:b.isAgg=false:=by
  unfold Ty.isAgg;cases k:b.u<;>simp[k,U.plain]at hp<;>rfl
 simp[part,h.wA,i,j]
def Gs(j7:jT P cx)(t:Nat):∀(m:List Field) (c:Nat) (g i:List T) (j l:ah aq) (f:Bool),
 iW hp μ g (j.toList.drop c)->iW hp μ i (l.toList.drop c)->(∀d∈m,d.name≠ "_")->eqFields cx (m.map λd=>(d.offset,d.type)) c g i=some f->
 (Op.eqFields (t+1) j l m).run P w= .ok f w:=by
 intro m;induction m with
 |nil=>
  intro c g i j l f _ _ _ b;have:f=true:=by simpa[eqFields]using b.symm
  subst this;simp[Op.eqFields]
 |cons d m U=>
  intro c g i j l f r s q b;rw[aO]at b;cases g with
  |nil=>simp[eqFields]at b
  |cons W g=>cases i with
   |nil=>simp[eqFields]at b
   |cons Z i=>
    rw[At]at b;have⟨z,b⟩:=fj.1 b;have⟨ae,A,b⟩:=eg.1 b;have⟨p,b⟩:=fj.1 b;have⟨V,D,b⟩:=eg.1 b;have O:d.offset=c:=aH z;have⟨u,E,R⟩:=r.get (k:=0) (v:=W) G;have⟨x,I,S⟩:=s.get (k:=0) (v:=Z) G;have F:j[c]? =some u:=by simpa using E
    have K:l[c]? =some x:=by simpa using I
    have n:=j7.ty _ _ A;have⟨ab,J,Q⟩:=mt n;have L:=xF (P:=P) (w:=w) J Q R S D t;have N:d.name≠ "_" :=q d G;simp only[Op.eqFields,N,ne_eq,not_false_eq_true,bw,Sem.run_bind,O,run_part_plain n p F,run_part_plain n p K,Result.andThen_ok,L];cases V with
    |false=>
     have:f=false:=by simpa using b.symm
     subst this;simp
    |true=>
     simp only[Bool.not_true,cC,br];refine U (c+1) g i j l f ?_ ?_ (λy M=>q y (by simp[M])) b
     ·have:=r.drop 1;simpa[dh,Nat.add_comm]using this
     ·have:=s.drop 1;simpa[dh,Nat.add_comm]using this
def Hy{e:af}{l:Ty}(m:xS P e l)(n:l.u.plain=true)(r:Nat):∀(g d:List T) (f:Nat) (i j:ah aq) (c:Bool),
 iW hp μ g (i.toList.drop f)->iW hp μ d (j.toList.drop f)->Cc l.u g d=some c->(Op.eqItems (r+1) e 1 i j (List.range' f g.length)).run P w= .ok c w:=by
 intro g;induction g with
 |nil=>
  intro d f i j c _ _ b;have:c=true:=by
   cases d with
   |nil=>have b:some true=some c:=b;simpa using b.symm
   |cons=>simp[Cc]at b
  subst this;simp[Op.eqItems]
 |cons s g O=>
  intro d f i j c p q b;cases d with
  |nil=>simp[Cc]at b
  |cons t d=>
   have b:(J (uU l.u s t) λR=> @Bool.rec (λ_=>aa Bool) (some false) (Cc l.u g d) R)=some c:=b;have⟨Q,z,b⟩:=eg.1 b;have⟨x,A,M⟩:=p.get (k:=0) (v:=s) G;have⟨y,E,N⟩:=q.get (k:=0) (v:=t) G;have D:i[f]? =some x:=by simpa using A
   have I:j[f]? =some y:=by simpa using E
   have⟨S,F,L⟩:=mt m;have K:=xF (P:=P) (w:=w) F L M N z r;rw[aQ,List.range'_succ];simp only[Op.eqItems,Sem.run_bind,Nat.mul_one,run_part_plain m n D,run_part_plain m n I,Result.andThen_ok,K];cases Q with
   |false=>
    have:c=false:=by simpa using b.symm
    subst this;simp
   |true=>
    simp only[Bool.not_true,cC,br];refine O d (f+1) i j c ?_ ?_ b
    ·have:=p.drop 1;simpa[dh,Nat.add_comm]using this
    ·have:=q.drop 1;simpa[dh,Nat.add_comm]using this
theorem LI{f:BinOp}{g:af}{b c:ai}(d:(Region.isConst b||Region.isConst c)=true):(eqGuard f g b c .nilIface .nilIface).run P w= .ok () w:=by
 unfold eqGuard;cases b<;>cases c<;>simp[Region.isConst]at d<;>simp
def In(j7:jT P cx){neg:Bool}{K:BinOp}{x u:af}{J A:ai}(g:K=(if neg then BinOp.neq else BinOp.eql))(s:St cx base w.heap μ h)(r:lO w.heap μ D e a.tmps)
 (b9:o.op= .binOp K x J A u) {v:T} {aN:H} (F:hEq neg x J A cx D e h=some (.val v aN)):j4 cx base w μ h.size ((execOp a.eval o).run P w) v aN:=by
 obtain⟨dv,cL,F⟩:=eg.1 F;obtain⟨L,hp,F⟩:=eg.1 F;obtain⟨y,V,F⟩:=eg.1 F;obtain⟨bi,F⟩:=fj.1 F;obtain⟨E,b,F⟩:=eg.1 F;obtain⟨bp,rfl⟩:=iI.1 F;have t:=iZ s r hp;have k:=iZ s r V;have cF:=j7.ty _ _ cL;have bX:v= .ez (if neg then !E else E):=by
  rw[uG]at bp;cases neg<;>simpa using bp.symm
 subst bX;have bs:(eqGuard K x J A (a.eval J) (a.eval A)).run P w= .ok () w/\(binOp K x (a.eval J) (a.eval A)).run P w= .ok (.bool (if neg then !E else E)) w:=by
  obtain⟨i,d,z,_,U,_,_,Q,_,_,_,_,aX⟩:=cF.unfold;unfold Ml at b;split at b
  ·rename_i de ap;rw[ap]at Q;obtain⟨aA,rfl,b6,_⟩:=uB Q;cases L<;>simp at b;cases y<;>simp at b;obtain⟨an,b⟩:=fj.1 b;obtain⟨S,O,av⟩:=aX an;obtain⟨q,j,ab,_⟩:=t.sH;obtain⟨I,c,bH,_⟩:=k.sH;rw[j,c];refine⟨run_eqGuard_agg w K x J A q I O,?_⟩;have a7:P.fieldsOf x=aA:=by simp[Program.fieldsOf,U]
   have p:(Op.equalIn 10000 x (.agg q) (.agg I)).run P w= .ok E w:=by
    rw[run_equalIn_struct w 9999 x q I (by rw[a7];exact U) S,a7];rw[b6]at b;refine Gs j7 9998 aA.toList 0 _ _ q I E (by simpa using ab) (by grind) ?_ b;intro f bW;have:=List.all_eq_true.1 av f bW
    grind
   cases neg with
   |false=>simp at g;subst g;rw[run_eql_struct,p];rfl
   |true=>simp at g;subst g;rw[run_neq_struct,p];rfl
  ·rename_i n e ap;rw[ap]at Q;have bT:=us Q;subst bT;cases L<;>simp at b;cases y<;>simp at b;obtain⟨an,b⟩:=fj.1 b;obtain⟨ds,cp,b⟩:=eg.1 b;obtain⟨cb,b⟩:=fj.1 b;obtain⟨cd,b⟩:=fj.1 b;obtain⟨b8,b⟩:=fj.1 b;obtain⟨S,O,av⟩:=aX an;obtain⟨q,j,ab,_⟩:=t.sH;obtain⟨I,c,bH,_⟩:=k.sH;rw[j,c];refine⟨run_eqGuard_agg w K x J A q I O,?_⟩;have bn:=j7.ty _ _ cp;have p:(Op.equalIn 10000 x (.agg q) (.agg I)).run P w= .ok E w:=by
    obtain⟨dn,dd,ea,bg,_,_,_,_,_,_,dm,_⟩:=bn.unfold;rw[run_equalIn_array w 9999 q I U bg,List.range_eq_range'];have ca:P.cellsOf e=1:=by
     have:=aH cd;simp only[Program.cellsOf,bg,dj,dB];omega
    have b7:=aH b8;rw[ca,<-b7];exact Hy bn cb 9998 _ _ 0 q I E (by simpa using ab) (by grind) b
   cases neg with
   |false=>simp at g;subst g;rw[run_eql_struct,p];rfl
   |true=>simp at g;subst g;rw[run_neq_struct,p];rfl
  ·have p:=xF (P:=P) (w:=w) U Q t k b 9999;have a8:∀l m:aq,(l≠ .nilIface\/m≠ .nilIface)->((∀c7,l≠ .agg c7)\/∀c9,m≠ .agg c9)->(eqGuard K x J A l m).run P w= .ok () w:=by
    intro l m aE di;cases neg with
    |false=>
     simp at g;subst g;cases l<;>cases m<;>first|(simp[eqGuard];done)|(simp at aE;done)|grind
    |true=>
     simp at g;subst g;cases l<;>cases m<;>first|(simp[eqGuard];done)|(simp at aE;done)|grind
   have dk:∀l m:aq,(∀W cX Z c1,(l,m)≠(.int W cX,.int Z c1))->(∀c4 c6,(l,m)≠(.string c4,.string c6))->(∀ae M al N,(l,m)≠(.float ae M,.float al N))->(∀ae M S al N O,(l,m)≠(.complex ae M S,.complex al N O))->
    (Op.equalIn 10000 x l m).run P w= .ok E w->(binOp K x l m).run P w= .ok (.bool (if neg then !E else E)) w:=by
    intro l m bu bA bB bC a6;cases neg with
    |false=>
     simp at g;subst g;cases l<;>cases m<;>first|(exact absurd rfl (bu _ _ _ _))|(exact absurd rfl (bA _ _))|(exact absurd rfl (bB _ _ _ _))|(exact absurd rfl (bC _ _ _ _ _ _))|(simp[binOp,Op.equal,Op.maxDepth,a6])
    |true=>
     simp at g;subst g;cases l<;>cases m<;>first|(exact absurd rfl (bu _ _ _ _))|(exact absurd rfl (bA _ _))|(exact absurd rfl (bB _ _ _ _))|(exact absurd rfl (bC _ _ _ _ _ _))|(simp[binOp,Op.equal,Op.maxDepth,a6])
   unfold uU at b;split at b
   ·cases L<;>simp at b;cases y<;>simp at b;obtain⟨W,Z⟩:=fj.1 b;rw[AT]at W;subst W;simp at Z;subst Z;rw[t.kR,k.kR];refine⟨a8 _ _ (.inl G) (.inl G),?_⟩;cases neg<;>simp at g<;>subst g<;>simp[binOp,Op.intCmp,AZ,bne]
   ·cases L<;>simp at b;cases y<;>simp at b;rw[t.tu,k.tu]at p|-
    grind
   ·cases L<;>simp at b;cases y<;>simp at b;subst b;obtain⟨j,M⟩:=t.nq;obtain⟨c,N⟩:=k.nq;rw[j,c];refine⟨a8 _ _ (.inl G) (.inl G),?_⟩;cases neg<;>simp at g<;>subst g<;>simp[binOp,Op.stringOp,Cb M N]
   ·cases L<;>simp at b
    ·have j:=t.tq;rw[j]at p|-;have c:∃R,a.eval A= .pointer R:=by
      cases y<;>simp at b
      ·exact⟨_,k.tq⟩
      ·obtain⟨_,R,V,_⟩:=k.sx;grind
      ·obtain⟨_,_,_,_,_,V,_⟩:=k.nM;grind
     obtain⟨R,c⟩:=c;rw[c]at p|-
     grind
    ·obtain⟨_,R,j,_⟩:=t.sx;cases y<;>simp at b;have c:=k.tq;rw[j,c]at p|-
     grind
    ·obtain⟨_,_,_,_,_,j,_⟩:=t.nM;cases y<;>simp at b;have c:=k.tq;rw[j,c]at p|-
     grind
   ·cases L<;>simp at b
    ·obtain⟨q,j,_⟩:=t.uQ;cases y<;>simp at b;have c:=k.wS;rw[j,c]at p|-
     grind
    ·have j:=t.wS;have c:(∃f bN q,a.eval A= .func f bN q)\/a.eval A= .nilFunc:=by
      cases y<;>simp at b
      ·obtain⟨q,V,_⟩:=k.uQ;grind
      ·exact .inr k.wS
     grind
   ·cases L<;>simp at b
    ·have j:=t.wQ;cases y<;>simp at b
     ·have c:=k.wQ;rw[j,c]at p|-;have bi:(Region.isConst J||Region.isConst A)=true:=bi
      grind [LI]
     ·obtain⟨bS,c⟩:=k.zI;rw[j,c]at p|-
      grind
    ·obtain⟨bS,j⟩:=t.zI;cases y<;>simp at b;have c:=k.wQ;rw[j,c]at p|-
     grind
   grind
 refine j4.pure s ?_ (.ez _);simp only[execOp,b9,Sem.run_bind,bs.1,Result.andThen_ok,bs.2,Sem.run_pure]
end
end
section
section
variable {P:aj}{cx:Ctx}{base:Nat}{w:World}{μ:Mu}{h:H}{D:Nat}{e:Env}{a:Act}{o:Oper}{hp:ah Obj}
def mp(b off c:Nat):(⟨b,off,none⟩:Addr).add c=⟨b,off+c,none⟩:=by
 unfold Addr.add;split<;>simp_all
theorem nN(c:T)(b:List T):iq (c::b)=c.cells++iq b:=by simp[iq]
def o7(a b:List T):iq (a++b)=iq a++iq b:=by simp[iq]
def jh{sz:Nat}{b:List T}(d:∀c∈b,c.cells.length=sz):(iq b).length=b.length*sz:=by
 induction b with
 |nil=>simp[iq]
 |cons g b f=>
  rw[nN,aV,f (λc i=>d c (by grind)),d g G,aQ,cm];omega
def r6{d:Nat}{b:List T}(g:∀f∈b,f.cells.length=d)(c:Nat):(iq b).drop (c*d)=iq (b.drop c):=by
 induction c generalizing b with
 |zero=>simp
 |succ c k=>cases b with
  |nil=>simp[iq]
  |cons i b=>
   have j:=g i G;rw[nN,cm,Nat.add_comm,<-dh];have:(i.cells++iq b).drop d=iq b:=by rw[<-j];simp
   rw[this,k (λf l=>g f (by grind))];rfl
def uy{g:Nat}{b:List T}(f:∀d∈b,d.cells.length=g)(c:Nat):(iq b).take (c*g)=iq (b.take c):=by
 induction c generalizing b with
 |zero=>simp[iq]
 |succ c j=>cases b with
  |nil=>grind
  |cons k b=>
   have i:=f k G;rw[nN,List.take_succ_cons,nN,<-j (λd l=>f d (by grind)),cm,List.take_append,i]
   grind
structure vY(hp:ah Obj)(μ:Mu)(jO off:Nat)(cs:List T):Prop where
 row:∃arr t fz,hp[jO]? =some (.cells arr t fz)/\off+cs.length<=arr.size/\∀(k:Nat) v,cs[k]? =some v->iu hp μ v (arr.getD (off+k) Go.undef)
 scalar:∀v∈cs,v.scalar=true
def vY.cell{g off:Nat}{c:List T}(n:vY w.heap μ g off c){b:Nat}{d:T}(m:c[b]? =some d):∃i,w.cell? ⟨g,off+b,none⟩=some i/\iu w.heap μ d i:=by
 have⟨f,r,fz,j,p,k⟩:=n.row;have q:b<c.length:=by
  grind
 have l:off+b<f.size:=B;refine⟨f[off+b],by simp[World.cell?,j,l],?_⟩;have:=k b d m;simp_all
def vY.take{d off:Nat}{f:List T}(g:vY hp μ d off f)(m:Nat):vY hp μ d off (f.take m):=by
 have⟨i,n,fz,j,p,k⟩:=g.row;refine⟨⟨i,n,fz,j,by grind,λl c b=>k l c ?_⟩,λc b=>g.scalar c (bO b)⟩;rw[cD]at b
 grind
def vY.drop{g off:Nat}{d:List T}(i:vY hp μ g off d)(c:Nat)(q:c<=d.length):vY hp μ g (off+c) (d.drop c):=by
 have⟨j,n,fz,k,p,l⟩:=i.row;refine⟨⟨j,n,fz,k,by grind,λm f b=>?_⟩,λf b=>i.scalar f (bP b)⟩;rw[bU]at b;have:=l (c+m) f b;rwa[<-da]at this
def vY.run_loadCells{d off:Nat}{b:List T}(n:vY w.heap μ d off b):∃i:List aq,(loadCells ⟨d,off,none⟩ b.length).run P w= .ok i.toArray w/\iW w.heap μ b i:=by
 have⟨c,t,fz,k,p,l⟩:=n.row;refine⟨(c.toList.drop off).take b.length,?_,?_⟩
 ·have hl:((c.toList.drop off).take b.length).length=b.length:=by grind
  have:=Go.run_loadCells_list (P:=P) w ⟨d,off,none⟩ ((c.toList.drop off).take b.length) (λs j f=>by
   rw[mp];rw[cD]at f;split at f
   ·rw[bU]at f;simp only[World.cell?,k]
    grind
   grind)
  rwa[hl]at this
 ·refine⟨by grind,λg j m=>?_⟩;have q:g<b.length:=by
   grind
  have:=l g j m;have r:off+g<c.size:=B;simp_all
def Bn{s:af}{c:Ty}{l off:Nat}{f:List T}{k:T}(m:xS P s c)(j:vY w.heap μ l off f)(b:lK c f=some k):
 ∃d,(loadVar s ⟨l,off,none⟩).run P w= .ok d w/\iu w.heap μ k d:=by
 unfold lK at b;cases i:c.isAgg with
 |true=>
  rw[i]at b;have b:(J (takeN c.size f) λj=>some (T.eZ j))=some k:=b;obtain⟨y,g,n⟩:=eg.1 b;rw[pR]at g;split at g
  ·rename_i x;simp at g n;subst g;subst n;have r:=j.take c.size;obtain⟨t,q,v⟩:=vY.run_loadCells (P:=P) r;have u:(f.take c.size).length=c.size:=by grind
   rw[u]at q;refine⟨.agg t.toArray,?_,iu.AB B r.scalar⟩;simp[loadVar,m.wA,i,m.run_sizeOf,q]
  grind
 |false=>
  rw[i]at b;have b:oo f 0=some k:=b;rw[mg]at b;obtain⟨d,p,hr⟩:=j.cell b;refine⟨d,?_,hr⟩;have p:w.cell? ⟨l,off,none⟩=some d:=B;simp[loadVar,m.wA,i,p]
def St.rowAt(L:St cx base hp μ h){j m c:Nat}{b:Loc}{d:T}(A:μ j=some b)(f:h.elem j m c=some d):vY hp μ b.jO (c*b.sz) d.cells/\d.cells.length=b.sz:=by
 have⟨u,E,K⟩:=L.box j b A;unfold H.elem at f;rw[E]at f;obtain⟨R,v,S,O,r,g⟩:=u;have f:iS (Nat.beq v m) (@Bool.rec (λ_=>aa T) (oo g c) none r)=some d:=f;have⟨_,f⟩:=fj.1 f;cases r with
 |true=>grind
 |false=>
  have f:g[c]? =some d:=by rw[<-mg];exact f
  have i:=K.plain rfl;have⟨t,M,x,y,z⟩:=i.row;have q:d∈g:=aC f;have p:=i.size d q;have I:c<g.length:=by
   grind
  have Q:=jh i.size;refine⟨⟨⟨t,M,(0,0),x,?_,λs l k=>?_⟩,λl k=>i.scalar l ?_⟩,p⟩
  ·rw[p,y];have:c+1<=b.cap:=by have:=i.room;grind
   calc c*b.sz+b.sz=(c+1)*b.sz:=by rw[cm]
    _<=b.cap*b.sz:=aY _ this
  ·have J:s<d.cells.length:=by
    grind
   have F:(iq g)[c*b.sz+s]? =some l:=by
    have n:=r6 i.size c;have:g.drop c=d::g.drop (c+1):=by
     rw[aJ I]
     grind
    rw[this,nN]at n;rw[<-bU,n,cK J];exact k
   have⟨N,D,hr⟩:=z.get F;rw[cD]at D;simp_all
  ·exact List.mem_flatMap.2 ⟨d,q,k⟩
def St.Xv(s:St cx base hp μ h){d f g:Nat}{c:Loc}{i:T}(n:μ d=some c)(b:h.elem d f g=some i):f=c.ep:=by
 have⟨j,p,q⟩:=s.box d c n;unfold H.elem at b;rw[p]at b;obtain⟨u,l,v,t,r,k⟩:=j;have b:iS (Nat.beq l f) (@Bool.rec (λ_=>aa T) (oo k g) none r)=some i:=b;have⟨m,_⟩:=fj.1 b;have:=aH m;have:=q.ep
 grind
def FS{q:af}{r:Ty}{i f:T}{j:aq}(n:xS P q r)(p:St cx base w.heap μ h)(l:iu w.heap μ i j)(b:h.load r i=some f):
 ∃g c,j= .pointer (some g)/\(loadVar q g).run P w= .ok c w/\iu w.heap μ f c:=by
 unfold H.load at b;cases i<;>simp at b
 ·rename_i K O V E;replace b:=eg.1 b;obtain⟨W,m,b⟩:=b;replace b:=eg.1 b;obtain⟨N,d,b⟩:=b;obtain⟨J,g,y,k,_,Q⟩:=l.sx;have R:=p.Xv k m;obtain⟨F,S⟩:=p.rowAt k m;rw[nO]at d;split at d
  ·rename_i x;simp at d;subst d;obtain⟨c,t,u⟩:=Bn n (F.drop E x) b
   grind
  grind
 ·rename_i M;obtain⟨L,off,s,I,fz,y,U,v,z,A,hr⟩:=l.nM;obtain⟨c,t,u⟩:=Bn n ⟨⟨s,I,fz,v,z,hr⟩,(λf D=>(A f D).1)⟩ b
  grind
theorem Lw(j7:jT P cx){f:af}{i:ai}(c:St cx base w.heap μ h)(q:lO w.heap μ D e a.tmps)(l:o.op= .load f i){g:T}{d:H}
 (b:Lx f i cx D e h=some (.val g d)):j4 cx base w μ h.size ((execOp a.eval o).run P w) g d:=by
 replace b:=eg.1 b;obtain⟨u,n,b⟩:=b;replace b:=eg.1 b;obtain⟨t,hp,b⟩:=b;obtain⟨p,rfl⟩:=iI.1 b;have⟨r,s,m,j,k⟩:=FS (j7.ty _ _ n) c (iZ c q hp) p;exact j4.pure c (by simp[execOp,l,Instr.loadAt,m,Instr.sureAddr,j]) k
def As(j7:jT P cx){l:af}{f:Nat}{g:Nat×af}(b:Ca cx l f=some g):∃d c,P.underlying l=some (.struct d)/\d[f]? =some c/\c.offset=g.1/\c.type=g.2/\
 ∃k,P.info? c.type=some k/\k.size≠0:=by
 replace b:=eg.1 b;obtain⟨s,q,b⟩:=b;have⟨t,m,j⟩:=mt (j7.ty _ _ q);cases r:s.u<;>rw[r]at b j<;>simp at b;obtain⟨d,rfl,p,n⟩:=uB j;subst p;rw[aR]at b;cases i:d.toList[f]? with
 |none=>rw[i]at b;grind
 |some c=>
  rw[i]at b;simp at b;refine⟨d,c,m,by grind,by rw[<-b],by rw[<-b],n c (aC i)⟩
theorem C7(j7:jT P cx){x:af}{q:ai}{s:Nat}(n:St cx base w.heap μ h)(r:lO w.heap μ D e a.tmps)(W:o.op= .fieldAddr x q s){c:T}{t:H}
 (b:rY x q s cx D e h=some (.val c t)):j4 cx base w μ h.size ((execOp a.eval o).run P w) c t:=by
 replace b:=eg.1 b;obtain⟨m,S,b⟩:=b;replace b:=eg.1 b;obtain⟨p,hp,b⟩:=b;obtain⟨ap,av,I,J,K,aA,i,L,M⟩:=As j7 S;have u:=iZ n r hp;have v:∀d:Addr,a.eval q= .pointer (some d)->(execOp a.eval o).run P w= .ok (.value (.pointer (some (d.add m.1)))) w:=by
  intro d f;simp[execOp,W,Instr.fieldAt,run_underlying I,J,f,Instr.sureAddr,fieldPlace,sizeOf,typeInfo,L,M,K]
 cases p<;>simp at b
 ·rename_i A F ab j;obtain⟨rfl,rfl⟩:=b;obtain⟨y,d,f,O,R,N⟩:=u.sx;refine j4.pure n (v d f) (.fc A F ab (j+m.1) y _ O R λQ=>?_);rw[N Q,mp,da]
 ·rename_i al;replace b:=eg.1 b;obtain⟨an,g,b⟩:=b;simp at b;obtain⟨rfl,rfl⟩:=b;obtain⟨E,off,z,ae,fz,f,V,U,aN,Z,hr⟩:=u.nM;rw[nO]at g;split at g
  ·rename_i aE;simp at g;subst g;refine j4.pure n (v _ f) ?_;rw[mp];refine .ks _ E (off+m.1) z ae fz V U (by grind) (λc l=>Z c (bP l)) λk c l=>?_;rw[bU]at l;have:=hr _ c l;rwa[<-da]at this
  grind
def Dw{r:af}{c:Ty}{f:List T}{g:ah aq}{off:Nat}{k:T}(l:xS P r c)(p:iW hp μ f (g.toList.drop off))(s:∀m∈f,m.scalar=true)(b:lK c f=some k):
 ∃d,(part r g off).run P w= .ok d w/\iu hp μ k d:=by
 unfold lK at b;cases j:c.isAgg with
 |true=>
  rw[j]at b;have b:(J (takeN c.size f) λu=>some (T.eZ u))=some k:=b;obtain⟨x,i,n⟩:=eg.1 b;rw[pR]at i;split at i
  ·rename_i v;simp at i n;subst i;subst n;refine⟨.agg (g.extract off (off+c.size)),by simp[part,l.wA,j,l.run_sizeOf],iu.AB ?_ λm t=>s m (bO t)⟩;have:=p.take c.size;rw[Array.toList_extract]
   grind
  grind
 |false=>
  rw[j]at b;have b:oo f 0=some k:=b;rw[mg]at b;obtain⟨d,q,hr⟩:=p.get b;refine⟨d,?_,hr⟩;have q:g[off]? =some d:=by grind
  simp[part,l.wA,j,q]
theorem Jj(j7:jT P cx){j:af}{d:ai}{f:Nat}(i:St cx base w.heap μ h)(J:lO w.heap μ D e a.tmps)(x:o.op= .field j d f){k:T}{g:H}
 (b:C9 j d f cx D e h=some (.val k g)):j4 cx base w μ h.size ((execOp a.eval o).run P w) k g:=by
 replace b:=eg.1 b;obtain⟨l,v,b⟩:=b;replace b:=eg.1 b;obtain⟨Q,A,b⟩:=b;replace b:=eg.1 b;obtain⟨I,hp,b⟩:=b;have⟨N,O,m,n,p,q,_⟩:=As j7 v;have s:=iZ i J hp;cases I<;>simp at b;replace b:=eg.1 b;obtain⟨L,c,b⟩:=b;obtain⟨E,rfl⟩:=iI.1 b;have⟨M,y,r,z⟩:=s.sH;rw[nO]at c;split at c
 ·simp at c;subst c;have⟨K,t,u⟩:=Dw (P:=P) (w:=w) (j7.ty _ _ A) (r.drop l.1) (λd F=>z d (bP F)) E;refine j4.pure i ?_ u;simp[execOp,x,Instr.field,run_underlying m,n,y,asAgg,p,q,t]
 grind
def pQ{c:T}{g:Nat}(d:sL c=some g):∃f,c= .int f (.ofNat g):=by
 unfold sL at d;cases c<;>simp at d;rename_i f b;cases b with
 |ofNat b=>simp_all
 |negSucc b=>grind
theorem Jh(j7:jT P cx){F:af}{p J:ai}(m:St cx base w.heap μ h)(E:lO w.heap μ D e a.tmps)(x:o.op= .index F p J){I:T}{t:H}
 (b:C5 F p J cx D e h=some (.val I t)):j4 cx base w μ h.size ((execOp a.eval o).run P w) I t:=by
 replace b:=eg.1 b;obtain⟨av,al,b⟩:=b;replace b:=eg.1 b;obtain⟨A,hp,b⟩:=b;replace b:=eg.1 b;obtain⟨q,Z,b⟩:=b;replace b:=eg.1 b;obtain⟨f,U,b⟩:=b;obtain⟨k,V⟩:=pQ U;obtain⟨d,v,s⟩:=mt (j7.ty _ _ al);have l:=iZ m E hp;have z:=(V▸iZ m E Z).kR;cases an:av.u<;>rw[an]at b s<;>simp at b
 ·
  have:=vi s;subst this;cases A<;>simp at b;rename_i g;replace b:=eg.1 b;obtain⟨c,a6,b⟩:=b;obtain⟨j,rfl⟩:=iI.1 b;simp at j;subst j;obtain⟨r,K⟩:=l.nq;refine j4.pure (c:= .int .u8 (c:Int)) m ?_ (.int _ _);have a7:f<g.length:=by
   grind
  have R:g[f]=c:=by grind
  have Q:c<256:=K c (by rw[<-R];simp);have S:(bytesOf g)[f]? =some (UInt8.ofNat c):=by
   have ab:f<(bytesOf g).size:=by rw[kQ];omega
   rw[getElem?_pos (bytesOf g) f ab];congr 1;show(bytesOf g).data[f]=_
   grind [bytesOf]
  simp[execOp,x,Instr.index,z,asIntOf,run_underlying v,r,S,kw Q]
 ·rename_i n aX;have:=us s;subst this;cases A<;>simp at b;rename_i aA;replace b:=eg.1 b;obtain⟨ap,y,b⟩:=b;replace b:=fj.1 b;obtain⟨M,b⟩:=b;replace b:=eg.1 b;obtain⟨aE,i,b⟩:=b;obtain⟨j,rfl⟩:=iI.1 b;obtain⟨aN,r,L,ae⟩:=l.sH;rw[nO]at i;split at i
  ·simp at i;subst i;obtain⟨c,N,O⟩:=Dw (P:=P) (w:=w) (j7.ty _ _ y) (L.drop (f*ap.size)) (λp l=>ae p (bP l)) j;refine j4.pure m ?_ O;rw[aK]at M;have W:¬n<=f:=B;simp[execOp,x,Instr.index,z,asIntOf,run_underlying v,r,W,(j7.ty _ _ y).run_sizeOf,N]
  grind
end
end
section
section
variable {P:aj}{cx:Ctx}{base:Nat}{w:World}{μ:Mu}{h:H}{D:Nat}{e:Env}{a:Act}{o:Oper}{hp:ah Obj}
def St.OB(k:St cx base hp μ h){c:Nat}{b:Loc}{d:jK}(j:μ c=some b)(f:h.get c=some d):d.sz=b.sz/\d.ep=b.ep:=by
 have⟨l,i,g⟩:=k.box c b j;rw[i]at f;simp at f;subst f;exact⟨g.sz,g.ep⟩
def flat_get{d:Nat}{es:List T}(g:∀v∈es,v.cells.length=d){i k:Nat}{v z:T}(j:es[i]? =some v)(m:v.cells[k]? =some z):(iq es)[i*d+k]? =some z:=by
 have c:i<es.length:=by
  grind
 have f:k<v.cells.length:=by
  grind
 have b:=r6 g i;have l:es[i]=v:=by rw[aB c]at j;grind
 rw[aJ c,l,nN]at b;rw[<-bU,b,cK f];exact m
def Qj{f:T}{d:List T}{j off c g:Nat}{i:ah aq}{r:af}{fz:Nat×Nat}{b:T}(y:¬pG μ j)(u:hp[j]? =some (.cells i r fz))
 (k:∀b∈f::d,b.cells.length=c) (z:off+(iq (f::d)).length<=i.size) (s:∀b∈iq (f::d),yh b)
 (hr:∀(m:Nat) b,(iq (f::d))[m]? =some b->iu hp μ b (i.getD (off+m) Go.undef)) (q:(f::d)[g]? =some b):
 iu hp μ (.ks b.cells) (.pointer (some ⟨j,off+g*c,none⟩)):=by
 have p:=aC q;have v:g<(f::d).length:=by
  grind
 have t:=jh k;have x:=k b p;refine .ks b.cells j (off+g*c) i r fz y u ?_ (λn l=>s n (List.mem_flatMap.2 ⟨b,p,l⟩)) λm n l=>?_
 ·rw[x];have:g*c+c<=(iq (f::d)).length:=by
   rw[t]
   calc g*c+c=(g+1)*c:=by rw[cm]
    _<=(f::d).length*c:=aY _ v
  omega
 ·have:=hr _ n (flat_get k q l);rwa[<-da]at this
theorem C4(j7:jT P cx){t:af}{x y:ai}(i:St cx base w.heap μ h)(r:lO w.heap μ D e a.tmps)(aE:o.op= .indexAddr t x y){s:T}{M:H}
 (b:rV t x y cx D e h=some (.val s M)):j4 cx base w μ h.size ((execOp a.eval o).run P w) s M:=by
 replace b:=eg.1 b;obtain⟨cX,cp,b⟩:=b;replace b:=eg.1 b;obtain⟨p,hp,b⟩:=b;replace b:=eg.1 b;obtain⟨q,aN,b⟩:=b;replace b:=eg.1 b;obtain⟨f,b8,b⟩:=b;obtain⟨k,b9⟩:=pQ b8;obtain⟨d,al,a7⟩:=mt (j7.ty _ _ cp);have U:=iZ i r hp;have a8:=(b9▸iZ i r aN).kR;cases cF:cX.u<;>rw[cF]at b a7<;>simp at b
 ·rename_i bS;have:=nz a7;subst this;replace b:=eg.1 b;obtain⟨m,a6,b⟩:=b;have R:=(j7.ty _ _ a6).run_sizeOf w;unfold mo at b;cases p<;>simp at b
  ·rename_i I bT;replace b:=eg.1 b;obtain⟨z,bB,b⟩:=b;replace b:=fj.1 b;obtain⟨hl,b⟩:=b;simp at b;obtain⟨rfl,rfl⟩:=b;have hl:=aH hl;cases I with
   |nil=>grind
   |cons ds I=>
    obtain⟨bi,off,c6,cL,bg,bC,fz,L,aA,ap,di,de,bA,bu,b6,hr⟩:=U.wP;have cd:cL=m.size:=by rw[<-bA z (aC bB)];exact hl
    have dm:f<I.length+1:=by
     grind
    have dn:¬((I.length:Int)+1<=(f:Int)):=B;refine j4.pure i ?_ (Qj aA ap bA bu b6 hr bB);rw[<-mp,cd];have K:¬I.length+1<=f:=B;simp[execOp,aE,Instr.indexAt,a8,asIntOf,run_underlying al,L,R,K]
  ·rename_i A E W l bT;replace b:=fj.1 b;obtain⟨hl,b⟩:=b;replace b:=eg.1 b;obtain⟨bn,ae,b⟩:=b;replace b:=fj.1 b;obtain⟨ab,b⟩:=b;replace b:=fj.1 b;obtain⟨bp,b⟩:=b;simp at b;obtain⟨rfl,rfl⟩:=b;rw[aK]at hl;have ab:=aH ab;have bp:=aH bp;obtain⟨g,v,bN,L,F,O,dd,b7⟩:=U.vP;obtain⟨Z,bW⟩:=i.OB F ae;obtain⟨c1,c4,bH⟩:=b7 B;have ca:bN≠0:=B;rw[bH ca]at L;refine j4.pure (c:= .pointer (some ⟨g.jO,(W+f)*g.sz,none⟩)) i ?_ (.fc A E (W+f) 0 g _ F O λ_=>by simp);have K:¬l<=f:=B;have bX:(⟨g.jO,W*g.sz,none⟩:Addr).add (f*m.size)=⟨g.jO,(W+f)*g.sz,none⟩:=by
    rw[mp,<-ab,Z,cy]
   simp[execOp,aE,Instr.indexAt,a8,asIntOf,run_underlying al,L,R,K,bX]
 ·rename_i n bS;have:=us a7;subst this;replace b:=eg.1 b;obtain⟨m,a6,b⟩:=b;have R:=(j7.ty _ _ a6).run_sizeOf w;unfold qR at b;replace b:=fj.1 b;obtain⟨hl,b⟩:=b;rw[aK]at hl;have K:¬n<=f:=B;have aX:∀v:Addr,a.eval x= .pointer (some v)->(execOp a.eval o).run P w= .ok (.value (.pointer (some (v.add (f*m.size))))) w:=by
   intro v aN;simp[execOp,aE,Instr.indexAt,a8,asIntOf,run_underlying al,aN,Instr.sureAddr,R,K]
  cases p<;>simp at b
  ·rename_i A E V j;replace b:=eg.1 b;obtain⟨bn,ae,b⟩:=b;obtain⟨g,v,Q,F,O,bs⟩:=U.sx;obtain⟨Z,bW⟩:=i.OB F ae;cases J:Nat.beq bn.sz m.size with
   |false=>
    rw[J]at b;have b:some (nh.val (T.fc A E V (j+f*m.size)) h)=some (.val s M):=b;simp only[aw,nh.val.injEq]at b;obtain⟨rfl,rfl⟩:=b;refine j4.pure i (aX v Q) (.fc A E V (j+f*m.size) g _ F O λan=>?_);rw[bs an,mp,da]
   |true=>
    rw[J]at b;have b:iS (Nat.beq j 0) (some (nh.val (T.fc A E (V+f) 0) h))=some (.val s M):=b;replace b:=fj.1 b;obtain⟨av,b⟩:=b;have av:=aH av;subst av;simp only[aw]at b;obtain⟨rfl,rfl⟩:=b;have J:=aH J;refine j4.pure i (aX v Q) (.fc A E (V+f) 0 g _ F O λan=>?_);rw[bs an,mp,<-J,Z,cy];simp
  ·rename_i c7;replace b:=eg.1 b;obtain⟨c9,N,b⟩:=b;simp at b;obtain⟨rfl,rfl⟩:=b;obtain⟨bi,off,bg,bC,fz,Q,aA,ap,bu,cb,hr⟩:=U.nM;rw[nO]at N;split at N
   ·rename_i dk;simp at N;subst N;refine j4.pure i (aX _ Q) ?_;rw[mp];refine .ks _ bi (off+f*m.size) bg bC fz aA ap (by grind) (λs S=>cb s (bP S)) λk s S=>?_;rw[bU]at S;have:=hr _ s S;rwa[<-da]at this
   grind
end
end
section
section
variable {P:aj}{cx:Ctx}{base:Nat}{w:World}{μ:Mu}{h:H}{D:Nat}{e:Env}{a:Act}{o:Oper}{hp:ah Obj}
theorem DO(j7:jT P cx){q j:af}{s:ai}(g:St cx base w.heap μ h)(A:lO w.heap μ D e a.tmps)(n:o.op= .convert q j s){r:T}{k:H}{c:T}
 (d:∃i,cx.ty q=some i) (hp:iG cx D e s=some c) (b:conv cx j c=some r) (x:k=h):j4 cx base w μ h.size ((execOp a.eval o).run P w) r k:=by
 subst x;obtain⟨I,d⟩:=d;have⟨F,m,_⟩:=mt (j7.ty _ _ d);replace b:=eg.1 b;obtain⟨i,y,b⟩:=b;have⟨E,l,f⟩:=mt (j7.ty _ _ y);have p:=iZ g A hp;cases z:i.u<;>rw[z]at b f<;>simp at b
 ·have:=y9 f;subst this;cases c<;>simp at b;subst b;exact j4.pure g (by simp[execOp,n,convert,run_underlying m,run_underlying l,p.kR,Conv.intToInt]) (.int _ _)
 ·have:=vi f;subst this;cases c<;>simp at b;subst b;have⟨v,t⟩:=p.nq;exact j4.pure g (by simp[execOp,n,convert,run_underlying m,run_underlying l,v]) (.str _ t)
def xq{g:aa ai}{c:aa Nat}(p:St cx base w.heap μ h)(n:lO w.heap μ D e a.tmps)(b:kN cx D e g=some c):
 (g=none/\c=none)\/∃d i f,g=some d/\c=some f/\a.eval d= .int i (f:Nat):=by
 cases g with
 |none=>left;simp[kN]at b;grind
 |some d=>
  right;have b:(J (iG cx D e d) λj=>J (sL j) λc=>some (some c))=some c:=b;replace b:=eg.1 b;obtain⟨j,m,b⟩:=b;replace b:=eg.1 b;obtain⟨f,l,b⟩:=b;simp at b;subst b;have⟨i,k⟩:=pQ l;exact⟨d,i,f,rfl,rfl,(k▸iZ p n m).kR⟩
def run_sliceBound{d:aq}{j:ao}{b:Nat}(i:d= .int j (b:Nat)){c:Nat}(k:b<=c)(f:BoundsCode):(Instr.sliceBound d c f).run P w= .ok b w:=by
 subst i;have g:0<=((b:Nat):Int)/\((b:Nat):Int)<=(c:Int):=⟨B,B⟩;simp only[Instr.sliceBound,asIntOf,Sem.run_bind,Sem.run_pure,Result.andThen_ok,g,and_self,bw];simp
def tL{isS:Bool}{len cap:Nat}{q p r:aa ai}{l d m:aa Nat}
 (n:(q=none/\l=none)\/∃c i b,q=some c/\l=some b/\a.eval c= .int i (b:Nat)) (t:(p=none/\d=none)\/∃c i b,p=some c/\d=some b/\a.eval c= .int i (b:Nat))
 (D:(r=none/\m=none)\/∃c i b,r=some c/\m=some b/\a.eval c= .int i (b:Nat)) (E:∀b,m=some b->b<=cap/\d=some b) (hl:iT l 0<=iT d len) (u:iT d len<=len) (K:len<=cap):
 (Instr.sliceBounds isS len cap (q.map a.eval) (p.map a.eval) (r.map a.eval)).run P w= .ok (iT l 0,iT d len,iT m cap) w:=by
 rcases D with⟨rfl,rfl⟩|⟨M,L,I,rfl,rfl,s⟩
 ·rcases t with⟨rfl,rfl⟩|⟨J,F,k,rfl,rfl,g⟩
  ·rcases n with⟨rfl,rfl⟩|⟨A,z,j,rfl,rfl,f⟩
   ·rfl
   ·have hl:j<=len:=hl;simp[Instr.sliceBounds,iT,run_sliceBound f hl]
  ·have u:k<=len:=u;have v:k<=cap:=B;rcases n with⟨rfl,rfl⟩|⟨A,z,j,rfl,rfl,f⟩
   ·simp[Instr.sliceBounds,iT,run_sliceBound g v]
   ·have hl:j<=k:=hl;simp[Instr.sliceBounds,iT,run_sliceBound g v,run_sliceBound f hl]
 ·have⟨x,y⟩:=E I rfl;rcases t with⟨rfl,rfl⟩|⟨J,F,k,rfl,rfl,g⟩
  ·grind
  ·simp at y;subst y;rcases n with⟨rfl,rfl⟩|⟨A,z,j,rfl,rfl,f⟩
   ·simp[Instr.sliceBounds,iT,run_sliceBound g (ax _),run_sliceBound s x]
   ·have hl:j<=k:=hl;simp[Instr.sliceBounds,iT,run_sliceBound g (ax _),run_sliceBound s x,run_sliceBound f hl]
def HR(b:Nat):iT none b=b:=rfl
def Ch{j:Type}{d g:List j}{c b:Nat}(l:c<=b)(f:NY d c b=some g):b<=d.length/\g=(d.drop c).take (b-c):=by
 unfold NY at f;have⟨m,i,k⟩:=eg.1 f;rw[nO]at i
 grind [pR]
def Gj{c:Nat}{b:List T}(f:∀d∈b,d.cells.length=c)(g i:Nat):iq ((b.drop g).take i)=((iq b).drop (g*c)).take (i*c):=by
 rw[r6 f,uy (λd j=>f d (bP j))]
def Kj{g:T}{f:List T}{m off i:Nat}{l:ah aq}{t:af}{fz:Nat×Nat}{b d:Nat}{p:T}{k:List T}{full:Bool}{cap:Nat}(A:¬pG μ m)(x:hp[m]? =some (.cells l t fz))
 (r:∀c∈g::f,c.cells.length=i) (J:off+(iq (g::f)).length<=l.size) (D:∀c∈iq (g::f),yh c)
 (hr:∀(n:Nat) c,(iq (g::f))[n]? =some c->iu hp μ c (l.getD (off+n) Go.undef)) (I:b<=d) (F:d<=(g::f).length) (s:p::k=((g::f).drop b).take (d-b))
 (E:d-b<=cap) (u:full=true->cap=d-b):iu hp μ (.V (p::k) full) (.slice (some ⟨m,off+b*i,none⟩) (d-b) cap):=by
 have y:k.length+1=d-b:=by
  have:=bL List.length s
  grind
 have v:=jh r;have q:=Gj r b (d-b);rw[<-s]at q;have z:∀c∈p::k,c∈g::f:=λc j=>bP (bO (s▸j));rw[<-y];refine .V p k full m (off+b*i) cap i l t fz A x B (λn=>by rw[u n];omega) (λc j=>r c (z c j)) ?_ ?_ ?_
 ·rw[q];simp only[List.length_take,List.length_drop];have:b*i+(d-b)*i<=(iq (g::f)).length:=by
   rw[v,<-cy];simp_all[aY]
  omega
 ·intro c j;rw[q]at j
  grind
 grind
def Ef(d:List Nat)(b c:Nat):(bytesOf d).extract b c=bytesOf ((d.drop b).take (c-b)):=by
 apply ByteArray.ext;have:((bytesOf d).extract b c).data.toList=((bytesOf d).data.toList.drop b).take (c-b):=Lib.extract_data _ _ _;apply cM;rw[this];simp[bytesOf,List.map_take,List.map_drop]
def Ko(j7:jT P cx){t:af}{x:ai}{R J S:aa ai}(U:St cx base w.heap μ h)(bs:o.op= .slice t x R J S){d:Nat}{y:af}(bg:P.underlying t=some (.array d y)){u:T}
 (bC:iu w.heap μ u (a.eval x)) {g f l:aa Nat}
 (bS:(R=none/\g=none)\/∃m q c,R=some m/\g=some c/\a.eval m= .int q (c:Nat)) (bT:(J=none/\f=none)\/∃m q c,J=some m/\f=some c/\a.eval m= .int q (c:Nat))
 (bW:(S=none/\l=none)\/∃m q c,S=some m/\l=some c/\a.eval m= .int q (c:Nat)) (cb:BS f l=true) (k:jW cx h (.array d y) u=true) {v:T}
 (b:rG (asSlice (.array d y) u) g f l=some v):j4 cx base w μ h.size ((execOp a.eval o).run P w) v h:=by
 unfold jW at k;simp only at k;cases L:cx.ty y with
 |none=>rw[L]at k;grind
 |some av=>
  rw[L]at k;have bB:=(j7.ty _ _ L).run_sizeOf w;have hp:∃n r an j,u= .fc n r an j:=by cases u<;>first|exact⟨_,_,_,_,rfl⟩|(simp at k)
  obtain⟨n,r,an,j,rfl⟩:=hp;simp only at k;cases I:h.get n with
  |none=>rw[I]at k;grind
  |some V=>
   rw[I]at k;obtain⟨bX,aN,cp,b9,cd,aE⟩:=V;simp only[az,cq]at k;obtain⟨⟨⟨⟨⟨⟨M,ap⟩,N⟩,O⟩,bH⟩,bN⟩,Q⟩:=k;have M:=aH M;have ap:=aH ap;have N:=aH N;have O:=aH O;have Q:=aH Q;rw[kE]at Q;subst N O bH bN;have⟨i,b6,bA,s,ab,a7⟩:=bC.sx;have⟨V,F,E⟩:=U.box n i s;rw[I]at F;simp only[aw]at F;subst F;have b7:aN=i.ep:=E.ep;have aA:bX=i.sz:=E.sz;have b8:i.cap=aE.length:=(E.plain rfl).wq rfl;have W:=a7 B;simp at W;subst W;have b:yp n r 0 d false (iT g 0) (iT f d) l=some v:=b;unfold yp at b;replace b:=fj.1 b;obtain⟨K,b⟩:=b;replace b:=fj.1 b;obtain⟨z,b⟩:=b;have K:=bh K;have z:=bh z;simp only[jt,fw,Nat.add_eq,cU,Nat.sub_eq]at b;have al:(∀c,l=some c->c=iT f d)->
    (execOp a.eval o).run P w= .ok (.value (.slice (some (if iT l d=iT g 0 then⟨i.jO,0,none⟩else(⟨i.jO,0,none⟩:Addr).add (iT g 0*av.size))) (iT f d-iT g 0) (iT l d-iT g 0))) w:=by
    intro a6;have s:=tL (P:=P) (w:=w) (isS:=false) (len:=d) (cap:=d) bS bT bW (by
     intro c bn;have p:=a6 c bn;cases f with
     |none=>simp_all[BS]
     |some q=>
      have p:c=q:=p;subst p;have ca:c<=d:=z
      grind) K z (ax _)
    simp[execOp,bs,Instr.sliceAt,run_underlying bg,bA,Instr.sureAddr,s,bB]
   have a8:∀D:Nat,(⟨i.jO,0,none⟩:Addr).add (D*av.size)=⟨i.jO,D*i.sz,none⟩:=by
    intro D;rw[mp,<-M,aA];simp
   cases ae:l with
   |none=>
    subst ae;have A:=al G;have b:some (T.arr n r (iT g 0) (iT f d-iT g 0) false)=some v:=b;simp only[aw]at b;subst b;refine j4.pure U A (.arr _ _ _ _ _ i _ _ s ab ?_ λbi=>⟨G,λ_=>?_,λbp=>?_⟩)
    ·grind [iT]
    ·grind [iT]
    grind
   |some c=>
    subst ae;have b:iS (Nat.beq c (iT f d)) (some (T.arr n r (iT g 0) (iT f d-iT g 0) true))=some v:=b;replace b:=fj.1 b;obtain⟨p,b⟩:=b;have p:=aH p;simp only[aw]at b;subst b;have A:=al (by grind);have bu:iT (some c) d=iT f d:=p;rw[bu]at A;refine j4.pure U A (.arr _ _ _ _ _ i _ _ s ab (ax _) λbi=>⟨λ_=>rfl,G,λbp=>?_⟩);have aX:¬iT f d=iT g 0:=B;rw[Z aX,a8]
theorem Je(j7:jT P cx){t:af}{x:ai}{dn c9 cd:aa ai}(v:St cx base w.heap μ h)(r:lO w.heap μ D e a.tmps)(bX:o.op= .slice t x dn c9 cd){s:T}{bH:H}
 (j:F6 t x dn c9 cd cx D e h=some (.val s bH)):j4 cx base w μ h.size ((execOp a.eval o).run P w) s bH:=by
 replace j:=eg.1 j;obtain⟨ds,eC,j⟩:=j;replace j:=eg.1 j;obtain⟨p,hp,j⟩:=j;replace j:=fj.1 j;obtain⟨m,j⟩:=j;replace j:=eg.1 j;obtain⟨g,eh,j⟩:=j;replace j:=eg.1 j;obtain⟨i,ef,j⟩:=j;replace j:=eg.1 j;obtain⟨N,et,j⟩:=j;replace j:=fj.1 j;obtain⟨dk,j⟩:=j;obtain⟨f,rfl⟩:=iI.1 j;have cp:=xq v r eh;have cF:=xq v r ef;have bC:=xq v r et;obtain⟨d,bS,bg⟩:=mt (j7.ty _ _ eC);have aA:=iZ v r hp;by_cases eb:∃n bi,ds.u= .array n bi
 ·obtain⟨n,bi,b9⟩:=eb;rw[b9]at m bg f;have:=us bg;subst this;exact Ko j7 v bX bS aA cp cF bC dk m f
 unfold jW at m;cases b9:ds.u<;>rw[b9]at m bg f<;>(try simp at m)
 ·
  have:=vi bg;subst this;replace f:rG p g i N=some s:=f;cases p<;>simp at m;rename_i an;obtain⟨O,dv⟩:=aA.nq;unfold rG at f;cases M:N with
  |some k=>rw[M]at f;simp at f
  |none=>
   subst M;have f:iS (Nat.ble (iT g 0) (iT i (mJ an))) (J (NY an (iT g 0) (iT i (mJ an))) λr=>some (T.str r))=some s:=f;rw[kE]at f;replace f:=fj.1 f;obtain⟨A,f⟩:=f;have A:=bh A;replace f:=eg.1 f;obtain⟨q,b7,f⟩:=f;obtain⟨bs,rfl⟩:=Ch A b7;simp at f;subst f;have er:cd=none:=by rcases bC with⟨S,_⟩|⟨_,_,_,_,S,_⟩;exact S;simp at S
   subst er;have L:=tL (P:=P) (w:=w) (isS:=false) (len:=an.length) (cap:=an.length) cp cF bC G A bs (ax _);simp only[Option.map_none]at L;refine j4.pure (c:= .string ((bytesOf an).extract (iT g 0) (iT i an.length))) v ?_ ?_
   ·simp[execOp,bX,Instr.sliceAt,Instr.slice,run_underlying bS,O,kQ,L]
   ·rw[Ef];exact .str _ λc av=>dv c (bP (bO av))
 ·rename_i bi;have:=nz bg;subst this;replace f:rG p g i N=some s:=f;cases b8:cx.ty bi with
  |none=>rw[b8]at m;simp at m
  |some aN=>
   rw[b8]at m;have eB:=(j7.ty _ _ b8).run_sizeOf w;have eu:∀k,N=some k->i.isSome=true:=by
    intro k bA;subst bA;cases i with
    |none=>simp[BS]at dk
    |some S=>rfl
   have ae:∀(I:aa Addr) (len cap:Nat),a.eval x= .slice I len cap->len<=cap->iT g 0<=iT i len->iT i len<=len->(∀k,N=some k->k=iT i len)->
    (execOp a.eval o).run P w= .ok (.value (.slice (if iT N cap=iT g 0 then I else I.map (·.add (iT g 0*aN.size))) (iT i len-iT g 0) (iT N cap-iT g 0))) w:=by
    intro I len cap R av ap ab a7;have L:=tL (P:=P) (w:=w) (isS:=true) (len:=len) (cap:=cap) cp cF bC (by
     intro k bA;have bB:=eu k bA;have E:=a7 k bA;cases i with
     |none=>simp at bB
     |some S=>
      have E:k=S:=E;subst E;have ab:k<=len:=ab;exact⟨B,rfl⟩) ap ab av
    simp[execOp,bX,Instr.sliceAt,Instr.slice,run_underlying bS,R,L,eB]
   unfold rG at f;cases p<;>simp at m
   ·rename_i l full;have f:rE l full (iT g 0) (iT i l.length) N=some s:=by rw[<-kE];exact f
    unfold rE at f;replace f:=fj.1 f;obtain⟨A,f⟩:=f;have A:=bh A;replace f:=eg.1 f;obtain⟨q,b7,f⟩:=f;obtain⟨bs,al⟩:=Ch A b7;cases l with
    |nil=>
     obtain⟨I,O⟩:=aA.wO;have eA:q=[]:=by rw[al];simp
     rw[eA]at f;have c7:iT i 0=0:=by simpa using bs
     have de:iT g 0=0:=by simp only[cV]at A;omega
     cases M:N with
     |none=>
      subst M;have f:some (T.V [] false)=some s:=f;simp at f;subst f;have:=ae I 0 0 O (ax _) B B G;refine j4.pure v this ?_;rw[de,c7,HR];exact .pP _ _
     |some k=>
      subst M;have f:iS (Nat.beq k (iT i 0)) (some (T.V [] false))=some s:=f;replace f:=fj.1 f;obtain⟨E,f⟩:=f;have E:=aH E;simp at f;subst f;have:=ae I 0 0 O (ax _) B B (by intro S a8;simp at a8;omega);refine j4.pure v this ?_;have eo:iT (some k) 0=0:=by show k=0;omega
      rw[de,c7,eo];exact .pP _ _
    |cons U l=>
     obtain⟨eF,off,cap,eD,eE,eH,fz,O,di,c6,dd,ed,ca,bB,av,hr⟩:=aA.wP;have dm:eD=aN.size:=by
      have m:Nat.beq (mJ U.cells) aN.size=true:=m;have:=aH m;rw[kE]at this;rw[<-this];exact(ca U G).symm
     have bu:iT i (l.length+1)<=l.length+1:=by simpa using bs
     have bp:iT g 0<=iT i (l.length+1):=by simpa using A
     cases M:N with
     |none=>
      subst M;have z:=ae _ _ _ O dd bp bu G;cases q with
      |nil=>
       have f:some T.iX=some s:=f;simp at f;subst f;have cb:iT i (l.length+1)-iT g 0=0:=by
        have:=bL List.length al;simp only[cV,List.length_take,List.length_drop,aQ]at this;omega
       rw[cb]at z;exact j4.pure v z (.iX _ _)
      |cons y cL=>
       have f:some (T.V (y::cL) (@Bool.rec (λ_=>Bool) false (Nat.beq (iT i (U::l).length) (mJ (U::l))) full))=some s:=f;have ey:iT g 0<iT i (l.length+1):=by
        have:=bL List.length al;simp only[aQ,List.length_take,List.length_drop]at this;omega
       have Q:¬cap=iT g 0:=B;simp only[HR,Q,br,dj,mp]at z;refine j4.pure v z ?_;simp only[aw]at f;rw[<-f,<-dm];have:=Kj (full:= @Bool.rec (λ_=>Bool) false (Nat.beq (iT i (U::l).length) (mJ (U::l))) full) (cap:=cap-iT g 0) di c6 ca bB av hr bp (by simpa using bu) al B (by
        intro L;cases full with
        |false=>simp at L
        |true=>
         have L:Nat.beq (iT i (U::l).length) (mJ (U::l))=true:=L;have:=aH L;rw[kE]at this;simp only[aQ]at this;rw[ed rfl,this])
       exact this
     |some k=>
      subst M;have f:iS (Nat.beq k (iT i (U::l).length)) (@List.rec T (λ_=>aa T) (some (T.V [] false)) (λ_ _ _=>some (T.V q true)) q)=some s:=f;replace f:=fj.1 f;obtain⟨E,f⟩:=f;have E:=aH E;simp only[aQ]at E;have z:=ae _ _ _ O dd bp bu (by intro S a8;simp at a8;omega);have b6:iT (some k) cap=iT i (l.length+1):=E;rw[b6]at z;cases q with
      |nil=>
       have f:some (T.V [] false)=some s:=f;simp at f;subst f;have cb:iT i (l.length+1)-iT g 0=0:=by
        have:=bL List.length al;simp only[cV,List.length_take,List.length_drop,aQ]at this;omega
       rw[cb]at z;exact j4.pure v z (.pP _ _)
      |cons y cL=>
       have f:some (T.V (y::cL) true)=some s:=f;have ey:iT g 0<iT i (l.length+1):=by
        have:=bL List.length al;simp only[aQ,List.length_take,List.length_drop]at this;omega
       have Q:¬iT i (l.length+1)=iT g 0:=B;simp only[Q,br,dj,mp]at z;refine j4.pure v z ?_;simp only[aw]at f;rw[<-f,<-dm];exact Kj di c6 ca bB av hr bp (by simpa using bu) al (ax _) (λ_=>rfl)
   ·
    obtain⟨I,cap,O⟩:=aA.C0;have f:iS (Nat.beq (iT g 0) 0) (iS (Nat.beq (iT i 0) 0) (@Option.rec Nat (λ_=>aa T) (some T.iX) (λk=>iS (Nat.beq k 0) (some (T.V [] false))) N))=some s:=f;replace f:=fj.1 f;obtain⟨ap,f⟩:=f;replace f:=fj.1 f;obtain⟨ab,f⟩:=f;have ap:=aH ap;have ab:=aH ab;cases M:N with
    |none=>
     subst M;have f:some T.iX=some s:=f;simp at f;subst f;have:=ae I 0 cap O (ay _) B B G;rw[ap,ab]at this;exact j4.pure v this (.iX _ _)
    |some k=>
     subst M;have f:iS (Nat.beq k 0) (some (T.V [] false))=some s:=f;replace f:=fj.1 f;obtain⟨a7,f⟩:=f;have a7:=aH a7;simp at f;subst f;subst a7;have:=ae I 0 cap O (ay _) B B (by intro S a8;simp at a8;omega);rw[ap,ab]at this;exact j4.pure v this (.pP _ _)
   ·rename_i b aX aE F full;obtain⟨W,I,K,O,L,bT,c1,bN⟩:=aA.vP;have f:yp b aX aE F full (iT g 0) (iT i F) N=some s:=f;unfold yp at f;replace f:=fj.1 f;obtain⟨A,f⟩:=f;replace f:=fj.1 f;obtain⟨bn,f⟩:=f;have A:=bh A;have bn:=bh bn;simp only[jt,fw]at f;have ec:W.sz=aN.size:=by
     cases bW:bH.get b with
     |none=>rw[bW]at m;simp at m
     |some ea=>
      rw[bW]at m;have m:Nat.beq ea.sz aN.size=true:=m;rw[<-aH m];exact(v.OB L bW).1.symm
    have cX:∀c:Nat,K≠0->aX=W.ep->I.map (·.add (c*aN.size))=some ⟨W.jO,(aE+c)*W.sz,none⟩:=by
     intro c Q R;rw[(bN R).2.2 Q,<-ec];simp[mp,cy]
    cases M:N with
    |none=>
     subst M;have z:=ae I F K O c1 A bn G;have f:(@Bool.rec (λ_=>aa T) (some (T.arr b aX (aE+iT g 0) (iT i F-iT g 0) false)) (iS (Nat.beq (iT i F) F) (some (T.arr b aX (aE+iT g 0) (iT i F-iT g 0) true))) full)=some s:=f;cases full with
     |false=>
      simp at f;subst f;refine j4.pure v z (.arr _ _ _ _ _ W _ _ L bT ?_ λR=>⟨G,λ_=>?_,λQ=>?_⟩)
      ·show iT i F-iT g 0<=K-iT g 0;omega
      ·have:=(bN R).2.1 rfl;show aE+iT g 0+(K-iT g 0)=W.cap;omega
      ·have Q:K-iT g 0≠0:=Q;have a6:¬iT none K=iT g 0:=by show¬K=iT g 0;omega
       rw[Z a6];exact cX _ B R
     |true=>
      replace f:=fj.1 f;obtain⟨c4,f⟩:=f;have c4:=aH c4;simp at f;subst f;refine j4.pure v z (.arr _ _ _ _ _ W _ _ L bT ?_ λR=>⟨λ_=>?_,G,λQ=>?_⟩)
      ·show iT i F-iT g 0<=K-iT g 0;omega
      ·have:=(bN R).1 rfl;show K-iT g 0=iT i F-iT g 0;omega
      ·have Q:K-iT g 0≠0:=Q;have a6:¬iT none K=iT g 0:=by show¬K=iT g 0;omega
       rw[Z a6];exact cX _ B R
    |some k=>
     subst M;have f:iS (Nat.beq k (iT i F)) (some (T.arr b aX (aE+iT g 0) (iT i F-iT g 0) true))=some s:=f;replace f:=fj.1 f;obtain⟨E,f⟩:=f;have E:=aH E;simp at f;subst f;have z:=ae I F K O c1 A bn (by grind);have b6:iT (some k) K=iT i F:=E;rw[b6]at z;refine j4.pure v z (.arr _ _ _ _ _ W _ _ L bT (ax _) λR=>⟨λ_=>rfl,G,λQ=>?_⟩);have a6:¬iT i F=iT g 0:=B;rw[Z a6]
     grind
 grind
end
end
section
section
variable {P:aj}{cx:Ctx}{base:Nat}{w:World}{μ:Mu}{h h':H}{D:Nat}{e:Env}{a:Act}{o:Oper}{hp hp':ah Obj}
def St.gh(g:St cx base hp μ h){b:Nat}{c:Loc}(f:μ b=some c):b<h.size:=by
 have⟨i,d,_⟩:=g.box b c f;rw[H.get_eq]at d
 grind
def St.Uh(c:St cx base hp μ h):μ h.size=none:=by
 cases b:μ h.size with
 |none=>rfl
 |some d=>exact absurd (c.gh b) (Nat.lt_irrefl _)
def tU(μ:Mu)(d:Nat)(c:Loc):Mu:=⟨λb=>if b=d then some c else μ b,μ.rf⟩
theorem kt(μ:Mu)(c:Nat)(b:Loc):tU μ c b c=some b:=by simp[tU]
theorem jM(μ:Mu){c b:Nat}(d:Loc)(h:b≠c):tU μ c d b=μ b:=by simp[tU,h]
def H.cons(h:H)(b:jK):H:=⟨h.size+1,h.low,b::h.ir⟩
def H.mI(b:Nat->T)(h:H)(c:jK):h.new b c=some (b h.size,h.cons c):=H.Ui b h c
def H.wi(c:h.ir.length=h.size)(b:jK):(h.cons b).get h.size=some b:=by
 rw[H.get_eq];simp[H.cons]
theorem H.o6{b:Nat}(f:b<h.size)(c:jK):(h.cons c).get b=h.get b:=by
 rw[H.get_eq,H.get_eq];have d:b<(h.cons c).size:=by show b<h.size+1;omega
 rw[au d,au f];show(c::h.ir)[h.size+1-1-b]? =_;have:h.size+1-1-b=(h.size-1-b)+1:=B;rw[this];simp
def St.new(d:St cx base hp μ h)(n:Obj)(l:Loc)(m:jK)(z:l.jO=hp.size)(I:Ext hp μ (hp.push n) (tU μ h.size l)->ud (hp.push n) (tU μ h.size l) l m):
 St cx base (hp.push n) (tU μ h.size l) (h.cons m)/\Ext hp μ (hp.push n) (tU μ h.size l)/\Bb μ (tU μ h.size l) h.size (h.cons m).size:=by
 have F:=d.Uh;have p:Ext hp μ (hp.push n) (tU μ h.size l):=by
  refine⟨G,λr E t=>⟨?_,?_⟩,λb k c=>?_,rfl,λr E _=>?_⟩
  rotate_right
  ·rw[Array.getElem?_push];grind
  ·rw[Array.getElem?_push];grind
  ·rintro(⟨b,k,c,rfl⟩|hr)
   ·by_cases i:b=h.size
    ·subst i;rw[kt]at c;grind
    ·rw[jM _ _ i]at c;exact t (.inl ⟨b,k,c,rfl⟩)
   ·exact t (.inr hr)
  ·have:b≠h.size:=by rintro rfl;rw[F]at c;grind
   exact⟨k,by rw[jM _ _ this];exact c,.inl rfl⟩
 refine⟨⟨?_,?_,?_,?_,?_,?_,?_,?_⟩,p,?_⟩
 ·show(m::h.ir).length=h.size+1;simp[d.wf]
 ·simp;have:=d.fit;omega
 ·intro b k c;by_cases i:b=h.size
  ·subst i;rw[kt]at c;simp at c;subst c;exact⟨m,H.wi d.wf m,I p⟩
  ·rw[jM _ _ i]at c;have⟨J,j,g⟩:=d.box b k c;refine⟨J,by rw[H.o6 (d.gh c)];exact j,g.ext p ?_⟩;have:=d.lt c;rw[Array.getElem?_push];grind
 ·intro b s u v j g A;by_cases c:b=h.size<;>by_cases q:s=h.size
  ·omega
  ·subst c;rw[kt]at j;simp at j;subst j;rw[jM _ _ q]at g;have:=d.lt g;omega
  ·subst q;rw[kt]at g;simp at g;subst g;rw[jM _ _ c]at j;have:=d.lt j;omega
  ·rw[jM _ _ c]at j;rw[jM _ _ q]at g;exact d.inj b s u v j g A
 ·intro b k c;by_cases i:b=h.size
  ·subst i;rw[kt]at c;simp at c;subst c;rw[z];exact d.fit
  ·rw[jM _ _ i]at c;exact d.low b k c
 ·intro b k c hr;by_cases i:b=h.size
  ·subst i;rw[kt]at c;simp at c;subst c;have:=d.tV _ hr;omega
  ·rw[jM _ _ i]at c;exact d.apart b k c hr
 ·intro r hr;have:=d.tV r hr
  grind
 ·intro y x D;exact(d.B7 y x D).ext p
 ·refine⟨by show h.size<=h.size+1;omega,λb c=>?_,λb j g=>?_⟩
  ·by_cases i:b=h.size
   ·right;exact⟨B,by show b<h.size+1;omega⟩
   grind [jM]
  ·have:b=h.size:=by have g:b<h.size+1:=g;omega
   subst this;rw[kt];simp
def Eo{c:Nat}{d:jK}(f:h.put c d=some h')(k:h.ir.length=h.size):
 h'.size=h.size/\h'.ir.length=h'.size/\h'.get c=some d/\∀b,b≠c->h'.get b=h.get b:=by
 obtain⟨g,i,rfl⟩:=H.yF.1 f;refine⟨rfl,by grind,?_,λb j=>?_⟩
 ·rw[H.get_eq];grind
 ·rw[H.get_eq,H.get_eq]
  grind
def St.change(d:St cx base hp μ h){f:Nat}{i L':Loc}{D:jK}(p:μ f=some i)(K:h.put f D=some h')(A:hp.size<=hp'.size)(x:∀n,n<hp.size->n≠i.jO->hp'[n]? =hp[n]?)
 (M:L'=i\/(i.ep<L'.ep/\(L'.jO=i.jO\/hp.size<=L'.jO))) (N:Ext hp μ hp' (tU μ f L')->ud hp' (tU μ f L') L' D):
 St cx base hp' (tU μ f L') h'/\Ext hp μ hp' (tU μ f L')/\Bb μ (tU μ f L') h.size h'.size:=by
 have⟨p1,p2,p3,p4⟩:=Eo K d.wf;have q:L'.jO=i.jO\/hp.size<=L'.jO:=by
  grind
 have u:Ext hp μ hp' (tU μ f L'):=by
  refine⟨A,λn v t=>⟨x n v λk=>t (.inl ⟨f,i,p,k.symm⟩),?_⟩,λc m b=>?_,rfl,λn v hr=>x n v λk=>d.apart f i p (k▸hr)⟩
  ·rintro(⟨c,m,b,rfl⟩|hr)
   ·by_cases g:c=f
    ·subst g;rw[kt]at b;simp at b;subst b;rcases q with k|k
     ·exact t (.inl ⟨c,i,p,k.symm⟩)
     ·omega
    ·rw[jM _ _ g]at b;exact t (.inl ⟨c,m,b,rfl⟩)
   ·exact t (.inr hr)
  ·by_cases g:c=f
   ·subst g;rw[p]at b;grind [kt]
   ·exact⟨m,by rw[jM _ _ g];exact b,.inl rfl⟩
 refine⟨⟨p2,by have:=d.fit;omega,?_,?_,?_,?_,λn hr=>bK (d.tV n hr) A,?_⟩,u,⟨B,λc b=>?_,λc j l=>by omega⟩⟩
 ·intro c m b;by_cases g:c=f
  ·subst g;rw[kt]at b;grind
  ·rw[jM _ _ g]at b;have⟨L,j,l⟩:=d.box c m b;refine⟨L,by rw[p4 c g];exact j,l.ext u (x _ (d.lt b) λk=>g (d.inj c f m i b p k))⟩
 ·intro c r y z j l I;by_cases b:c=f<;>by_cases s:r=f
  ·omega
  ·subst b;rw[kt]at j;simp at j;subst j;rw[jM _ _ s]at l;rcases q with k|k
   ·exact absurd (d.inj r c z i l p B) s
   ·have:=d.lt l;omega
  ·subst s;rw[kt]at l;simp at l;subst l;rw[jM _ _ b]at j;rcases q with k|k
   ·exact absurd (d.inj c r y i j p B) b
   ·have:=d.lt j;omega
  ·rw[jM _ _ b]at j;rw[jM _ _ s]at l;exact d.inj c r y z j l I
 ·intro c m b;by_cases g:c=f
  ·subst g;rw[kt]at b;simp at b;subst b;rcases q with k|k
   ·rw[k];exact d.low _ _ p
   ·have:=d.fit;omega
  ·rw[jM _ _ g]at b;exact d.low c m b
 ·intro c m b hr;by_cases g:c=f
  ·subst g;rw[kt]at b;simp at b;subst b;rcases q with k|k
   ·exact d.apart c i p (by rw[<-k];exact hr)
   ·have:=d.tV _ hr;omega
  ·rw[jM _ _ g]at b;exact d.apart c m b hr
 ·intro F E J;exact(d.B7 F E J).ext u
 grind [jM]
end
end
section
section
variable {P:aj}{cx:Ctx}{base:Nat}{w:World}{μ:Mu}{h h':H}{D:Nat}{e:Env}{a:Act}{o:Oper}{hp hp':ah Obj}
theorem ko{b:aa (T×H)}{c:T}{h':H}:kr b=some (.val c h')↔b=some (c,h'):=by
 unfold kr;cases b with
 |none=>simp
 |some d=>obtain⟨g,f⟩:=d;simp
def zw(r:St cx base w.heap μ h)(b:af){arr:ah aq}{cap sz:Nat}{ex:Bool}{es:List T}(k:arr.size=cap*sz)(n:es.length<=cap)(l:ex=true->cap=es.length)
 (q:∀d∈es,d.cells.length=sz) (p:∀d∈iq es,d.scalar=true) (j:iW w.heap μ (iq es) (arr.toList.take (iq es).length)):
 ∃c,St cx base (w.heap.push (.cells arr b)) c (h.cons (mY sz ex es))/\sd w μ {w with heap:=w.heap.push (.cells arr b)} c/\Bb μ c h.size (h.cons (mY sz ex es)).size/\
  c h.size=some ⟨0,w.heap.size,cap,sz⟩:=by
 have⟨f,g,i⟩:=r.new (.cells arr b) ⟨0,w.heap.size,cap,sz⟩ (mY sz ex es) rfl (by
  intro m;refine⟨rfl,rfl,λ_=>⟨⟨arr,b,G,k,j.ext m⟩,n,l,q,p⟩,λs=>by grind [mY]⟩)
 exact⟨_,f,⟨g,rfl,rfl,rfl⟩,i,kt _ _ _⟩
def Bk{b:T}(h:b.scalar=true):b.cells=[b]:=by
 cases b<;>first|rfl|grind [T.scalar]
def B8{b:List T}(h:∀c∈b,c.scalar=true):iq b=b:=by
 induction b with
 |nil=>rfl
 |cons c b g=>
  have f:=Bk (h c G);have d:=g λi j=>h i (by grind);unfold iq at d|-;rw[bD,f,d];rfl
theorem Jl(j7:jT P cx){g:af}(x:St cx base w.heap μ h)(t:o.op= .alloc g){i:T}
 (b:Gd g cx D e h=some (.val i h')):j4 cx base w μ h.size ((execOp a.eval o).run P w) i h':=by
 replace b:=eg.1 b;obtain⟨c,y,b⟩:=b;have⟨f,u,_,z,k,E,v,A,F⟩:=(j7.ty _ _ y).zero w;cases s:zH cx c with
 |false=>
  rw[s]at b;have b:kr (h.new (λj=>T.fc j 0 0 0) (mY c.size true [c.lH]))=some (.val i h'):=b;rw[ko,H.mI]at b;simp only[aw,aF]at b;obtain⟨rfl,rfl⟩:=b;have⟨r,l,m,n,p⟩:=zw x g (arr:=f.cells) (cap:=1) (sz:=c.size) (ex:=true) (es:=[c.lH]) B G G
   (by intro q d;simp at d;subst d;rw[v];omega) (by intro q d;simp[iq]at d;rw[v]at d;grind)
   (by
     have:iq [c.lH]=c.zero:=by grind [iq]
     rw[this];have hl:f.cells.toList.take c.zero.length=f.cells.toList:=by grind [bQ]
     rw[hl];grind)
  refine⟨.pointer (some ⟨w.heap.size,0,none⟩),_,r,.inl ?_,.fc _ 0 0 0 _ _ p (ax _) (λ_=>by simp),l,m,n⟩;simp[execOp,t,Instr.alloc,u,newVar,newRow]
 |true=>
  rw[s]at b;have b:kr (h.new (λj=>T.fc j 0 0 0) (mY 1 true c.zero))=some (.val i h'):=b;rw[ko,H.mI]at b;simp only[aw,aF]at b;obtain⟨rfl,rfl⟩:=b;have⟨r,l,m,n,p⟩:=zw x g (arr:=f.cells) (cap:=c.zero.length) (sz:=1) (ex:=true) (es:=c.zero) B (ax _) (λ_=>rfl)
   (by intro q d;rw[Bk (k q d)];rfl) (by rw[B8 k];omega)
   (by
     rw[B8 k];have hl:f.cells.toList.take c.zero.length=f.cells.toList:=by grind [bQ]
     rw[hl];grind)
  refine⟨.pointer (some ⟨w.heap.size,0,none⟩),_,r,.inl ?_,.fc _ 0 0 0 _ _ p (ax _) (λ_=>by simp),l,m,n⟩;simp[execOp,t,Instr.alloc,u,newVar,newRow]
theorem NA{i:af}{d:ai}(g:St cx base w.heap μ h)(s:lO w.heap μ D e a.tmps)(m:o.op= .box i d){j:T}
 (b:Rp d cx D e h=some (.val j h')):j4 cx base w μ h.size ((execOp a.eval o).run P w) j h':=by
 replace b:=eg.1 b;obtain⟨c,hp,b⟩:=b;replace b:=fj.1 b;obtain⟨k,b⟩:=b;rw[ko,H.mI]at b;simp only[aw,aF]at b;obtain⟨rfl,rfl⟩:=b;have⟨f,u,_⟩:=(iZ g s hp).cells k;have l:=f.1;have⟨t,n,p,q,r⟩:=zw g i (arr:=(a.eval d).cells) (cap:=1) (sz:=c.cells.length) (ex:=true) (es:=[c]) (by grind) G G
  G (by grind [iq])
  (by
    have:iq [c]=c.cells:=by simp[iq]
    rw[this,l,aL];exact f)
 rw[kE];refine⟨.pointer (some ⟨w.heap.size,0,none⟩),_,t,.inl ?_,.fc _ 0 0 0 _ _ r (ax _) (λ_=>by simp),n,p,q⟩;simp[execOp,m,Instr.box,newVar,newRow]
def Ws(b c:List T):over b c=if c.length<=b.length then some (c++b.drop c.length)else none:=by
 induction c generalizing b with
 |nil=>rfl
 |cons i c f=>cases b with
  |nil=>rfl
  |cons j b=>
   show(J (over b c) λg=>some (i::g))=_;rw[f];by_cases d:c.length<=b.length<;>simp[d]
def wy(b:List T)(c:Nat)(d:List T):mG b c d=if c+d.length<=b.length then some (b.take c++d++b.drop (c+d.length))else none:=by
 induction c generalizing b with
 |zero=>show over b d=_;rw[Ws];simp
 |succ c j=>cases b with
  |nil=>show none=_;simp
  |cons f b=>
   show(J (mG b c d) λk=>some (f::k))=_;rw[j];have g:c+1+d.length=(c+d.length)+1:=B;by_cases i:c+d.length<=b.length
   ·rw[au i,au (by grind),g];simp
   simp_all[Z]
def qF{b d f:List T}{c:Nat}(g:mG b c d=some f):c+d.length<=b.length/\f=b.take c++d++b.drop (c+d.length):=by
 rw[wy]at g
 grind
def Nj{d g f:List T}{j:Nat}(i:mG d j g=some f){c:T->Prop}(k:∀b∈d,c b)(l:∀b∈g,c b):∀b∈f,c b:=by
 obtain⟨_,rfl⟩:=qF i
 grind
def Iq{cells:ah aq}{c:aq}{off:Nat}(k:off+c.cells.size<=cells.size):
 (c.cells.zipIdx.foldl (λd (b:aq×Nat)=>d.setIfInBounds (off+b.2) b.1) cells).toList=cells.toList.take off++c.cells.toList++cells.toList.drop (off+c.cells.size):=by
 have g:c.cells.zipIdx.foldl (λd (b:aq×Nat)=>d.setIfInBounds (off+b.2) b.1) cells=(c.cells.toList.zipIdx 0).foldl (λd (b:aq×Nat)=>d.setIfInBounds (off+b.2) b.1) cells:=by
  rw[<-Array.foldl_toList,Array.toList_zipIdx]
 rw[g];have⟨j,f⟩:=Great.foldl_set off c.cells.toList 0 cells;apply cW;intro i;have:=f i;rw[<-dq]at this;rw[this]
 grind
def Gm(place:Nat->aa (Nat×Nat))(b:Nat×T)(d:List (Nat×T))(c:List T):
 oH place (b::d) c=J (place b.1) λf=>iS (Nat.beq (mJ b.2.cells) f.2) (J (mG c f.1 b.2.cells) λg=>oH place d g):=rfl
def RM(hp:ah Obj)(μ:Mu)(g:List (Nat×T))(qs:List (Nat×aq)):Prop:=
 g.length=qs.length/\∀(f:Nat) d b,g[f]? =some (d,b)->∃c,qs[f]? =some (d,c)/\iu hp μ b c/\b.jc=true
def RM.nU{b:Nat×T}{g:List (Nat×T)}{qs:List (Nat×aq)}(h:RM hp μ (b::g) qs):∃c i,qs=(b.1,c)::i/\iu hp μ b.2 c/\b.2.jc=true/\RM hp μ g i:=by
 obtain⟨hl,f⟩:=h;cases qs with
 |nil=>grind
 |cons p qs=>
  have⟨c,d,hr,j⟩:=f 0 b.1 b.2 G;simp at d;subst d;exact⟨c,qs,rfl,hr,j,by grind,λl k m n=>by simpa using f (l+1) k m (by grind)⟩
def Am(v:St cx base w.heap μ h)(u:lO w.heap μ D e a.tmps){c:List (Nat×ai)}{l:List (Nat×T)}(i:partsOf cx D e c=some l):
 RM w.heap μ l (c.map λk=>(k.1,a.eval k.2)):=by
 unfold partsOf at i;have⟨hl,n⟩:=uM.1 i;refine⟨by grind,λd s f q=>?_⟩;have x:d<c.length:=by
  grind
 have⟨y,g,b⟩:=n d c[d] G;rw[q]at g;simp at g;subst g;rcases p:c[d]with⟨t,j⟩;rw[p]at b;have b:(J (iG cx D e j) λf=>iS f.jc (some (t,f)))=some (s,f):=b;have⟨z,r,b⟩:=eg.1 b;have⟨m,b⟩:=fj.1 b;simp at b;obtain⟨rfl,rfl⟩:=b;exact⟨a.eval j,by grind,iZ v u r,m⟩
def x6{place place':Nat->aa (Nat×Nat)}(K:∀t f,place t=some f->place' t=some f):∀(k:List (Nat×T)) (qs:List (Nat×aq)) (d g:List T) (cells:ah aq),
 RM hp μ k qs->iW hp μ d cells.toList->(∀n∈d,n.scalar=true)->oH place k d=some g->
 ∃j,Instr.fill place' cells qs=some j/\iW hp μ g j.toList/\(∀n∈g,n.scalar=true)/\j.size=cells.size:=by
 intro k;induction k with
 |nil=>
  intro qs d g cells hp i m b;have:qs=[]:=aZ hp.1.symm;subst this;have:g=d:=by grind [oH]
  subst this;exact⟨cells,rfl,i,m,rfl⟩
 |cons V k M=>
  intro qs d g cells z i m b;obtain⟨c,S,rfl,hr,F,A⟩:=z.nU;rw[Gm]at b;have⟨f,L,b⟩:=eg.1 b;have⟨hl,b⟩:=fj.1 b;have⟨q,r,b⟩:=eg.1 b;have⟨p,v,_⟩:=hr.cells F;have J:=aH hl;rw[kE]at J;have⟨U,E⟩:=qF r;have x:=i.1;have l:=p.1;simp only[cY]at x l;have I:f.1+c.cells.size<=cells.size:=B;have s:=Iq (cells:=cells) (c:=c) I;have y:iW hp μ q (c.cells.zipIdx.foldl (λd (u:aq×Nat)=>d.setIfInBounds (f.1+u.2) u.1) cells).toList:=by
   rw[s,E,<-l];exact((i.take f.1).append p).append (by rw[l];exact i.drop _)
  have⟨j,N,O,Q,R⟩:=M S q g _ A y (Nj r m v) b;refine⟨j,?_,O,Q,?_⟩
  ·simp only[Instr.fill,K _ _ L];have D:¬(c.cells.size≠f.2||decide (f.1+c.cells.size>cells.size))=true:=by grind
   rw[Z D];exact N
  ·rw[R];have:=bL List.length s
   grind
