/- Texts TiBase to TiRead. -/
import Derived.Test.YtmaeadedikngoaaGreatDoorA0
import Derived.IntWalk
import Derived.Calls
import Derived.Laws.CopyRow
import Derived.Laws.Cells
import Derived.Laws.Entries
import Derived.WalkCall
import Derived.Laws.Strings
import Derived.Lib.Strings
import Derived.Laws.StructEq
import Derived.ChangeKeysEq
set_option linter.unusedVariables false
set_option linter.unusedSimpArgs false
namespace Go.TI
noncomputable section
@[simp] theorem dD {α β:Type} (a:α) (b:α->aa β):dB (some a) b=b a:=rfl
@[simp] theorem aad {α β:Type} (a:α->aa β):dB (none:aa α) a=none:=rfl
theorem dj{α β:Type}{a:aa α}{c:α->aa β}{d:β}:dB a c=some d↔∃b,a=some b/\c b=some d:=by
 cases a<;>simp
@[simp] theorem fO {α:Type} (a:aa α):fy true a=a:=rfl
@[simp] theorem La {α:Type} (a:aa α):fy false a=none:=rfl
theorem dz{α:Type}{a:Bool}{b:aa α}{c:α}:fy a b=some c↔a=true/\b=some c:=by
 cases a<;>simp
@[simp] theorem jX {α β d:Type} (a:α) (b:β) (c:α->β->d):two (a,b) c=c a b:=rfl
@[simp] theorem km {e:Type} (d:Ex) (a:Env) (c:H) (b:Ex->Env->H->e):three (d,a,c) b=b d a c:=rfl
section lists
variable {α β:Type}
@[simp] theorem j9 (b:List α) (a:Nat):kW b a=b[a]? :=by
 induction b generalizing a with
 |nil=>simp[kW]
 |cons e d c=>cases a with
  |zero=>rfl
  |succ a=>exact(c a).trans (by simp)
theorem kh(b:List α)(a:Nat)(c:α):kf b a c=if a<b.length then some (b.set a c)else none:=by
 induction b generalizing a with
 |nil=>rfl
 |cons h d f=>cases a with
  |zero=>rfl
  |succ a=>
   show(dB (kf d a c) λg=>some (h::g))=_
   rw[f]
   by_cases e:a<d.length<;>simp[e]
theorem mS(a:Nat)(b:List α):takeN a b=if a<=b.length then some (b.take a)else none:=by
 induction a generalizing b with
 |zero=>rfl
 |succ a e=>cases b with
  |nil=>rfl
  |cons g c=>
   show(dB (takeN a c) λf=>some (g::f))=_
   rw[e]
   by_cases d:a<=c.length<;>simp[d]
theorem kZ(a:Nat)(b:List α):je a b=if a<=b.length then some (b.drop a)else none:=by
 induction a generalizing b with
 |zero=>rfl
 |succ a e=>cases b with
  |nil=>rfl
  |cons f c=>
   show je a c=_
   rw[e]
   by_cases d:a<=c.length<;>simp[d]
@[simp] theorem iX (a:List α):kc a=a.length:=by
 induction a with
 |nil=>rfl
 |cons d c b=>show Nat.succ (kc c)=_;rw[b];rfl
@[simp] theorem oO (a b:List α):Cv a b=some (a++b):=by
 induction a with
 |nil=>rfl
 |cons f d c=>show(dB (Cv d b) λe=>some (f::e))=_;rw[c];rfl
theorem jc(a:α->aa β)(c:α)(b:List α):eK a (c::b)=dB (a c) λe=>dB (eK a b) λd=>some (e::d):=rfl
@[simp] theorem Um (a:α->aa β):eK a []=some []:=rfl
theorem qF{i:α->aa β}{e:List α}{c:List β}:eK i e=some c↔e.length=c.length/\∀(b:Nat) h,e[b]? =some h->∃f,c[b]? =some f/\i h=some f:=by
 induction e generalizing c with
 |nil=>
  constructor
  ·intro a;simp at a;subst a;simp
  ·rintro⟨a,_⟩;simp at a;simp[bh a.symm]
 |cons h e m=>
  rw[jc]
  constructor
  ·intro a
   obtain⟨f,o,a⟩:=dj.1 a
   obtain⟨q,ht,a⟩:=dj.1 a
   simp at a;subst a
   obtain⟨hl,g⟩:=m.1 ht
   refine⟨by simp[hl],λb k d=> ?_⟩
   cases b with
   |zero=>simp at d;subst d;exact⟨f,by simp,o⟩
   |succ b=>simp at d;obtain⟨p,n,j⟩:=g b k d;exact⟨p,by simpa using n,j⟩
  ·rintro⟨hl,g⟩
   cases c with
   |nil=>simp at hl
   |cons f c=>
    obtain⟨r,l,j⟩:=g 0 h (by simp)
    simp at l;subst l
    have:eK i e=some c:=m.2 ⟨by simpa using hl,λb k d=>by simpa using g (b+1) k (by simpa using d)⟩
    rw[j,this];rfl
@[simp] theorem mU (b:α) (a:Nat):om b a=List.replicate a b:=by
 induction a with
 |zero=>rfl
 |succ a c=>show b::om b a=_;rw[c];rfl
@[simp] theorem xR (a:α->Bool) (b:List α):vH a b=b.all a:=by
 induction b with
 |nil=>rfl
 |cons c b e=>
  show @Bool.rec (λ_=>Bool) false (vH a b) (a c)=_
  rw[e];cases d:a c<;>simp[d]
end lists
@[simp] theorem gD (a:Nat):fF a=some a:=by cases a<;>rfl
@[simp] theorem Uf (b:Int):Jm b=some b:=by
 cases b with
 |ofNat a=>cases a<;>rfl
 |negSucc a=>cases a<;>rfl
@[simp] theorem nM (a:ak) (b:Int):wy a b=some (.int a b):=by simp[wy]
@[simp] theorem qz (a:Bool):vQ a=some (.bool a):=by cases a<;>rfl
@[simp] theorem wM (a b:ak):(B5 a b=true)↔a=b:=by cases a<;>cases b<;>decide
theorem wJ(c b:Int):Jq c b=decide (c<b):=by
 cases c with
 |ofNat d=>cases b with
  |ofNat a=>
   show Nat.blt d a=_
   rw[bF,aG];simp
  |negSucc a=>show false=_;symm;simp;omega
 |negSucc d=>cases b with
  |ofNat a=>show true=_;symm;simp;omega
  |negSucc a=>
   show Nat.blt a d=_
   rw[bF,aG];simp;omega
theorem wP(c b:Int):Pd c b=(c==b):=by
 cases c with
 |ofNat d=>cases b with
  |ofNat a=>
   show Nat.beq d a=_
   rw[bF,Nat.beq_eq];simp;omega
  |negSucc a=>rfl
 |negSucc d=>cases b with
  |ofNat a=>rfl
  |negSucc a=>
   show Nat.beq d a=_
   rw[bF,Nat.beq_eq];simp
theorem ju(c:ak)(d:Int):IT c d=c.wrap d:=by
 cases c<;>try rfl
 cases d with
 |ofNat a=>
  show @Bool.rec (λ_=>Int) (IntKind.i64.wrap (.ofNat a)) (Int.ofNat a) (Nat.ble a 9223372036854775807)=_
  cases b:Nat.ble a 9223372036854775807
  ·rfl
  ·have:=bA b
   show Int.ofNat a=_
   exact(IntWalk.i64_in _ (by simp;omega)).symm
 |negSucc a=>
  show @Bool.rec (λ_=>Int) (IntKind.i64.wrap (.negSucc a)) (Int.negSucc a) (Nat.ble a 9223372036854775807)=_
  cases b:Nat.ble a 9223372036854775807
  ·rfl
  ·have:=bA b
   show Int.negSucc a=_
   exact(IntWalk.i64_in _ (by omega)).symm
@[simp] theorem xf (a:ak) (b:Int):oS a b=some (.int a (a.wrap b)):=by simp[oS,ju]
theorem Er(b a:List Nat):SW b a=(b==a):=by
 induction b generalizing a with
 |nil=>cases a<;>rfl
 |cons c b f=>cases a with
  |nil=>rfl
  |cons d a=>
   show @Bool.rec (λ_=>Bool) false (SW b a) (Nat.beq c d)=_
   rw[f]
   rw[List.cons_beq_cons]
   cases e:Nat.beq c d
   ·have:(c==d)=false:=by rw[<-Bool.not_eq_true,beq_iff_eq,<-Nat.beq_eq];simp[e]
    simp[this]
   ·have:(c==d)=true:=by rw[beq_iff_eq,<-Nat.beq_eq];exact e
    simp[this]
theorem H.get_eq(b:H)(a:Nat):b.get a=if a<b.size then b.ec[b.size-1-a]? else none:=by
 obtain⟨d,f,e⟩:=b
 show fy (Nat.blt a d) (kW e _)=_
 by_cases c:a<d
 ·have:Nat.blt a d=true:=by rw[aG];exact c
  simp[this,c]
 ·have:Nat.blt a d=false:=by rw[<-Bool.not_eq_true,aG];exact c
  simp[this,c]
theorem H.No(b:Nat->T)(a:H)(c:iE):a.new b c=some (b a.size,⟨a.size+1,a.low,c::a.ec⟩):=by
 obtain⟨d,f,e⟩:=a
 show(dB (fF (Nat.succ d)) λg=>some (b d,(⟨g,f,c::e⟩:H)))=_
 simp
theorem H.uv{b k:H}{a:Nat}{j:iE}:b.put a j=some k↔
 a<b.size/\b.size-1-a<b.ec.length/\k=⟨b.size,if a<b.low then a else b.low,b.ec.set (b.size-1-a) j⟩:=by
 obtain⟨g,d,l⟩:=b
 show fy (Nat.blt a g) (dB (kf l (g-1-a) j) λh=> @Bool.rec (λ_=>aa H) (some (⟨g,d,h⟩:H)) (some ⟨g,a,h⟩) (Nat.blt a d))=_↔_
 rw[dz,aG,kh]
 constructor
 ·rintro⟨i,m⟩
  obtain⟨h,f,e⟩:=dj.1 m
  split at f
  ·rename_i hl
   simp at f;subst f
   refine⟨i,hl,?_⟩
   by_cases c:a<d
   ·have:Nat.blt a d=true:=by rw[aG];exact c
    rw[this]at e;simp at e;simp[c,<-e]
   ·have:Nat.blt a d=false:=by rw[<-Bool.not_eq_true,aG];exact c
    rw[this]at e;simp at e;simp[c,<-e]
  ·simp at f
 ·rintro⟨i,hl,rfl⟩
  refine⟨i,?_⟩
  simp only[]at hl
  rw[aq hl]
  by_cases c:a<d
  ·have:Nat.blt a d=true:=by rw[aG];exact c
   simp[this,c]
  ·have:Nat.blt a d=false:=by rw[<-Bool.not_eq_true,aG];exact c
   simp[this,c]
end
noncomputable section
structure Loc where
 ep:Nat
 io:Nat
 cap:Nat
 sz:Nat
structure Mu where
 loc:Nat->aa Loc
 mH:Nat->Prop
instance :CoeFun Mu (λ_=>Nat->aa Loc):=⟨Mu.loc⟩
def mG(c:Mu)(b:Nat):Prop:=(∃d a,c d=some a/\a.io=b)\/c.mH b
def T.scalar:T->Bool
 | .undef| .agg _| .tuple _=>false
 |_=>true
inductive jT:T->Prop where
 |bool (b:Bool):jT (.bool b)
 |int (k:ak) (n:Int):jT (.int k n)
 |str (s:List Nat):jT (.str s)
 |jz:jT .jz
 |iT (cs:List T) (h:∀v∈cs,jT v):jT (.iT cs)
 |dq (es:List T) (full:Bool) (h:∀v∈es,jT v):jT (.dq es full)
 |fg:jT .fg
 |j3:jT .j3
 |ka:jT .ka
 |agg (cs:List T) (h:∀v∈cs,jT v):jT (.agg cs)
def vJ(a:T):Prop:=a.scalar=true/\jT a
def d6(a:List T):List T:=a.flatMap T.cells
def bytesOf(a:List Nat):ByteArray:=⟨(a.map UInt8.ofNat).toArray⟩
inductive eg (hp:af Obj) (μ:Mu):T->am->Prop where
 |undef:eg hp μ .undef (.tuple #[])
 |bool (b:Bool):eg hp μ (.bool b) (.bool b)
 |int (k:ak) (n:Int):eg hp μ (.int k n) (.int k n)
 |str (s:List Nat) (h:∀c∈s,c<256):eg hp μ (.str s) (.string (bytesOf s))
 |jz:eg hp μ .jz (.pointer none)
 |ptr (b ep i j:Nat) (L:Loc) (a:Addr) (hb:μ b=some L) (he:ep<=L.ep) (ha:ep=L.ep->a=⟨L.io,i*L.sz+j,none⟩):
  eg hp μ (.ptr b ep i j) (.pointer (some a))
 |iT (cells:List T) (io off:Nat) (arr:af am) (t:ab) (fz:Nat×Nat) (hn:¬mG μ io) (hh:hp[io]? =some (.cells arr t fz))
  (hs:off+cells.length<=arr.size) (hc:∀v∈cells,vJ v)
  (hr:∀(k:Nat) v,cells[k]? =some v->eg hp μ v (arr.getD (off+k) Go.undef)):eg hp μ (.iT cells) (.pointer (some ⟨io,off,none⟩))
 |mP (full:Bool) (a:aa Addr):eg hp μ (.dq [] full) (.slice a 0 0)
 |dq (e:T) (es:List T) (full:Bool) (io off cap sz:Nat) (arr:af am) (t:ab) (fz:Nat×Nat) (hn:¬mG μ io)
  (hh:hp[io]? =some (.cells arr t fz)) (hl:es.length+1<=cap) (hf:full=true->cap=es.length+1)
  (hu:∀v∈e::es,v.cells.length=sz) (hs:off+(d6 (e::es)).length<=arr.size) (hc:∀v∈d6 (e::es),vJ v)
  (hr:∀(k:Nat) v,(d6 (e::es))[k]? =some v->eg hp μ v (arr.getD (off+k) Go.undef)):
  eg hp μ (.dq (e::es) full) (.slice (some ⟨io,off,none⟩) (es.length+1) cap)
 |fg (a:aa Addr) (cap:Nat):eg hp μ .fg (.slice a 0 cap)
 |arr (b ep o l:Nat) (full:Bool) (L:Loc) (a:aa Addr) (cp:Nat) (hb:μ b=some L) (he:ep<=L.ep) (hl:l<=cp)
  (h:ep=L.ep->(full=true->cp=l)/\(full=false->o+cp=L.cap)/\(cp≠0->a=some ⟨L.io,o*L.sz,none⟩)):
  eg hp μ (.arr b ep o l full) (.slice a l cp)
 |func (f:aj) (caps:List T) (cs:af am) (hs:cs.size=caps.length)
  (hr:∀(k:Nat) v,caps[k]? =some v->eg hp μ v (cs.getD k Go.undef)):eg hp μ (.func f caps) (.func (.func f) #[] cs)
 |j3:eg hp μ .j3 .nilFunc
 |ka:eg hp μ .ka .nilIface
 |iface (t:ab) (v:T) (c:am) (h:eg hp μ v c):eg hp μ (.iface t v) (.iface t c)
 |iter (b:Nat) (L:Loc) (a:Addr) (hb:μ b=some L) (h:L.ep=0->a=⟨L.io,0,none⟩):eg hp μ (.iter b) (.pointer (some a))
 |map (b:Nat) (L:Loc) (i:Nat) (hb:μ b=some L) (h:L.ep=0->i=L.io):eg hp μ (.map b) (.map (some i))
 |mL:eg hp μ .mL (.map none)
 |agg (cells:List T) (cs:af am) (hs:cs.size=cells.length) (hc:∀v∈cells,v.scalar=true)
  (hr:∀(k:Nat) v,cells[k]? =some v->eg hp μ v (cs.getD k Go.undef)):eg hp μ (.agg cells) (.agg cs)
 |tuple (vs:List T) (cs:af am) (hs:cs.size=vs.length)
  (hr:∀(k:Nat) v,vs[k]? =some v->eg hp μ v (cs.getD k Go.undef)):eg hp μ (.tuple vs) (.tuple cs)
structure Ext(hp:af Obj)(μ:Mu)(hp':af Obj)(μ':Mu):Prop where
 size:hp.size<=hp'.size
 wF:∀i,i<hp.size->¬mG μ i->hp'[i]? =hp[i]? /\¬mG μ' i
 mu:∀b L,μ b=some L->∃L',μ' b=some L'/\(L'=L\/L.ep<L'.ep)
 mH:μ'.mH=μ.mH
 kept:∀i,i<hp.size->μ.mH i->hp'[i]? =hp[i]?
structure oI(w:World)(μ:Mu)(w':World)(μ':Mu):Prop where
 ext:Ext w.heap μ w'.heap μ'
 os:w'.os=w.os
 tape:w'.tape=w.tape
 output:w'.output=w.output
theorem Ext.refl(b:af Obj)(c:Mu):Ext b c b c:=⟨au _,λ_ _ a=>⟨rfl,a⟩,λ_ d a=>⟨d,a,.inl rfl⟩,rfl,λ_ _ _=>rfl⟩
theorem Ext.trans{hp f g:af Obj}{h i j:Mu}(a:Ext hp h f i)(d:Ext f i g j):Ext hp h g j:=by
 refine⟨aS a.size d.size,λc b s=> ?_,λe k r=> ?_,d.mH.trans a.mH,λc b hr=> ?_⟩
 rotate_right
 ·rw[d.kept c (bD b a.size) (by rw[a.mH];exact hr),a.kept c b hr]
 ·obtain⟨n,t⟩:=a.wF c b s
  obtain⟨o,u⟩:=d.wF c (bD b a.size) t
  exact⟨o.trans n,u⟩
 ·obtain⟨l,p,r1⟩:=a.mu e k r
  obtain⟨m,q,r2⟩:=d.mu e l p
  refine⟨m,q,?_⟩
  rcases r1 with rfl|r1
  ·exact r2
  ·rcases r2 with rfl|r2
   ·exact .inr r1
   ·exact .inr (Nat.lt_trans r1 r2)
theorem oI.refl(a:World)(b:Mu):oI a b a b:=⟨Ext.refl _ _,rfl,rfl,rfl⟩
theorem oI.trans{c w1 d:World}{e f g:Mu}(a:oI c e w1 f)(b:oI w1 f d g):oI c e d g:=
 ⟨a.ext.trans b.ext,b.os.trans a.os,b.tape.trans a.tape,b.output.trans a.output⟩
theorem ow{a:af Obj}{b:Nat}{f:Obj}(c:a[b]? =some f):b<a.size:=by
 rcases aD b a.size with e|d
 ·exact e
 ·simp[cN d]at c
theorem eg.ext{A B:af Obj}{C D:Mu}{u:T}{t:am}(e:eg A C u t)(k:Ext A C B D):eg B D u t:=by
 induction e with
 |undef=>exact .undef
 |bool a=>exact .bool a
 |int N q=>exact .int N q
 |str R e=>exact .str R e
 |jz=>exact .jz
 |ptr a x z M g d i J I=>
  obtain⟨h,j,r⟩:=k.mu a g i
  refine .ptr a x z M h d j ?_ ?_
  ·rcases r with rfl|r<;>omega
  ·intro b
   rcases r with rfl|r
   ·exact I b
   ·omega
 |iT w l off arr s fz y p f o _ c=>
  obtain⟨b,q⟩:=k.wF l (ow p) y
  exact .iT w l off arr s fz q (b.trans p) f o c
 |mP n d=>exact .mP n d
 |dq b G n l off v S arr s fz y p hl K L f o _ c=>
  obtain⟨Q,q⟩:=k.wF l (ow p) y
  exact .dq b G n l off v S arr s fz q (Q.trans p) hl K L f o c
 |fg d v=>exact .fg d v
 |arr a x P O n g d F i J hl e=>
  obtain⟨h,j,r⟩:=k.mu a g i
  refine .arr a x P O n h d F j ?_ hl ?_
  ·rcases r with rfl|r<;>omega
  ·intro b
   rcases r with rfl|r
   ·exact e b
   ·omega
 |func H E m f _ c=>exact .func H E m f c
 |j3=>exact .j3
 |ka=>exact .ka
 |iface s u t _ c=>exact .iface s u t c
 |iter a g d i e=>
  obtain⟨h,j,r⟩:=k.mu a g i
  refine .iter a h d j ?_
  intro b
  rcases r with rfl|r
  ·exact e b
  ·omega
 |map a g z i e=>
  obtain⟨h,j,r⟩:=k.mu a g i
  refine .map a h z j ?_
  intro b
  rcases r with rfl|r
  ·exact e b
  ·omega
 |mL=>exact .mL
 |agg w m f o _ c=>exact .agg w m f o c
 |tuple U m f _ c=>exact .tuple U m f c
def fI(e:af Obj)(f:Mu)(d:List T)(a:List am):Prop:=
 d.length=a.length/\∀(b:Nat) c,d[b]? =some c->eg e f c (a.getD b Go.undef)
theorem fI.ext{c d:af Obj}{f g:Mu}{e:List T}{a:List am}(b:fI c f e a)(k:Ext c f d g):fI d g e a:=
 ⟨b.1,λi j h=>(b.2 i j h).ext k⟩
theorem fI.nil{b:af Obj}{c:Mu}:fI b c [] []:=⟨rfl,λd e a=>by simp at a⟩
theorem fI.cons{b:af Obj}{d:Mu}{h:T}{e:am}{i:List T}{f:List am}(j:eg b d h e)(g:fI b d i f):fI b d (h::i) (e::f):=by
 refine⟨by simp[g.1],λc k a=> ?_⟩
 cases c with
 |zero=>simp at a;subst a;simpa using j
 |succ c=>simp at a;simpa using g.2 c k a
theorem fI.ll{d:af Obj}{f:Mu}{e:T}{g:List T}{c:List am}(h:fI d f (e::g) c):∃a b,c=a::b/\eg d f e a/\fI d f g b:=by
 obtain⟨hl,hr⟩:=h
 cases c with
 |nil=>simp at hl
 |cons a b=>exact⟨a,b,rfl,by simpa using hr 0 e (by simp),by simpa using hl,λj k i=>by simpa using hr (j+1) k (by simpa using i)⟩
theorem fI.append{c:af Obj}{d:Mu}{a g:List T}{b e:List am}(f:fI c d a b)(h:fI c d g e):fI c d (a++g) (b++e):=by
 induction a generalizing b with
 |nil=>obtain⟨hl,_⟩:=f;simp at hl;rw[bh hl.symm];simpa using h
 |cons n a k=>obtain⟨l,m,rfl,j,i⟩:=f.ll;exact fI.cons j (k i)
theorem fI.take{e:af Obj}{f:Mu}{a:List T}{c:List am}(d:fI e f a c)(b:Nat):fI e f (a.take b) (c.take b):=by
 induction b generalizing a c with
 |zero=>simpa using fI.nil
 |succ b i=>cases a with
  |nil=>obtain⟨hl,_⟩:=d;simp at hl;rw[bh hl.symm];simpa using fI.nil
  |cons l a=>obtain⟨j,k,rfl,h,g⟩:=d.ll;exact fI.cons h (i g)
theorem fI.drop{e:af Obj}{f:Mu}{a:List T}{c:List am}(d:fI e f a c)(b:Nat):fI e f (a.drop b) (c.drop b):=by
 induction b generalizing a c with
 |zero=>simpa using d
 |succ b h=>cases a with
  |nil=>obtain⟨hl,_⟩:=d;simp at hl;rw[bh hl.symm];simpa using fI.nil
  |cons k a=>obtain⟨i,j,rfl,_,g⟩:=d.ll;simpa using h g
theorem fI.get{f:af Obj}{h:Mu}{b:List T}{a:List am}(d:fI f h b a){k:Nat}{v:T}(g:b[k]? =some v):∃c,a[k]? =some c/\eg f h v c:=by
 have e:k<a.length:=by
  rw[<-d.1]
  rcases aD k b.length with j|i
  ·exact j
  ·simp[aM i]at g
 refine⟨a[k],by simp[e],?_⟩
 simpa[List.getD,e]using d.2 k v g
theorem qq{d:af Obj}{f:Mu}{b:T}{a:am}(c:eg d f b a)(e:b.scalar=true):a.oneCell'=true:=by
 cases c<;>first|rfl|(simp[T.scalar]at e)
theorem eg.cells{p:af Obj}{r:Mu}{b:T}{c:am}(d:eg p r b c)(C:b.fT=true):
 fI p r b.cells c.cells.toList/\(∀e∈b.cells,e.scalar=true)/\∀e∈c.cells.toList,e.oneCell'=true:=by
 have a:∀{b:T} {c:am},eg p r b c->b.scalar=true->b.cells=[b]->c.cells= #[c]->
  fI p r b.cells c.cells.toList/\(∀e∈b.cells,e.scalar=true)/\∀e∈c.cells.toList,e.oneCell'=true:=by
  intro b c d f A j
  rw[A,j]
  refine⟨fI.cons d fI.nil,?_,?_⟩
  ·intro e l;simp at l;rw[l];exact f
  ·intro e l;simp at l;rw[l];exact qq d f
 cases d with
 |agg n s f j hr=>
  have K:fI p r n s.toList:=⟨by simp[f],λm b A=>by simpa[aW,List.getD]using hr m b A⟩
  refine⟨K,j,?_⟩
  intro e O
  have l:e∈s.toList:=O
  obtain⟨m,y,rfl⟩:=List.getElem_of_mem l
  have D:m<n.length:=by simp at y;omega
  have:=hr m n[m] (by simp[D])
  have J:=qq this (j _ (aF D))
  simp at y
  simpa[aW,y]using J
 |undef=>simp[T.fT]at C
 |tuple=>simp[T.fT]at C
 |bool h=>exact a (.bool h) rfl rfl rfl
 |int m R=>exact a (.int m R) rfl rfl rfl
 |str U i=>exact a (.str U i) rfl rfl rfl
 |jz=>exact a .jz rfl rfl rfl
 |ptr h v B P k g i w L=>exact a (.ptr h v B P k g i w L) rfl rfl rfl
 |iT n t off arr q fz z x f j hr=>exact a (.iT n t off arr q fz z x f j hr) rfl rfl rfl
 |mP o g=>exact a (.mP o g) rfl rfl rfl
 |dq G H o t off u V arr q fz z x hl M N f j hr=>exact a (.dq G H o t off u V arr q fz z x hl M N f j hr) rfl rfl rfl
 |fg g u=>exact a (.fg g u) rfl rfl rfl
 |arr h v S Q o k g F i w hl d=>exact a (.arr h v S Q o k g F i w hl d) rfl rfl rfl
 |func I E s f hr=>exact a (.func I E s f hr) rfl rfl rfl
 |j3=>exact a .j3 rfl rfl rfl
 |ka=>exact a .ka rfl rfl rfl
 |iface q b c d=>exact a (.iface q b c d) rfl rfl rfl
 |iter h k g i d=>exact a (.iter h k g i d) rfl rfl rfl
 |map h k B i d=>exact a (.map h k B i d) rfl rfl rfl
 |mL=>exact a .mL rfl rfl rfl
structure xX(hp:af Obj)(μ:Mu)(L:Loc)(rQ:Bool)(dO:List T):Prop where
 row:∃arr t,hp[L.io]? =some (.cells arr t (0,0))/\arr.size=L.cap*L.sz/\fI hp μ (d6 dO) (arr.toList.take (d6 dO).length)
 room:dO.length<=L.cap
 rQ:rQ=true->L.cap=dO.length
 size:∀v∈dO,v.cells.length=L.sz
 scalar:∀v∈d6 dO,v.scalar=true
def aat(c:af Obj)(i:Mu)(j:Loc)(e:List T):Prop:=
 ∃a:af MapEntry,c[j.io]? =some (.map a a.size)/\a.size=e.length/\
  ∀(d:Nat) h,e[d]? =some h->∃f g b,h= .tuple [f,g]/\a[d]? =some b/\b.born=d/\eg c i f b.key/\eg c i g b.val
def aau(c:af Obj)(i:Mu)(g:Loc)(h:List T):Prop:=
 ∃e d f b a,h=[.map e,.int .i64 (.ofNat f),.int .i64 (.ofNat b),.int .i64 (.ofNat a)]/\eg c i (.map e) (.map (some d))/\b<=a/\
  c[g.io]? =some (.mapIter (some d) b (Array.range f) a)
structure pQ(hp:af Obj)(μ:Mu)(L:Loc)(x:iE):Prop where
 ep:x.ep=L.ep
 sz:x.sz=L.sz
 plain:x.it=false->xX hp μ L x.exact x.dO
 iter:x.it=true->x.ep=0/\((∃s pos,x.dO=[.str s,.int .i64 (.ofNat pos)]/\(∀c∈s,c<256)/\hp[L.io]? =some (.stringIter (bytesOf s) pos))\/aat hp μ L x.dO\/aau hp μ L x.dO)
structure St(cx:Ctx)(base:Nat)(hp:af Obj)(μ:Mu)(h:H):Prop where
 wf:h.ec.length=h.size
 fit:base<=hp.size
 box:∀b L,μ b=some L->∃x,h.get b=some x/\pQ hp μ L x
 inj:∀b b' L L',μ b=some L->μ b'=some L'->L.io=L'.io->b=b'
 low:∀b L,μ b=some L->base<=L.io
 apart:∀b L,μ b=some L->¬μ.mH L.io
 pM:∀i,μ.mH i->i<hp.size
 xz:∀g cs,cx.gl g=some cs->eg hp μ (.iT cs) (.pointer (some ⟨g,0,none⟩))
theorem xX.ext{c d:af Obj}{g h:Mu}{b:Loc}{f:Bool}{e:List T}(a:xX c g b f e)(j:Ext c g d h)(n:d[b.io]? =c[b.io]?):xX d h b f e:=by
 obtain⟨i,o,k,l,m⟩:=a.row
 exact⟨⟨i,o,n.trans k,l,m.ext j⟩,a.room,a.rQ,a.size,a.scalar⟩
theorem pQ.ext{k l:af Obj}{n o:Mu}{e:Loc}{i:iE}(g:pQ k n e i)(f:Ext k n l o)(h:l[e.io]? =k[e.io]?):pQ l o e i:=
 ⟨g.ep,g.sz,λd=>(g.plain d).ext f h,λd=>by
   obtain⟨j,⟨C,m,a,b,c⟩|⟨q,a,b,c⟩|⟨A,z,m,D,p,a,b,c,w⟩⟩:=g.iter d
   ·exact⟨j,.inl ⟨C,m,a,b,h.trans c⟩⟩
   ·refine⟨j,.inr (.inl ⟨q,h.trans a,b,λy i x=> ?_⟩)⟩
    obtain⟨d,E,B,r,s,t,u,v⟩:=c y i x
    exact⟨d,E,B,r,s,t,u.ext f,v.ext f⟩
   ·exact⟨j,.inr (.inr ⟨A,z,m,D,p,a,b.ext f,c,h.trans w⟩)⟩⟩
theorem pQ.lt{e:af Obj}{i:Mu}{b:Loc}{f:iE}(c:pQ e i b f):b.io<e.size:=by
 cases d:f.it with
 |false=>obtain⟨j,m,a,_⟩:=(c.plain d).row;exact ow a
 |true=>
  obtain⟨_,⟨s,l,_,_,g⟩|⟨k,a,_⟩|⟨_,_,_,_,_,_,_,_,h⟩⟩:=c.iter d
  ·exact ow g
  ·exact ow a
  ·exact ow h
theorem St.lt{cx:Ctx}{e:Nat}{c:af Obj}{d:Mu}{f:H}(s:St cx e c d f){b:Nat}{a:Loc}(g:d b=some a):a.io<c.size:=by
 obtain⟨i,_,h⟩:=s.box b a g
 exact h.lt
section
variable {P:ai}{cx:Ctx}
structure tW(P:ai)(t:ab)(ty:Ty):Prop where
 is:∃cmp,Tq P t cmp=some ty
theorem jb{a:Nat}(b:a<256):(UInt8.ofNat a).toNat=a:=by
 simp[UInt8.toNat_ofNat'];omega
theorem Li(a:List UInt8):yN a=some (a.map UInt8.toNat):=by
 induction a with
 |nil=>rfl
 |cons d a b=>
  show(dB (fF d.toNat) λe=>dB (yN a) λc=>some (e::c))=_
  rw[b];simp
theorem wg(a:ByteArray):bytesOf (a.data.toList.map UInt8.toNat)=a:=by
 unfold bytesOf
 rw[cG]
 have:(UInt8.ofNat∘UInt8.toNat)=id:=by funext b;simp
 rw[this];simp
theorem eg.ml{hp:af Obj}{μ:Mu}{d:am}{b:T}(a:ml d=some b):eg hp μ b d/\b.scalar=true:=by
 unfold TI.ml at a
 split at a
 ·simp at a;subst a;exact⟨.bool _,rfl⟩
 ·simp at a;subst a;exact⟨.int _ _,rfl⟩
 ·rename_i f
  rw[Li]at a
  simp at a;subst a
  refine⟨?_,rfl⟩
  have:=eg.str (hp:=hp) (μ:=μ) (f.data.toList.map UInt8.toNat) (by intro g c;simp at c;obtain⟨e,_,rfl⟩:=c;exact e.toNat_lt)
  rwa[wg]at this
 ·simp at a;subst a;exact⟨.jz,rfl⟩
 ·simp at a;subst a;exact⟨.mL,rfl⟩
 ·simp at a;subst a;exact⟨.mP _ _,rfl⟩
 ·simp at a;subst a;exact⟨.j3,rfl⟩
 ·simp at a;subst a;exact⟨.ka,rfl⟩
 ·simp at a
theorem fI.rn{hp:af Obj}{μ:Mu}{d:List am}{g:List T}(k:eK TI.ml d=some g):fI hp μ g d/\∀i∈g,i.scalar=true:=by
 obtain⟨hl,j⟩:=qF.1 k
 refine⟨⟨hl.symm,λb i f=> ?_⟩,λi f=> ?_⟩
 ·have e:b<d.length:=by
   rcases aD b g.length with a|a
   ·omega
   ·simp[aM a]at f
  obtain⟨m,c,h⟩:=j b d[b] (by simp[e])
  rw[f]at c;simp at c;subst c
  simpa[List.getD,e]using(eg.ml h).1
 ·obtain⟨b,e,rfl⟩:=List.getElem_of_mem f
  have l:b<d.length:=by omega
  obtain⟨m,c,h⟩:=j b d[b] (by simp[l])
  simp[e]at c;subst c
  exact(eg.ml (hp:=hp) (μ:=μ) h).2
theorem eg.xS{e:af Obj}{f:Mu}{a:List T}{b:af am}(d:fI e f a b.toList)(g:∀c∈a,c.scalar=true):eg e f (.agg a) (.agg b):=
 .agg a b (by simpa using d.1.symm) g λi c h=>by simpa[aW,List.getD]using d.2 i c h
theorem eg.xo{hp:af Obj}{μ:Mu}{c:am}{d:T}(a:xo c=some d):eg hp μ d c:=by
 unfold TI.xo at a
 split at a
 ·rename_i h
  obtain⟨i,e,b⟩:=dj.1 a
  simp at b;subst b
  obtain⟨f,g⟩:=fI.rn (hp:=hp) (μ:=μ) e
  exact eg.xS f g
 ·exact(eg.ml a).1
theorem tW.unfold{f:ab}{c:Ty}(a:tW P f c):∃b d g,P.info? f=some b/\P.underlying f=some d/\b.zero=some g/\eK ml g.cells.toList=some c.zero/\
 zq P d=some c.u/\rS d g=true/\c.zero.length=b.size/\b.size=c.size/\b.bytes=c.bytes/\
 (c.cmp=true->P.stoodInHeld f=false/\P.eqGuardType P.depth f=false/\Jo d=true):=by
 obtain⟨p,a⟩:=a.is
 unfold Tq at a
 obtain⟨b,j,a⟩:=dj.1 a
 obtain⟨d,k,a⟩:=dj.1 a
 obtain⟨g,l,a⟩:=dj.1 a
 obtain⟨r,m,a⟩:=dj.1 a
 obtain⟨q,n,a⟩:=dj.1 a
 obtain⟨o,a⟩:=dz.1 a
 obtain⟨h,a⟩:=dz.1 a
 obtain⟨e,a⟩:=dz.1 a
 simp at a
 rw[<-a]
 refine⟨b,d,g,j,k,l,m,n,o,?_,rfl,rfl,?_⟩
 ·rw[iX]at h
  exact aC h
 ·intro i
  simp only[]at i
  rw[i]at e
  simp at e
  exact⟨e.1.1,e.1.2,e.2⟩
theorem tW.run_sizeOf{a:ab}{b:Ty}(d:tW P a b)(c:World):(sizeOf a).run P c= .ok b.size c:=by
 obtain⟨h,g,i,e,_,_,_,_,_,_,f,_⟩:=d.unfold
 simp[sizeOf,typeInfo,e,f]
theorem tW.run_typeInfo{c:ab}{b:Ty}(e:tW P c b)(d:World):∃a,(typeInfo c).run P d= .ok a d/\a.bytes=b.bytes/\a.size=b.size:=by
 obtain⟨a,i,j,f,_,_,_,_,_,_,g,h,_⟩:=e.unfold
 exact⟨a,by simp[typeInfo,f],h,g⟩
def aak:TypeDesc->Bool
 | .struct _| .array _ _=>true
 |_=>false
theorem yv{b:TypeDesc}{c:Ty}(a:zq P b=some c.u):c.isAgg=aak b:=by
 unfold Ty.isAgg
 cases b<;>simp only[zq]at a<;>first|(injection a with a;rw[<-a];rfl)|(split at a<;>simp at a;rw[<-a];rfl)
theorem tW.r9{a:ab}{b:Ty}(e:tW P a b)(c:World):(isAgg a).run P c= .ok b.isAgg c:=by
 obtain⟨h,d,i,_,f,_,_,g,_⟩:=e.unfold
 rw[yv g]
 simp only[isAgg,Sem.run_bind,run_underlying f,Result.andThen_ok]
 cases d<;>rfl
theorem tW.zero{s:ab}{a:Ty}(e:tW P s a)(t:World):∃b,(zeroValue s).run P t= .ok b t/\(∀hp μ,eg hp μ a.jI b)/\(∀hp μ,fI hp μ a.zero b.cells.toList)/\
 (∀z∈a.zero,z.scalar=true)/\a.zero.length=a.size/\a.jI.cells=a.zero/\a.jI.fT=true/\b.cells.size=a.size:=by
 obtain⟨H,n,b,u,D,v,f,o,g,E,F,G,_⟩:=e.unfold
 have h:=(fI.rn (hp:= #[]) (μ:=⟨λ_=>none,λ_=>False⟩) f).2
 have l:a.zero.length=b.cells.size:=by
  have:=(fI.rn (hp:= #[]) (μ:=⟨λ_=>none,λ_=>False⟩) f).1.1
  simpa using this
 refine⟨b,by simp[zeroValue,typeInfo,u,v],?_,λhp μ=>(fI.rn f).1,h,by omega,?_⟩
 ·intro hp μ
  have d:=(fI.rn (hp:=hp) (μ:=μ) f).1
  unfold Ty.jI
  rw[yv o]
  cases n with
  |struct C=>cases b with
   |agg m=>exact eg.xS d h
   |_=>simp[rS]at g
  |array I B=>cases b with
   |agg m=>exact eg.xS d h
   |_=>simp[rS]at g
  |_=>
   have i:b.cells= #[b]:=by cases b<;>simp[rS]at g<;>rfl
   rw[i]at d
   obtain⟨hl,_⟩:=d
   simp at hl
   match j:a.zero,hl with
   | [c],_=>
    have d:=(fI.rn (hp:=hp) (μ:=μ) f).1
    rw[i,j]at d
    obtain⟨A,m,q,x,_⟩:=d.ll
    simp at q
    show eg hp μ c b
    rw[q.1];exact x
 ·have p:=yv o
  have w:(a.isAgg=true/\a.jI= .agg a.zero)\/(a.isAgg=false/\∃c,a.zero=[c]/\a.jI=c/\c.scalar=true):=by
   cases k:a.isAgg with
   |true=>left;exact⟨rfl,by unfold Ty.jI;rw[k]⟩
   |false=>
    right
    refine⟨rfl,?_⟩
    have i:b.cells= #[b]:=by
     rw[k]at p
     cases n<;>simp[aak]at p<;>cases b<;>simp[rS]at g<;>rfl
    rw[i]at l
    simp at l
    match j:a.zero,l with
    | [c],_=>exact⟨c,rfl,by unfold Ty.jI;rw[k,j];rfl,h c (by simp[j])⟩
  rcases w with⟨_,e⟩|⟨_,c,y,e,r⟩
  ·rw[e];exact⟨rfl,rfl,by omega⟩
  ·rw[e,y]
   refine⟨?_,?_,by omega⟩
   ·cases c<;>simp[T.scalar]at r<;>rfl
   ·cases c<;>simp[T.scalar]at r<;>rfl
structure iG(P:ai)(cx:Ctx):Prop where
 ty:∀t ty,cx.ty t=some ty->tW P t ty
def jS(d:af Obj)(g:Mu)(e:Nat)(c:Env)(f:af am):Prop:=
 ∀a b,c.get e a=some b->eg d g b (f.getD a Go.undef)
theorem jS.ext{b c:af Obj}{f g:Mu}{d:Nat}{a:Env}{e:af am}(h:jS b f d a e)(l:Ext b f c g):jS c g d a e:=
 λj k i=>(h j k i).ext l
theorem fG{k:Nat}{c:af Obj}{e:Mu}{n:H}{j:Nat}{g:Env}{f:Act}(r:St cx k c e n)(q:jS c e j g f.tmps){d:ah}{a:T}
 (b:eJ cx j g d=some a):eg c e a (f.eval d):=by
 cases d with
 |tmp s=>exact q s a b
 |const t=>exact eg.xo b
 |global m=>
  obtain⟨l,o,i⟩:=dj.1 b
  simp at i;subst i
  exact r.xz m l o
 |func h=>
  have:T.func h []=a:=by simpa[eJ]using b
  subst this
  exact .func h [] #[] rfl λu a p=>by simp at p
theorem uw{i:Nat}{c:af Obj}{e:Mu}{j:H}{h:Nat}{g:Env}{f:Act}(o:St cx i c e j)(n:jS c e h g f.tmps){b:List ah}{d:List T}
 (a:oY cx h g b=some d):fI c e d (b.map f.eval):=by
 induction b generalizing d with
 |nil=>simp[oY]at a;subst a;exact fI.nil
 |cons p b m=>
  unfold oY at a
  rw[jc]at a
  obtain⟨r,k,a⟩:=dj.1 a
  obtain⟨q,l,a⟩:=dj.1 a
  simp at a;subst a
  exact fI.cons (fG o n k) (m l)
end
end
noncomputable section
section inv
variable {hp:af Obj}{μ:Mu}{c:am}
theorem eg.pf{b:Bool}(h:eg hp μ (.bool b) c):c= .bool b:=by cases h;rfl
theorem eg.jr{b:ak}{d:Int}(h:eg hp μ (.int b d) c):c= .int b d:=by cases h;rfl
theorem eg.kR{b:List Nat}(h:eg hp μ (.str b) c):c= .string (bytesOf b)/\∀d∈b,d<256:=by cases h;exact⟨rfl,by assumption⟩
theorem eg.o9(h:eg hp μ .jz c):c= .pointer none:=by cases h;rfl
theorem eg.oJ{f d g i:Nat}(h:eg hp μ (.ptr f d g i) c):∃b a,c= .pointer (some a)/\μ f=some b/\d<=b.ep/\(d=b.ep->a=⟨b.io,g*b.sz+i,none⟩):=by
 cases h with|ptr _ _ _ _ b a k l j=>exact⟨b,a,rfl,k,l,j⟩
theorem eg.kX{f:List T}(h:eg hp μ (.iT f) c):∃d off b i fz,c= .pointer (some ⟨d,off,none⟩)/\¬mG μ d/\hp[d]? =some (.cells b i fz)/\
 off+f.length<=b.size/\(∀g∈f,vJ g)/\∀(j:Nat) g,f[j]? =some g->eg hp μ g (b.getD (off+j) Go.undef):=by
 cases h with|iT _ d off b i fz m l n k hr=>exact⟨d,off,b,i,fz,rfl,m,l,n,k,hr⟩
theorem eg.rD{j g o f:Nat}{i:Bool}(h:eg hp μ (.arr j g o f i) c):∃b a d,c= .slice a f d/\μ j=some b/\g<=b.ep/\f<=d/\
 (g=b.ep->(i=true->d=f)/\(i=false->o+d=b.cap)/\(d≠0->a=some ⟨b.io,o*b.sz,none⟩)):=by
 cases h with|arr _ _ _ _ _ b a d k l hl h=>exact⟨b,a,d,rfl,k,l,hl,h⟩
theorem eg.yx(h:eg hp μ .fg c):∃a b,c= .slice a 0 b:=by cases h;exact⟨_,_,rfl⟩
theorem eg.sN{b:Bool}(h:eg hp μ (.dq [] b) c):∃a,c= .slice a 0 0:=by cases h;exact⟨_,rfl⟩
theorem eg.sO{j:T}{b:List T}{m:Bool}(h:eg hp μ (.dq (j::b) m) c):∃g off i k f l fz,c= .slice (some ⟨g,off,none⟩) (b.length+1) i/\¬mG μ g/\
 hp[g]? =some (.cells f l fz)/\b.length+1<=i/\(m=true->i=b.length+1)/\(∀d∈j::b,d.cells.length=k)/\off+(d6 (j::b)).length<=f.size/\
 (∀d∈d6 (j::b),vJ d)/\∀(n:Nat) d,(d6 (j::b))[n]? =some d->eg hp μ d (f.getD (off+n) Go.undef):=by
 cases h with|dq _ _ _ g off i k f l fz s r hl q u t p hr=>exact⟨g,off,i,k,f,l,fz,rfl,s,r,hl,q,u,t,p,hr⟩
theorem eg.qK{f:aj}{d:List T}(h:eg hp μ (.func f d) c):∃b,c= .func (.func f) #[] b/\fI hp μ d b.toList:=by
 cases h with|func _ _ b g hr=>exact⟨b,rfl,by simpa using g.symm,λj k i=>by simpa[aW,List.getD]using hr j k i⟩
theorem eg.sR(h:eg hp μ .j3 c):c= .nilFunc:=by cases h;rfl
theorem eg.sP(h:eg hp μ .ka c):c= .nilIface:=by cases h;rfl
theorem eg.vn{b:ab}{f:T}(h:eg hp μ (.iface b f) c):∃d,c= .iface b d:=by cases h;exact⟨_,rfl⟩
theorem eg.NF{d:Nat}(h:eg hp μ (.iter d) c):∃b a,c= .pointer (some a)/\μ d=some b/\(b.ep=0->a=⟨b.io,0,none⟩):=by
 cases h with|iter _ b a f h=>exact⟨b,a,rfl,f,h⟩
theorem eg.oK{d:List T}(h:eg hp μ (.agg d) c):∃b,c= .agg b/\fI hp μ d b.toList/\∀f∈d,f.scalar=true:=by
 cases h with|agg _ b i g hr=>exact⟨b,rfl,⟨by simpa using i.symm,λk f j=>by simpa[aW,List.getD]using hr k f j⟩,g⟩
theorem eg.yw{d:List T}(h:eg hp μ (.tuple d) c):∃b,c= .tuple b/\fI hp μ d b.toList:=by
 cases h with|tuple _ b f hr=>exact⟨b,rfl,by simpa using f.symm,λi j g=>by simpa[aW,List.getD]using hr i j g⟩
end inv
section
variable {P:ai}{cx:Ctx}{base:Nat}{w:World}{μ:Mu}{h:H}{mask:Nat}{e:Env}{a:Act}{o:Oper}
def wZ(μ g:Mu)(d f:Nat):Prop:=d<=f/\(∀b,g b≠none->μ b≠none\/(d<=b/\b<f))/\∀b,d<=b->b<f->g b≠none
theorem wZ.refl(μ:Mu)(b:Nat):wZ μ μ b b:=⟨au _,λ_ h=> .inl h,λf g d=>absurd d (by omega)⟩
theorem wZ.trans{hp s t:af Obj}{μ i j:Mu}{k g l:Nat}(h:wZ μ i k g)(d:wZ i j g l)(x:Ext s i t j):wZ μ j k l:=by
 have v:=h.1
 have z:=d.1
 refine⟨aS h.1 d.1,λb f=> ?_,λb f q=> ?_⟩
 ·rcases d.2.1 b f with x|x
  ·rcases h.2.1 b x with y|y
   ·exact .inl y
   ·exact .inr ⟨y.1,by omega⟩
  ·exact .inr ⟨by omega,x.2⟩
 ·by_cases r:b<g
  ·obtain⟨m,n⟩:=Option.ne_none_iff_exists'.1 (h.2.2 b f r)
   obtain⟨u,p,_⟩:=x.mu b m n
   rw[p];simp
  ·exact d.2.2 b (by omega) q
def iM(cx:Ctx)(base:Nat)(w:World)(μ:Mu)(i:Nat)(g:Result Next)(j:T)(f:H):Prop:=
 ∃c b d,(g= .ok (.value c) b\/(g= .ok .skip b/\c=Go.undef))/\eg b.heap d j c/\St cx base b.heap d f/\oI w μ b d/\wZ μ d i f.size
theorem iM.pure{b:Result Next}{d:T}{c:am}(g:St cx base w.heap μ h)(hr:b= .ok (.value c) w)(f:eg w.heap μ d c):iM cx base w μ h.size b d h:=
 ⟨c,w,μ,.inl hr,f,g,oI.refl _ _,wZ.refl _ _⟩
theorem ff{h d:H}{b:aa T}{f:T}:val h b=some (.val f d)↔b=some f/\d=h:=by
 unfold val
 cases b with
 |none=>simp
 |some g=>simp;intro _;exact eq_comm
theorem yR{h:H}{b:aa T}{f:aj}{d:List T}:val h b≠some (.call f d):=by
 unfold val
 cases b<;>simp
theorem zh{d:ah}(g:St cx base w.heap μ h)(l:jS w.heap μ mask e a.tmps)(b:o.op= .move d\/o.op= .assign d){i:T}{f:H}
 (j:Bk d cx mask e h=some (.val i f)):iM cx base w μ h.size ((execOp a.eval o).run P w) i f:=by
 obtain⟨k,rfl⟩:=ff.1 j
 refine iM.pure g ?_ (fG g l k)
 rcases b with b|b<;>simp[execOp,b]
theorem F0{c n p:ah}(d:St cx base w.heap μ h)(i:jS w.heap μ mask e a.tmps)(l:o.op= .pick c n p){m:T}{j:H}
 (b:C1 c n p cx mask e h=some (.val m j)):iM cx base w μ h.size ((execOp a.eval o).run P w) m j:=by
 obtain⟨f,q,b⟩:=dj.1 b
 have r:=fG d i q
 cases f<;>simp at b
 rename_i f
 have k:=r.pf
 cases f with
 |false=>
  obtain⟨g,rfl⟩:=ff.1 b
  exact iM.pure d (by simp[execOp,l,k,asBool]) (fG d i g)
 |true=>
  obtain⟨g,rfl⟩:=ff.1 b
  exact iM.pure d (by simp[execOp,l,k,asBool]) (fG d i g)
theorem zw{l:ah}(g:St cx base w.heap μ h)(p:jS w.heap μ mask e a.tmps)(i:o.op= .nilCheck l){k:T}{j:H}
 (f:qj l cx mask e h=some (.val k j)):iM cx base w μ h.size ((execOp a.eval o).run P w) k j:=by
 obtain⟨m,n,f⟩:=dj.1 f
 have d:=fG g p n
 cases m<;>simp at f
 ·obtain⟨rfl,rfl⟩:=f
  obtain⟨q,r,b,_⟩:=d.oJ
  exact iM.pure g (by simp[execOp,i,b]) (b▸d)
 ·obtain⟨rfl,rfl⟩:=f
  obtain⟨t,off,s,v,fz,b,_⟩:=d.kX
  exact iM.pure g (by simp[execOp,i,b]) (b▸d)
 ·obtain⟨rfl,rfl⟩:=f
  obtain⟨u,b,_⟩:=d.qK
  exact iM.pure g (by simp[execOp,i,b]) (b▸d)
theorem DU(iB:iG P cx){d:ab}{g:ah}(p:St cx base w.heap μ h)(B:jS w.heap μ mask e a.tmps)(x:o.op= .makeInterface d g){f:T}{k:H}
 (b:yD d g cx mask e h=some (.val f k)):iM cx base w μ h.size ((execOp a.eval o).run P w) f k:=by
 obtain⟨q,y,b⟩:=dj.1 b
 obtain⟨F,j,G,C,s,D,E,l,_⟩:=(iB.ty d q y).unfold
 have A:∀{i:H},(dB (eJ cx mask e g) λa=>fy a.fT (val h (some (.iface d a))))=some (.val f i)->(∀n,j≠ .interface n)->iM cx base w μ h.size ((execOp a.eval o).run P w) f i:=by
  intro i b v
  obtain⟨r,t,b⟩:=dj.1 b
  obtain⟨_,b⟩:=dz.1 b
  obtain⟨m,rfl⟩:=ff.1 b
  simp at m;subst m
  refine iM.pure (c:= .iface d (a.eval g)) p ?_ (.iface d r _ (fG p B t))
  simp only[execOp,x,Instr.makeInterface,Sem.run_bind,run_underlying s,Result.andThen_ok]
  cases j<;>first|rfl|exact absurd rfl (v _)
 cases z:q.u<;>rw[z]at b l<;>first|(exact A b (by rintro n rfl;simp[zq]at l))|(simp at b)
theorem F5{j:Fn}{first g:af ah}(m:St cx base w.heap μ h)(t:jS w.heap μ mask e a.tmps)(r:o.op= .makeFunc j first g){f:T}{k:H}
 (b:Bl j first g cx mask e h=some (.val f k)):iM cx base w μ h.size ((execOp a.eval o).run P w) f k:=by
 unfold Bl at b
 split at b
 ·rename_i i
  split at b
  ·rename_i q
   obtain⟨n,p,b⟩:=dj.1 b
   obtain⟨d,rfl⟩:=ff.1 b
   simp at d;subst d
   have l:=uw m t p
   refine iM.pure (c:= .func (.func i) #[] (g.map a.eval)) m ?_ (.func i n _ (by simpa using l.1.symm) λs f d=> ?_)
   ·have:first= #[]:=by cases first;simpa using q
    simp[execOp,r,Instr.makeFunc,this]
   ·have:=l.2 s f d
    simpa[aW,List.getD]using this
  ·simp at b
 ·simp at b
theorem Bm{k:ah}{g:Nat}(i:St cx base w.heap μ h)(u:jS w.heap μ mask e a.tmps)(r:o.op= .extract k g){j:T}{d:H}
 (b:sS k g cx mask e h=some (.val j d)):iM cx base w μ h.size ((execOp a.eval o).run P w) j d:=by
 obtain⟨l,n,b⟩:=dj.1 b
 have p:=fG i u n
 cases l<;>simp at b
 obtain⟨t,rfl⟩:=ff.1 b
 obtain⟨v,s,m⟩:=p.yw
 obtain⟨c,f,q⟩:=m.get t
 exact iM.pure i (by simp only[execOp,r,s,Instr.extract];simp at f;simp[f]) q
end
end
noncomputable section
section
variable {P:ai}{cx:Ctx}{base:Nat}{w:World}{μ:Mu}{h:H}{mask:Nat}{e:Env}{a:Act}{o:Oper}{hp:af Obj}
theorem tN{j k i:T}{f:ak->Int->Int->aa T}(h:vz j k f=some i):∃b c d,j= .int b c/\k= .int b d/\f b c d=some i:=by
 unfold vz at h
 split at h
 ·rename_i b c
  split at h
  ·rename_i m d
   obtain⟨g,l⟩:=dz.1 h
   rw[wM]at g;subst g
   exact⟨b,c,d,rfl,rfl,l⟩
  ·simp at h
 ·simp at h
theorem uo{j k i:T}{g:ak->Int->Nat->aa T}(h:x7 j k g=some i):∃c d f b,j= .int c d/\k= .int f (.ofNat b)/\g c d (min b c.bits)=some i:=by
 unfold x7 at h
 split at h
 ·rename_i c d
  split at h
  ·rename_i f b
   cases b with
   |ofNat b=>exact⟨c,d,f,b,rfl,rfl,h⟩
   |negSucc b=>simp at h
  ·simp at h
 ·simp at h
theorem EE{k l j:T}{m:Int->Int->Bool}{n:List Nat->List Nat->Bool}(h:IB k l m n=some j):
 (∃b c d,k= .int b c/\l= .int b d/\j= .bool (m c d))\/(∃f g,k= .str f/\l= .str g/\j= .bool (n f g)):=by
 unfold IB at h
 split at h
 ·rename_i b c
  split at h
  ·rename_i q d
   obtain⟨p,i⟩:=dz.1 h
   rw[wM]at p;subst p
   rw[qz]at i;simp at i
   exact .inl ⟨b,c,d,rfl,rfl,i.symm⟩
  ·simp at h
 ·rename_i f
  split at h
  ·rename_i g
   rw[qz]at h;simp at h
   exact .inr ⟨f,g,rfl,rfl,h.symm⟩
  ·simp at h
 ·simp at h
theorem nD(b:List Nat):(bytesOf b).toList=b.map UInt8.ofNat:=by
 rw[ByteArray.toList_eq];rfl
theorem jp(b:List Nat):(bytesOf b).size=b.length:=by simp[bytesOf,ByteArray.size]
theorem ofNat_inj{b c:Nat}(d:b<256)(f:c<256)(h:UInt8.ofNat b=UInt8.ofNat c):b=c:=by
 have:=bO UInt8.toNat h
 rwa[jb d,jb f]at this
theorem Ce{c b:List Nat}(i:∀d∈c,d<256)(ht:∀d∈b,d<256)(h:c.map UInt8.ofNat=b.map UInt8.ofNat):c=b:=by
 induction c generalizing b with
 |nil=>cases b with
  |nil=>rfl
  |cons j b=>simp at h
 |cons d c k=>cases b with
  |nil=>simp at h
  |cons j b=>
   simp only[aU,aK]at h
   rw[ofNat_inj (i d (by simp)) (ht j (by simp)) h.1,k (λg f=>i g (by simp[f])) (λg f=>ht g (by simp[f])) h.2]
theorem xF{b c:List Nat}(f:∀d∈b,d<256)(ht:∀d∈c,d<256):((bytesOf b).toList==(bytesOf c).toList)=SW b c:=by
 rw[Er,nD,nD,bF,beq_iff_eq,beq_iff_eq]
 exact⟨Ce f ht,λh=>by rw[h]⟩
theorem A6(b:Nat)(d:List Nat)(c:Nat)(f:List Nat):Pb (b::d) (c::f)=(decide (b<c)||(b==c&&Pb d f)):=by
 show @Bool.rec (λ_=>Bool) (@Bool.rec (λ_=>Bool) false (Pb d f) (Nat.beq b c)) true (Nat.blt b c)=_
 have g:Nat.blt b c=decide (b<c):=by rw[bF,aG];simp
 have i:Nat.beq b c=(b==c):=by rw[bF,Nat.beq_eq];simp
 rw[g,i]
 cases decide (b<c)<;>cases (b==c)<;>rfl
theorem xu{d c:List Nat}(j:∀b∈d,b<256)(ht:∀b∈c,b<256):Op.bytesLess (bytesOf d).toList (bytesOf c).toList=Pb d c:=by
 rw[nD,nD]
 induction d generalizing c with
 |nil=>cases c<;>rfl
 |cons b d p=>cases c with
  |nil=>rfl
  |cons f c=>
   have k:=j b (by simp)
   have l:=ht f (by simp)
   rw[A6]
   simp only[aU,Op.bytesLess]
   rw[p (λi g=>j i (by simp[g])) (λi g=>ht i (by simp[g]))]
   have m:(decide (UInt8.ofNat b<UInt8.ofNat f))=decide (b<f):=by
    rw[bF,decide_eq_true_iff,decide_eq_true_iff,UInt8.lt_iff_toNat_lt,jb k,jb l]
   have n:(UInt8.ofNat b==UInt8.ofNat f)=(b==f):=by
    rw[bF,beq_iff_eq,beq_iff_eq]
    exact⟨ofNat_inj k l,λh=>by rw[h]⟩
   rw[m,n]
theorem CT(c b:List Nat):(Pb c b||SW c b)= !Pb b c:=by
 induction c generalizing b with
 |nil=>cases b<;>rfl
 |cons d c m=>cases b with
  |nil=>rfl
  |cons f b=>
   rw[A6,A6,Er,List.cons_beq_cons,<-Er]
   have:=m b
   rcases cO d f with l|j|k
   ·have g:¬f<d:=by omega
    have i:(f==d)=false:=by simp;omega
    simp[l,g,i]
   ·subst j
    simpa using this
   ·have g:¬d<f:=by omega
    have i:(d==f)=false:=by simp;omega
    simp[k,g,i]
theorem BQ(b c:List Nat):bytesOf (b++c)=bytesOf b++bytesOf c:=by
 apply ByteArray.ext
 simp[bytesOf,ByteArray.data_append]
theorem GU{p:BinOp}{i q l:T}{y A:am}(x:ab)(S:p≠ .eql)(U:p≠ .neq)(u:eg hp μ i y)(v:eg hp μ q A)(b:binop p i q=some l):
 ∃j,(binOp p x y A).run P w= .ok j w/\eg hp μ l j:=by
 have fD:∀{t:ak->Int->Int->aa T},vz i q t=some l->
  (∀k d c,t k d c=some l->∃j,(binOp p x (.int k d) (.int k c)).run P w= .ok j w/\eg hp μ l j)->∃j,(binOp p x y A).run P w= .ok j w/\eg hp μ l j:=by
  intro t I R
  obtain⟨k,d,c,rfl,rfl,m⟩:=tN I
  rw[u.jr,v.jr]
  exact R k d c m
 have z:∀{t:Int->Int->Bool} {G:List Nat->List Nat->Bool},IB i q t G=some l->
  (∀k d c,(binOp p x (.int k d) (.int k c)).run P w= .ok (.bool (t d c)) w)->
  (∀f g,(∀i∈f,i<256)->(∀i∈g,i<256)->(binOp p x (.string (bytesOf f)) (.string (bytesOf g))).run P w= .ok (.bool (G f g)) w)->∃j,(binOp p x y A).run P w= .ok j w/\eg hp μ l j:=by
  intro t G I B m
  rcases EE I with⟨k,d,c,rfl,rfl,rfl⟩|⟨f,g,rfl,rfl,rfl⟩
  ·rw[u.jr,v.jr]
   exact⟨_,B k d c,.bool _⟩
  ·obtain⟨E,C⟩:=u.kR
   obtain⟨F,D⟩:=v.kR
   rw[E,F]
   exact⟨_,m f g C D,.bool _⟩
 cases p with
 |eql=>exact absurd rfl S
 |neq=>exact absurd rfl U
 |add=>
  have b:QU i q=some l:=b
  by_cases M:∃f,i= .str f
  ·obtain⟨f,rfl⟩:=M
   by_cases N:∃g,q= .str g
   ·obtain⟨g,rfl⟩:=N
    have b:(dB (Cv f g) λL=>fy (Nat.ble (kc L) 4294967296) (some (T.str L)))=some l:=b
    obtain⟨L,B,b⟩:=dj.1 b
    obtain⟨hl,b⟩:=dz.1 b
    simp at B b;subst B;subst b
    have hl:=bA hl
    rw[iX,aP]at hl
    obtain⟨E,C⟩:=u.kR
    obtain⟨F,D⟩:=v.kR
    rw[E,F]
    refine⟨.string (bytesOf (f++g)),?_,.str _ (by intro j n;rcases List.mem_append.1 n with k|k;exact C j k;exact D j k)⟩
    rw[BQ]
    have Q:¬(((bytesOf f).size+(bytesOf g).size:Nat):Int)>IntKind.i64.max:=by
     rw[jp,jp]
     have:IntKind.i64.max=9223372036854775807:=by decide
     rw[this];omega
    simp only[binOp,Op.stringOp,Q,bm,Sem.run_pure]
   ·exfalso
    unfold QU at b
    cases q<;>first|(simp at b;done)|exact N ⟨_,rfl⟩
  ·have b:vz i q (λk a O=>oS k (a+O))=some l:=by
    unfold QU at b
    cases i<;>first|exact b|exact absurd ⟨_,rfl⟩ M
   refine fD b λk d c h=> ?_
   rw[xf]at h;simp at h;subst h
   exact⟨_,by simp[binOp,Op.intArith],.int _ _⟩
 |sub=>
  refine fD b λk d c h=> ?_
  rw[xf]at h;simp at h;subst h
  exact⟨_,by simp[binOp,Op.intArith],.int _ _⟩
 |mul=>
  refine fD b λk d c h=> ?_
  rw[xf]at h;simp at h;subst h
  exact⟨_,by simp[binOp,Op.intArith],.int _ _⟩
 |quo=>
  refine fD b λk d c h=> ?_
  cases n:Pd c 0 with
  |true=>rw[n]at h;simp at h
  |false=>
   rw[n]at h
   have K:¬c=0:=by rw[wP]at n;simpa using n
   simp only[xf]at h;simp at h;subst h
   exact⟨_,by simp[binOp,Op.intDiv,K],.int _ _⟩
 |rem=>
  refine fD b λk d c h=> ?_
  cases n:Pd c 0 with
  |true=>rw[n]at h;simp at h
  |false=>
   rw[n]at h
   have K:¬c=0:=by rw[wP]at n;simpa using n
   simp only[nM]at h;simp at h;subst h
   exact⟨_,by simp[binOp,Op.intDiv,K],.int _ _⟩
 |and=>
  refine fD b λk d c h=> ?_
  rw[nM]at h;simp only[ar]at h;subst h
  exact⟨_,by simp[binOp,Op.intBits],.int _ _⟩
 |or=>
  refine fD b λk d c h=> ?_
  rw[nM]at h;simp only[ar]at h;subst h
  exact⟨_,by simp[binOp,Op.intBits],.int _ _⟩
 |xor=>
  refine fD b λk d c h=> ?_
  rw[nM]at h;simp only[ar]at h;subst h
  exact⟨_,by simp[binOp,Op.intBits],.int _ _⟩
 |shl=>
  have b:x7 i q (λk a c=>wy k (k.wrap (a*2^c)))=some l:=b
  obtain⟨k,d,V,c,rfl,rfl,m⟩:=uo b
  rw[u.jr,v.jr]
  rw[nM]at m;simp only[ar]at m;subst m
  have J:¬((c:Nat):Int)<0:=by omega
  exact⟨_,by simp[binOp,Op.shift,J],.int _ _⟩
 |shr=>
  have b:x7 i q (λk a c=>wy k (a.fdiv (2^c)))=some l:=b
  obtain⟨k,d,V,c,rfl,rfl,m⟩:=uo b
  rw[u.jr,v.jr]
  rw[nM]at m;simp only[ar]at m;subst m
  have J:¬((c:Nat):Int)<0:=by omega
  exact⟨_,by simp[binOp,Op.shift,J],.int _ _⟩
 |lss=>exact z b (λk d c=>by simp[binOp,Op.intCmp,wJ]) (λf g r s=>by simp only[binOp,Op.stringOp,xu r s,Sem.run_pure])
 |leq=>exact z b (λk d c=>by simp only[binOp,Op.intCmp,wJ,ne_eq,not_true,bm,Sem.run_pure];congr 2;rw[bF];simp) (λf g r s=>by simp only[binOp,Op.stringOp,xu r s,xF r s,Sem.run_pure,CT])
 |gtr=>exact z b (λk d c=>by simp[binOp,Op.intCmp,wJ]) (λf g r s=>by simp only[binOp,Op.stringOp,xu r s,xF r s,Sem.run_pure,CT,Bool.not_not])
 |geq=>exact z b (λk d c=>by simp only[binOp,Op.intCmp,wJ,ne_eq,not_true,bm,Sem.run_pure];congr 2;rw[bF];simp) (λf g r s=>by simp only[binOp,Op.stringOp,xu r s,Sem.run_pure])
 |_=>simp[binop]at b
theorem Co{b:BinOp}{i:ab}{j k:ah}{c d:am}(f:b≠ .eql)(g:b≠ .neq):(eqGuard b i j k c d).run P w= .ok () w:=by
 cases b<;>first|(exact absurd rfl f)|(exact absurd rfl g)|(simp[eqGuard])
theorem Ig{c:BinOp}{k t:ab}{m n:ah}(g:c≠ .eql)(i:c≠ .neq)(d:St cx base w.heap μ h)(j:jS w.heap μ mask e a.tmps)(p:o.op= .binOp c k m n t){l:T}{f:H}
 (b:K4 c m n cx mask e h=some (.val l f)):iM cx base w μ h.size ((execOp a.eval o).run P w) l f:=by
 obtain⟨u,hp,b⟩:=dj.1 b
 obtain⟨v,q,b⟩:=dj.1 b
 obtain⟨r,rfl⟩:=ff.1 b
 obtain⟨x,s,hr⟩:=GU (P:=P) (w:=w) k g i (fG d j hp) (fG d j q) r
 refine iM.pure d ?_ hr
 simp only[execOp,p,Sem.run_bind,Co g i,Result.andThen_ok,s,Sem.run_pure]
theorem K1{d:UnOp}{r:ab}{m:ah}(f:St cx base w.heap μ h)(q:jS w.heap μ mask e a.tmps)(j:o.op= .unOp d r m){l:T}{g:H}
 (c:Zs d m cx mask e h=some (.val l g)):iM cx base w μ h.size ((execOp a.eval o).run P w) l g:=by
 obtain⟨k,hp,c⟩:=dj.1 c
 obtain⟨b,rfl⟩:=ff.1 c
 have i:=fG f q hp
 cases d with
 |neg=>
  cases k<;>simp[unop]at b
  subst b
  exact iM.pure f (by simp[execOp,j,i.jr,Op.unary,Op.intArith]) (.int _ _)
 |not=>
  cases k<;>simp[unop]at b
  rename_i n
  have p:=i.pf
  cases n<;>simp at b<;>subst b<;>exact iM.pure f (by simp[execOp,j,p,Op.unary]) (.bool _)
 |_=>simp[unop]at b
end
end
noncomputable section
section
variable {P:ai}{cx:Ctx}{base:Nat}{w:World}{μ:Mu}{h:H}{mask:Nat}{e:Env}{a:Act}{o:Oper}{hp:af Obj}
theorem ky{c:ab}{d:Ty}(h:tW P c d):∃b,P.underlying c=some b/\zq P b=some d.u:=by
 obtain⟨i,b,j,_,f,_,_,g,_⟩:=h.unfold
 exact⟨b,f,g⟩
theorem uQ{b:TypeDesc}{c:ak}(h:zq P b=some (.int c)):b= .int c:=by
 cases b<;>simp only[zq]at h<;>first|(split at h<;>simp at h;done)|(simp at h;done)|(simp at h;rw[h])
theorem LF{b:TypeDesc}(h:zq P b=some .bool):b= .bool:=by
 cases b<;>simp only[zq]at h<;>first|rfl|(split at h<;>simp at h;done)|(simp at h;done)
theorem rh{b:TypeDesc}(h:zq P b=some .str):b= .string:=by
 cases b<;>simp only[zq]at h<;>first|rfl|(split at h<;>simp at h;done)|(simp at h;done)
theorem kS{b:TypeDesc}{e:ab}(h:zq P b=some (.slice e)):b= .slice e:=by
 cases b<;>simp only[zq]at h<;>first|(split at h<;>simp at h;done)|(simp at h;done)|(simp at h;rw[h])
theorem qd{b:TypeDesc}{c:Nat}{e:ab}(h:zq P b=some (.array c e)):b= .array c e:=by
 cases b<;>simp only[zq]at h<;>first|(split at h<;>simp at h;done)|(simp at h;done)|(simp at h;rw[h.1,h.2])
theorem Ph{b:TypeDesc}{e:ab}(h:zq P b=some (.ptr e)):b= .pointer e:=by
 cases b<;>simp only[zq]at h<;>first|(split at h<;>simp at h;done)|(simp at h;done)|(simp at h;rw[h])
theorem LE{b:TypeDesc}(h:zq P b=some .func):∃c d f,b= .func c d f:=by
 cases b<;>simp only[zq]at h<;>first|(split at h<;>simp at h;done)|(simp at h;done)|exact⟨_,_,_,rfl⟩
theorem Ke{b:TypeDesc}(h:zq P b=some .iface):∃c,b= .interface c:=by
 cases b<;>simp only[zq]at h<;>first|(split at h<;>simp at h;done)|(simp at h;done)|exact⟨_,rfl⟩
theorem wn{f:TypeDesc}{g:List (Nat×ab)}(h:zq P f=some (.struct g)):
 ∃c,f= .struct c/\g=c.toList.map (λb=>(b.offset,b.type))/\∀b∈c.toList,∃d,P.info? b.type=some d/\d.size≠0:=by
 cases f<;>simp only[zq]at h<;>try (simp at h;done)
 rename_i c
 split at h
 ·rename_i j
  simp only[ar,U.struct.injEq]at h
  refine⟨c,rfl,h.symm,λb k=> ?_⟩
  have:=List.all_eq_true.1 j b k
  cases i:P.info? b.type with
  |none=>rw[i]at this;simp at this
  |some d=>rw[i]at this;exact⟨d,rfl,by simpa using this⟩
 ·simp at h
theorem bytes_beq{b c:List Nat}(f:∀d∈b,d<256)(ht:∀d∈c,d<256):(bytesOf b==bytesOf c)=SW b c:=by
 rw[beq_toListBytes,xF f ht]
theorem tP{l:ab}{p:TypeDesc}{t:U}{j g:T}{n s:am}{m:Bool}(d:P.underlying l=some p)(k:zq P p=some t)(i:eg hp μ j n)(f:eg hp μ g s)
 (b:qP t j g=some m) (F:Nat):(Op.equalIn (F+1) l n s).run P w= .ok m w:=by
 unfold qP at b
 split at b
 ·have:=uQ k;subst this
  cases j<;>simp at b
  cases g<;>simp at b
  obtain⟨q,r⟩:=dz.1 b
  rw[wM]at q;subst q
  simp at r;subst r
  rw[i.jr,f.jr]
  simp[Op.equalIn,run_underlying d,wP]
 ·have:=LF k;subst this
  cases j<;>simp at b
  cases g<;>simp at b
  rename_i G I
  rw[i.pf,f.pf]
  cases G<;>cases I<;>simp at b<;>subst b<;>simp[Op.equalIn,run_underlying d]
 ·have:=rh k;subst this
  cases j<;>simp at b
  cases g<;>simp at b
  subst b
  obtain⟨D,y⟩:=i.kR
  obtain⟨E,z⟩:=f.kR
  rw[D,E]
  simp[Op.equalIn,run_underlying d,bytes_beq y z]
 ·have:=Ph k;subst this
  cases j<;>simp at b
  ·rw[i.o9]
   cases g<;>simp at b<;>subst b
   ·rw[f.o9];simp[Op.equalIn,run_underlying d]
   ·obtain⟨u,v,c,_⟩:=f.oJ;rw[c];simp[Op.equalIn,run_underlying d]
   ·obtain⟨A,off,x,l,fz,c,_⟩:=f.kX;rw[c];simp[Op.equalIn,run_underlying d]
  ·obtain⟨u,v,c,_⟩:=i.oJ
   cases g<;>simp at b
   subst b
   rw[f.o9,c];simp[Op.equalIn,run_underlying d]
  ·obtain⟨A,off,x,l,fz,c,_⟩:=i.kX
   cases g<;>simp at b
   subst b
   rw[f.o9,c];simp[Op.equalIn,run_underlying d]
 ·obtain⟨K,L,M,rfl⟩:=LE k
  cases j<;>simp at b
  ·obtain⟨B,c,_⟩:=i.qK
   cases g<;>simp at b
   subst b
   rw[f.sR,c];simp[Op.equalIn,run_underlying d]
  ·rw[i.sR]
   cases g<;>simp at b<;>subst b
   ·obtain⟨B,c,_⟩:=f.qK;rw[c];simp[Op.equalIn,run_underlying d]
   ·rw[f.sR];simp[Op.equalIn,run_underlying d]
 ·obtain⟨J,rfl⟩:=Ke k
  cases j<;>simp at b
  ·rw[i.sP]
   cases g<;>simp at b<;>subst b
   ·rw[f.sP];simp[Op.equalIn,run_underlying d]
   ·obtain⟨C,c⟩:=f.vn;rw[c];simp[Op.equalIn,run_underlying d]
  ·obtain⟨C,c⟩:=i.vn
   cases g<;>simp at b
   subst b
   rw[f.sP,c];simp[Op.equalIn,run_underlying d]
 ·simp at b
theorem Cp(b:Nat×ab)(d:List (Nat×ab))(c:Nat)(j:T)(g:List T)(k:T)(f:List T):eqFields cx (b::d) c (j::g) (k::f)=
 fy (Nat.beq b.1 c) (dB (cx.ty b.2) λi=>fy i.u.plain (dB (qP i.u j k) λl=> @Bool.rec (λ_=>aa Bool) (some false) (eqFields cx d (c+1) g f) l)):=rfl
theorem run_part_plain{g:ab}{b:Ty}(h:tW P g b)(hp:b.u.plain=true){d:af am}{f:Nat}{c:am}(j:d[f]? =some c):(part g d f).run P w= .ok c w:=by
 have i:b.isAgg=false:=by
  unfold Ty.isAgg
  cases k:b.u<;>simp[k,U.plain]at hp<;>rfl
 simp[part,h.r9,i,j]
theorem BB(iB:iG P cx)(t:Nat):∀(m:List Field) (c:Nat) (g i:List T) (j l:af am) (f:Bool),
 fI hp μ g (j.toList.drop c)->fI hp μ i (l.toList.drop c)->(∀d∈m,d.name≠ "_")->eqFields cx (m.map λd=>(d.offset,d.type)) c g i=some f->
 (Op.eqFields (t+1) j l m).run P w= .ok f w:=by
 intro m
 induction m with
 |nil=>
  intro c g i j l f _ _ _ b
  have:f=true:=by simpa[eqFields]using b.symm
  subst this
  simp[Op.eqFields]
 |cons d m Q=>
  intro c g i j l f r s q b
  rw[aU]at b
  cases g with
  |nil=>simp[eqFields]at b
  |cons S g=>cases i with
   |nil=>simp[eqFields]at b
   |cons U i=>
    rw[Cp]at b
    obtain⟨z,b⟩:=dz.1 b
    obtain⟨W,A,b⟩:=dj.1 b
    obtain⟨p,b⟩:=dz.1 b
    obtain⟨R,B,b⟩:=dj.1 b
    have L:d.offset=c:=aC z
    obtain⟨u,C,N⟩:=r.get (k:=0) (v:=S) (by simp)
    obtain⟨x,E,O⟩:=s.get (k:=0) (v:=U) (by simp)
    have D:j[c]? =some u:=by simpa using C
    have G:l[c]? =some x:=by simpa using E
    have n:=iB.ty _ _ A
    obtain⟨V,F,M⟩:=ky n
    have I:=tP (P:=P) (w:=w) F M N O B t
    have K:d.name≠ "_" :=q d (by simp)
    simp only[Op.eqFields,K,ne_eq,not_false_eq_true,aY,Sem.run_bind,L,run_part_plain n p D,run_part_plain n p G,Result.andThen_ok,I]
    cases R with
    |false=>
     have:f=false:=by simpa using b.symm
     subst this
     simp
    |true=>
     simp only[cH,ci,bm]
     refine Q (c+1) g i j l f ?_ ?_ (λy J=>q y (by simp[J])) b
     ·have:=r.drop 1;simpa[List.drop_drop,Nat.add_comm]using this
     ·have:=s.drop 1;simpa[List.drop_drop,Nat.add_comm]using this
theorem Cr{e:ab}{l:Ty}(m:tW P e l)(n:l.u.plain=true)(r:Nat):∀(g d:List T) (f:Nat) (i j:af am) (c:Bool),
 fI hp μ g (i.toList.drop f)->fI hp μ d (j.toList.drop f)->xG l.u g d=some c->(Op.eqItems (r+1) e 1 i j (List.range' f g.length)).run P w= .ok c w:=by
 intro g
 induction g with
 |nil=>
  intro d f i j c _ _ b
  have:c=true:=by
   cases d with
   |nil=>have b:some true=some c:=b;simpa using b.symm
   |cons=>simp[xG]at b
  subst this
  simp[Op.eqItems]
 |cons s g K=>
  intro d f i j c p q b
  cases d with
  |nil=>simp[xG]at b
  |cons t d=>
   have b:(dB (qP l.u s t) λM=> @Bool.rec (λ_=>aa Bool) (some false) (xG l.u g d) M)=some c:=b
   obtain⟨L,z,b⟩:=dj.1 b
   obtain⟨x,A,I⟩:=p.get (k:=0) (v:=s) (by simp)
   obtain⟨y,C,J⟩:=q.get (k:=0) (v:=t) (by simp)
   have B:i[f]? =some x:=by simpa using A
   have E:j[f]? =some y:=by simpa using C
   obtain⟨N,D,G⟩:=ky m
   have F:=tP (P:=P) (w:=w) D G I J z r
   rw[aZ,List.range'_succ]
   simp only[Op.eqItems,Sem.run_bind,Nat.mul_one,run_part_plain m n B,run_part_plain m n E,Result.andThen_ok,F]
   cases L with
   |false=>
    have:c=false:=by simpa using b.symm
    subst this
    simp
   |true=>
    simp only[cH,ci,bm]
    refine K d (f+1) i j c ?_ ?_ b
    ·have:=p.drop 1;simpa[List.drop_drop,Nat.add_comm]using this
    ·have:=q.drop 1;simpa[List.drop_drop,Nat.add_comm]using this
theorem Gs{f:BinOp}{g:ab}{b c:ah}(d:(Region.isConst b||Region.isConst c)=true):(eqGuard f g b c .nilIface .nilIface).run P w= .ok () w:=by
 unfold eqGuard
 cases b<;>cases c<;>simp[Region.isConst]at d<;>simp
theorem C2(iB:iG P cx){neg:Bool}{F:BinOp}{q u:ab}{E x:ah}(g:F=(if neg then BinOp.neq else BinOp.eql))(s:St cx base w.heap μ h)(r:jS w.heap μ mask e a.tmps)
 (b8:o.op= .binOp F q E x u) {v:T} {aN:H} (A:UD neg q E x cx mask e h=some (.val v aN)):iM cx base w μ h.size ((execOp a.eval o).run P w) v aN:=by
 obtain⟨dn,cL,A⟩:=dj.1 A
 obtain⟨G,hp,A⟩:=dj.1 A
 obtain⟨t,I,A⟩:=dj.1 A
 obtain⟨al,A⟩:=dz.1 A
 obtain⟨y,b,A⟩:=dj.1 A
 obtain⟨bk,rfl⟩:=ff.1 A
 have p:=fG s r hp
 have j:=fG s r I
 have cp:=iB.ty _ _ cL
 have bT:v= .bool (if neg then !y else y):=by
  rw[qz]at bk
  cases neg<;>simpa using bk.symm
 subst bT
 have bn:(eqGuard F q E x (a.eval E) (a.eval x)).run P w= .ok () w/\(binOp F q (a.eval E) (a.eval x)).run P w= .ok (.bool (if neg then !y else y)) w:=by
  obtain⟨i,d,z,_,R,_,_,M,_,_,_,_,aX⟩:=cp.unfold
  unfold Lz at b
  split at b
  ·rename_i de ae
   rw[ae]at M
   obtain⟨av,rfl,bX,_⟩:=wn M
   cases G<;>simp at b
   cases t<;>simp at b
   obtain⟨Z,b⟩:=dz.1 b
   obtain⟨O,L,an⟩:=aX Z
   obtain⟨m,f,V,_⟩:=p.oK
   obtain⟨C,e2,W,_⟩:=j.oK
   rw[f,e2]
   refine⟨run_eqGuard_agg w F q E x m C L,?_⟩
   have a7:P.fieldsOf q=av:=by simp[Program.fieldsOf,R]
   have c:(Op.equalIn 10000 q (.agg m) (.agg C)).run P w= .ok y w:=by
    rw[run_equalIn_struct w 9999 q m C (by rw[a7];exact R) O,a7]
    rw[bX]at b
    refine BB iB 9998 av.toList 0 _ _ m C y (by simpa using V) (by simpa using W) ?_ b
    intro Q bN
    have:=List.all_eq_true.1 an Q bN
    simpa using this
   cases neg with
   |false=>simp at g;subst g;rw[run_eql_struct,c];rfl
   |true=>simp at g;subst g;rw[run_neq_struct,c];rfl
  ·rename_i n e ae
   rw[ae]at M
   have bB:=qd M
   subst bB
   cases G<;>simp at b
   cases t<;>simp at b
   obtain⟨Z,b⟩:=dz.1 b
   obtain⟨dm,ce,b⟩:=dj.1 b
   obtain⟨ca,b⟩:=dz.1 b
   obtain⟨cb,b⟩:=dz.1 b
   obtain⟨b7,b⟩:=dz.1 b
   obtain⟨O,L,an⟩:=aX Z
   obtain⟨m,f,V,_⟩:=p.oK
   obtain⟨C,e2,W,_⟩:=j.oK
   rw[f,e2]
   refine⟨run_eqGuard_agg w F q E x m C L,?_⟩
   have bi:=iB.ty _ _ ce
   have c:(Op.equalIn 10000 q (.agg m) (.agg C)).run P w= .ok y w:=by
    obtain⟨dk,dd,ds,a8,_,_,_,_,_,_,di,_⟩:=bi.unfold
    rw[run_equalIn_array w 9999 m C R a8,List.range_eq_range']
    have b9:P.cellsOf e=1:=by
     have:=aC cb
     simp only[Program.cellsOf,a8,cI,Option.getD_some]
     omega
    have b6:=aC b7
    rw[b9,<-b6]
    exact Cr bi ca 9998 _ _ 0 m C y (by simpa using V) (by simpa using W) b
   cases neg with
   |false=>simp at g;subst g;rw[run_eql_struct,c];rfl
   |true=>simp at g;subst g;rw[run_neq_struct,c];rfl
  ·have c:=tP (P:=P) (w:=w) R M p j b 9999
   have B:∀k l:am,(k≠ .nilIface\/l≠ .nilIface)->((∀c7,k≠ .agg c7)\/∀c9,l≠ .agg c9)->(eqGuard F q E x k l).run P w= .ok () w:=by
    intro k l aA aE
    cases neg with
    |false=>
     simp at g;subst g
     cases k<;>cases l<;>first|(simp[eqGuard];done)|(simp at aA;done)|(simp at aE;done)
    |true=>
     simp at g;subst g
     cases k<;>cases l<;>first|(simp[eqGuard];done)|(simp at aA;done)|(simp at aE;done)
   have D:∀k l:am,(∀S cX U c1,(k,l)≠(.int S cX,.int U c1))->(∀c4 c6,(k,l)≠(.string c4,.string c6))->(∀X J Y K,(k,l)≠(.float X J,.float Y K))->(∀X J O Y K L,(k,l)≠(.complex X J O,.complex Y K L))->
    (Op.equalIn 10000 q k l).run P w= .ok y w->(binOp F q k l).run P w= .ok (.bool (if neg then !y else y)) w:=by
    intro k l bp bs bu bv a6
    cases neg with
    |false=>
     simp at g;subst g
     cases k<;>cases l<;>first|(exact absurd rfl (bp _ _ _ _))|(exact absurd rfl (bs _ _))|(exact absurd rfl (bu _ _ _ _))|(exact absurd rfl (bv _ _ _ _ _ _))|(simp[binOp,Op.equal,Op.maxDepth,a6])
    |true=>
     simp at g;subst g
     cases k<;>cases l<;>first|(exact absurd rfl (bp _ _ _ _))|(exact absurd rfl (bs _ _))|(exact absurd rfl (bu _ _ _ _))|(exact absurd rfl (bv _ _ _ _ _ _))|(simp[binOp,Op.equal,Op.maxDepth,a6])
   unfold qP at b
   split at b
   ·cases G<;>simp at b
    cases t<;>simp at b
    obtain⟨S,U⟩:=dz.1 b
    rw[wM]at S;subst S
    simp at U;subst U
    rw[p.jr,j.jr]
    refine⟨B _ _ (.inl (by simp)) (.inl (by simp)),?_⟩
    cases neg<;>simp at g<;>subst g<;>simp[binOp,Op.intCmp,wP,bne]
   ·cases G<;>simp at b
    cases t<;>simp at b
    rw[p.pf,j.pf]at c|-
    exact⟨B _ _ (.inl (by simp)) (.inl (by simp)),D _ _ (by simp) (by simp) (by simp) (by simp) c⟩
   ·cases G<;>simp at b
    cases t<;>simp at b
    subst b
    obtain⟨f,J⟩:=p.kR
    obtain⟨e2,K⟩:=j.kR
    rw[f,e2]
    refine⟨B _ _ (.inl (by simp)) (.inl (by simp)),?_⟩
    cases neg<;>simp at g<;>subst g<;>simp[binOp,Op.stringOp,xF J K]
   ·cases G<;>simp at b
    ·have f:=p.o9
     rw[f]at c|-
     have e2:∃N,a.eval x= .pointer N:=by
      cases t<;>simp at b
      ·exact⟨_,j.o9⟩
      ·obtain⟨_,N,I,_⟩:=j.oJ;exact⟨_,I⟩
      ·obtain⟨_,_,_,_,_,I,_⟩:=j.kX;exact⟨_,I⟩
     obtain⟨N,e2⟩:=e2
     rw[e2]at c|-
     exact⟨B _ _ (.inl (by simp)) (.inl (by simp)),D _ _ (by simp) (by simp) (by simp) (by simp) c⟩
    ·obtain⟨_,N,f,_⟩:=p.oJ
     cases t<;>simp at b
     have e2:=j.o9
     rw[f,e2]at c|-
     exact⟨B _ _ (.inl (by simp)) (.inl (by simp)),D _ _ (by simp) (by simp) (by simp) (by simp) c⟩
    ·obtain⟨_,_,_,_,_,f,_⟩:=p.kX
     cases t<;>simp at b
     have e2:=j.o9
     rw[f,e2]at c|-
     exact⟨B _ _ (.inl (by simp)) (.inl (by simp)),D _ _ (by simp) (by simp) (by simp) (by simp) c⟩
   ·cases G<;>simp at b
    ·obtain⟨m,f,_⟩:=p.qK
     cases t<;>simp at b
     have e2:=j.sR
     rw[f,e2]at c|-
     exact⟨B _ _ (.inl (by simp)) (.inl (by simp)),D _ _ (by simp) (by simp) (by simp) (by simp) c⟩
    ·have f:=p.sR
     have e2:(∃Q ap m,a.eval x= .func Q ap m)\/a.eval x= .nilFunc:=by
      cases t<;>simp at b
      ·obtain⟨m,I,_⟩:=j.qK;exact .inl ⟨_,_,_,I⟩
      ·exact .inr j.sR
     rcases e2 with⟨Q,ap,m,e2⟩|e2
     all_goals
      rw[f,e2]at c|-
      exact⟨B _ _ (.inl (by simp)) (.inl (by simp)),D _ _ (by simp) (by simp) (by simp) (by simp) c⟩
   ·cases G<;>simp at b
    ·have f:=p.sP
     cases t<;>simp at b
     ·have e2:=j.sP
      rw[f,e2]at c|-
      have al:(Region.isConst E||Region.isConst x)=true:=al
      exact⟨Gs al,D _ _ (by simp) (by simp) (by simp) (by simp) c⟩
     ·obtain⟨bz,e2⟩:=j.vn
      rw[f,e2]at c|-
      exact⟨B _ _ (.inr (by simp)) (.inl (by simp)),D _ _ (by simp) (by simp) (by simp) (by simp) c⟩
    ·obtain⟨bz,f⟩:=p.vn
     cases t<;>simp at b
     have e2:=j.sP
     rw[f,e2]at c|-
     exact⟨B _ _ (.inl (by simp)) (.inl (by simp)),D _ _ (by simp) (by simp) (by simp) (by simp) c⟩
   ·simp at b
 refine iM.pure s ?_ (.bool _)
 simp only[execOp,b8,Sem.run_bind,bn.1,Result.andThen_ok,bn.2,Sem.run_pure]
end
end
noncomputable section
section
variable {P:ai}{cx:Ctx}{base:Nat}{w:World}{μ:Mu}{h:H}{mask:Nat}{e:Env}{a:Act}{o:Oper}{hp:af Obj}
theorem kd(b off c:Nat):(⟨b,off,none⟩:Addr).add c=⟨b,off+c,none⟩:=by
 unfold Addr.add;split<;>simp_all
theorem kY(c:T)(b:List T):d6 (c::b)=c.cells++d6 b:=by simp[d6]
theorem mp(a b:List T):d6 (a++b)=d6 a++d6 b:=by simp[d6]
theorem fM{sz:Nat}{b:List T}(d:∀c∈b,c.cells.length=sz):(d6 b).length=b.length*sz:=by
 induction b with
 |nil=>simp[d6]
 |cons i b g=>
  rw[kY,aP,g (λc f=>d c (by simp[f])),d i (by simp),aZ,bU]
  omega
theorem oD{d:Nat}{b:List T}(g:∀f∈b,f.cells.length=d)(c:Nat):(d6 b).drop (c*d)=d6 (b.drop c):=by
 induction c generalizing b with
 |zero=>simp
 |succ c l=>cases b with
  |nil=>simp[d6]
  |cons i b=>
   have k:=g i (by simp)
   rw[kY,bU,Nat.add_comm,<-List.drop_drop]
   have:(i.cells++d6 b).drop d=d6 b:=by rw[<-k];simp
   rw[this,l (λf j=>g f (by simp[j]))]
   rfl
theorem ql{g:Nat}{b:List T}(f:∀d∈b,d.cells.length=g)(c:Nat):(d6 b).take (c*g)=d6 (b.take c):=by
 induction c generalizing b with
 |zero=>simp[d6]
 |succ c k=>cases b with
  |nil=>simp[d6]
  |cons l b=>
   have j:=f l (by simp)
   rw[kY,List.take_succ_cons,kY,<-k (λd i=>f d (by simp[i])),bU,List.take_append,j]
   congr 1
   ·rw[bJ (by omega)]
   ·congr 1;omega
structure rI(hp:af Obj)(μ:Mu)(io off:Nat)(cs:List T):Prop where
 row:∃arr t fz,hp[io]? =some (.cells arr t fz)/\off+cs.length<=arr.size/\∀(k:Nat) v,cs[k]? =some v->eg hp μ v (arr.getD (off+k) Go.undef)
 scalar:∀v∈cs,v.scalar=true
theorem rI.cell{g off:Nat}{c:List T}(n:rI w.heap μ g off c){b:Nat}{d:T}(k:c[b]? =some d):∃i,w.cell? ⟨g,off+b,none⟩=some i/\eg w.heap μ d i:=by
 obtain⟨f,r,fz,l,p,m⟩:=n.row
 have q:b<c.length:=by
  rcases aD b c.length with x|x
  ·exact x
  ·simp[aM x]at k
 have j:off+b<f.size:=by omega
 refine⟨f[off+b],by simp[World.cell?,l,j],?_⟩
 have:=m b d k
 simpa[aW,j]using this
theorem rI.take{d off:Nat}{f:List T}(g:rI hp μ d off f)(m:Nat):rI hp μ d off (f.take m):=by
 obtain⟨i,n,fz,j,p,k⟩:=g.row
 refine⟨⟨i,n,fz,j,by simp;omega,λl c b=>k l c ?_⟩,λc b=>g.scalar c (bG b)⟩
 rw[bK]at b
 split at b
 ·exact b
 ·simp at b
theorem rI.drop{g off:Nat}{d:List T}(i:rI hp μ g off d)(c:Nat)(q:c<=d.length):rI hp μ g (off+c) (d.drop c):=by
 obtain⟨j,n,fz,k,p,l⟩:=i.row
 refine⟨⟨j,n,fz,k,by simp;omega,λm f b=> ?_⟩,λf b=>i.scalar f (bE b)⟩
 rw[bH]at b
 have:=l (c+m) f b
 rwa[<-cD]at this
theorem rI.run_loadCells{g off:Nat}{b:List T}(q:rI w.heap μ g off b):∃i:List am,(loadCells ⟨g,off,none⟩ b.length).run P w= .ok i.toArray w/\fI w.heap μ b i:=by
 obtain⟨d,t,fz,l,r,m⟩:=q.row
 refine⟨(d.toList.drop off).take b.length,?_,?_⟩
 ·have hl:((d.toList.drop off).take b.length).length=b.length:=by simp;omega
  have:=Go.run_loadCells_list (P:=P) w ⟨g,off,none⟩ ((d.toList.drop off).take b.length) (λs k c=>by
   rw[kd]
   rw[bK]at c
   split at c
   ·rw[bH]at c
    simp only[World.cell?,l]
    simpa using c
   ·simp at c)
  rwa[hl]at this
 ·refine⟨by simp;omega,λf k j=> ?_⟩
  have n:f<b.length:=by
   rcases aD f b.length with x|x
   ·exact x
   ·simp[aM x]at j
  have:=m f k j
  have p:off+f<d.size:=by omega
  simpa[List.getD,bK,n,aW,p]using this
theorem xe{s:ab}{c:Ty}{l off:Nat}{f:List T}{k:T}(n:tW P s c)(j:rI w.heap μ l off f)(b:jK c f=some k):
 ∃d,(loadVar s ⟨l,off,none⟩).run P w= .ok d w/\eg w.heap μ k d:=by
 unfold jK at b
 cases i:c.isAgg with
 |true=>
  rw[i]at b
  have b:(dB (takeN c.size f) λj=>some (T.agg j))=some k:=b
  obtain⟨y,g,p⟩:=dj.1 b
  rw[mS]at g
  split at g
  ·rename_i x
   simp at g p;subst g;subst p
   have r:=j.take c.size
   obtain⟨t,q,u⟩:=rI.run_loadCells (P:=P) r
   have v:(f.take c.size).length=c.size:=by simp;omega
   rw[v]at q
   refine⟨.agg t.toArray,?_,eg.xS (by simpa using u) r.scalar⟩
   simp[loadVar,n.r9,i,n.run_sizeOf,q]
  ·simp at g
 |false=>
  rw[i]at b
  have b:kW f 0=some k:=b
  rw[j9]at b
  obtain⟨d,m,hr⟩:=j.cell b
  refine⟨d,?_,hr⟩
  have m:w.cell? ⟨l,off,none⟩=some d:=by simpa using m
  simp[loadVar,n.r9,i,m]
theorem St.rowAt(K:St cx base hp μ h){m q b:Nat}{c:Loc}{f:T}(E:μ m=some c)(d:h.elem m q b=some f):rI hp μ c.io (b*c.sz) f.cells/\f.cells.length=c.sz:=by
 obtain⟨x,F,J⟩:=K.box m c E
 unfold H.elem at d
 rw[F]at d
 obtain⟨O,A,Q,M,v,g⟩:=x
 have d:fy (Nat.beq A q) (@Bool.rec (λ_=>aa T) (kW g b) none v)=some f:=d
 obtain⟨_,d⟩:=dz.1 d
 cases v with
 |true=>simp at d
 |false=>
  have d:g[b]? =some f:=by rw[<-j9];exact d
  have i:=J.plain rfl
  obtain⟨p,L,B,C,D⟩:=i.row
  have u:f∈g:=az d
  have t:=i.size f u
  have s:b<g.length:=by
   rcases aD b g.length with y|y
   ·exact y
   ·simp[aM y]at d
  have N:=fM i.size
  refine⟨⟨⟨p,L,(0,0),B,?_,λl n k=> ?_⟩,λn k=>i.scalar n ?_⟩,t⟩
  ·rw[t,C]
   have:b+1<=c.cap:=by have:=i.room;simp only[]at this;omega
   calc b*c.sz+c.sz=(b+1)*c.sz:=by rw[bU]
    _<=c.cap*c.sz:=aV _ this
  ·have I:l<f.cells.length:=by
    rcases aD l f.cells.length with y|y
    ·exact y
    ·simp[aM y]at k
   have G:(d6 g)[b*c.sz+l]? =some n:=by
    have r:=oD i.size b
    have:g.drop b=f::g.drop (b+1):=by
     rw[aJ s]
     congr 1
     simpa[s]using d
    rw[this,kY]at r
    rw[<-bH,r,bW I]
    exact k
   obtain⟨z,j,hr⟩:=D.get G
   rw[bK]at j
   split at j
   ·have:p[b*c.sz+l]? =some z:=by simpa using j
    rw[aW,this];exact hr
   ·simp at j
  ·exact List.mem_flatMap.2 ⟨f,u,k⟩
theorem St.Qh(s:St cx base hp μ h){d f g:Nat}{c:Loc}{i:T}(n:μ d=some c)(b:h.elem d f g=some i):f=c.ep:=by
 obtain⟨j,p,q⟩:=s.box d c n
 unfold H.elem at b
 rw[p]at b
 obtain⟨u,l,v,t,r,k⟩:=j
 have b:fy (Nat.beq l f) (@Bool.rec (λ_=>aa T) (kW k g) none r)=some i:=b
 obtain⟨m,_⟩:=dz.1 b
 have:=aC m
 have:=q.ep
 simp only[]at this
 omega
theorem A9{t:ab}{u:Ty}{l g:T}{m:am}(r:tW P t u)(s:St cx base w.heap μ h)(p:eg w.heap μ l m)(b:h.load u l=some g):
 ∃f c,m= .pointer (some f)/\(loadVar t f).run P w= .ok c w/\eg w.heap μ g c:=by
 unfold H.load at b
 cases l<;>simp at b
 ·rename_i K N R F
  replace b:=dj.1 b;obtain⟨S,q,b⟩:=b
  replace b:=dj.1 b;obtain⟨M,d,b⟩:=b
  obtain⟨J,f,k,n,_,y⟩:=p.oJ
  have z:=s.Qh n q
  obtain⟨G,O⟩:=s.rowAt n q
  rw[kZ]at d
  split at d
  ·rename_i B
   simp at d;subst d
   obtain⟨c,i,j⟩:=xe r (G.drop F B) b
   exact⟨f,c,k,by rw[y z];exact i,j⟩
  ·simp at d
 ·rename_i L
  obtain⟨x,off,v,I,fz,k,Q,A,C,D,hr⟩:=p.kX
  obtain⟨c,i,j⟩:=xe r ⟨⟨v,I,fz,A,C,hr⟩,(λg E=>(D g E).1)⟩ b
  exact⟨⟨x,off,none⟩,c,k,i,j⟩
theorem F3(iB:iG P cx){f:ab}{i:ah}(c:St cx base w.heap μ h)(q:jS w.heap μ mask e a.tmps)(l:o.op= .load f i){g:T}{d:H}
 (b:F4 f i cx mask e h=some (.val g d)):iM cx base w μ h.size ((execOp a.eval o).run P w) g d:=by
 replace b:=dj.1 b;obtain⟨u,n,b⟩:=b
 replace b:=dj.1 b;obtain⟨t,hp,b⟩:=b
 obtain⟨p,rfl⟩:=ff.1 b
 obtain⟨r,s,m,j,k⟩:=A9 (iB.ty _ _ n) c (fG c q hp) p
 exact iM.pure c (by simp[execOp,l,Instr.loadAt,m,Instr.sureAddr,j]) k
theorem v7(iB:iG P cx){l:ab}{g:Nat}{i:Nat×ab}(b:vq cx l g=some i):∃d c,P.underlying l=some (.struct d)/\d[g]? =some c/\c.offset=i.1/\c.type=i.2/\
 ∃k,P.info? c.type=some k/\k.size≠0:=by
 replace b:=dj.1 b;obtain⟨s,q,b⟩:=b
 obtain⟨t,m,j⟩:=ky (iB.ty _ _ q)
 cases r:s.u<;>rw[r]at b j<;>simp at b
 obtain⟨d,rfl,p,n⟩:=wn j
 subst p
 rw[aT]at b
 cases f:d.toList[g]? with
 |none=>rw[f]at b;simp at b
 |some c=>
  rw[f]at b
  simp at b
  refine⟨d,c,m,by simpa using f,by rw[<-b],by rw[<-b],n c (az f)⟩
theorem yE(iB:iG P cx){t:ab}{n:ah}{p:Nat}(m:St cx base w.heap μ h)(U:jS w.heap μ mask e a.tmps)(N:o.op= .fieldAddr t n p){c:T}{q:H}
 (b:oz t n p cx mask e h=some (.val c q)):iM cx base w μ h.size ((execOp a.eval o).run P w) c q:=by
 replace b:=dj.1 b;obtain⟨l,K,b⟩:=b
 replace b:=dj.1 b;obtain⟨S,hp,b⟩:=b
 obtain⟨Y,Z,A,B,C,ae,i,D,E⟩:=v7 iB K
 have r:=fG m U hp
 have s:∀d:Addr,a.eval n= .pointer (some d)->(execOp a.eval o).run P w= .ok (.value (.pointer (some (d.add l.1)))) w:=by
  intro d g
  simp[execOp,N,Instr.fieldAt,run_underlying A,B,g,Instr.sureAddr,fieldPlace,sizeOf,typeInfo,D,E,C]
 cases S<;>simp at b
 ·rename_i x z Q R
  obtain⟨rfl,rfl⟩:=b
  obtain⟨u,d,g,G,J,F⟩:=r.oJ
  refine iM.pure m (s d g) (.ptr x z Q (R+l.1) u _ G J λI=> ?_)
  rw[F I,kd,cD]
 ·rename_i W
  replace b:=dj.1 b;obtain⟨X,f,b⟩:=b
  simp at b
  obtain⟨rfl,rfl⟩:=b
  obtain⟨y,off,v,V,fz,g,M,L,an,O,hr⟩:=r.kX
  rw[kZ]at f
  split at f
  ·rename_i al
   simp at f;subst f
   refine iM.pure m (s _ g) ?_
   rw[kd]
   refine .iT _ y (off+l.1) v V fz M L (by simp;omega) (λc j=>O c (bE j)) λk c j=> ?_
   rw[bH]at j
   have:=hr _ c j
   rwa[<-cD]at this
  ·simp at f
theorem yY{r:ab}{c:Ty}{f:List T}{i:af am}{off:Nat}{k:T}(m:tW P r c)(q:fI hp μ f (i.toList.drop off))(s:∀n∈f,n.scalar=true)(b:jK c f=some k):
 ∃d,(part r i off).run P w= .ok d w/\eg hp μ k d:=by
 unfold jK at b
 cases j:c.isAgg with
 |true=>
  rw[j]at b
  have b:(dB (takeN c.size f) λu=>some (T.agg u))=some k:=b
  obtain⟨x,g,p⟩:=dj.1 b
  rw[mS]at g
  split at g
  ·rename_i v
   simp at g p;subst g;subst p
   refine⟨.agg (i.extract off (off+c.size)),by simp[part,m.r9,j,m.run_sizeOf],eg.xS ?_ λn t=>s n (bG t)⟩
   have:=q.take c.size
   rw[Array.toList_extract]
   simpa[List.extract_eq_take_drop]using this
  ·simp at g
 |false=>
  rw[j]at b
  have b:kW f 0=some k:=b
  rw[j9]at b
  obtain⟨d,l,hr⟩:=q.get b
  refine⟨d,?_,hr⟩
  have l:i[off]? =some d:=by simpa using l
  simp[part,m.r9,j,l]
theorem DV(iB:iG P cx){j:ab}{d:ah}{f:Nat}(i:St cx base w.heap μ h)(E:jS w.heap μ mask e a.tmps)(x:o.op= .field j d f){k:T}{g:H}
 (b:yF j d f cx mask e h=some (.val k g)):iM cx base w μ h.size ((execOp a.eval o).run P w) k g:=by
 replace b:=dj.1 b;obtain⟨l,v,b⟩:=b
 replace b:=dj.1 b;obtain⟨L,A,b⟩:=b
 replace b:=dj.1 b;obtain⟨D,hp,b⟩:=b
 obtain⟨J,K,m,n,p,q,_⟩:=v7 iB v
 have s:=fG i E hp
 cases D<;>simp at b
 replace b:=dj.1 b;obtain⟨G,c,b⟩:=b
 obtain⟨B,rfl⟩:=ff.1 b
 obtain⟨I,y,r,z⟩:=s.oK
 rw[kZ]at c
 split at c
 ·simp at c;subst c
  obtain⟨F,t,u⟩:=yY (P:=P) (w:=w) (iB.ty _ _ A) (r.drop l.1) (λd C=>z d (bE C)) B
  refine iM.pure i ?_ u
  simp[execOp,x,Instr.field,run_underlying m,n,y,asAgg,p,q,t]
 ·simp at c
theorem mQ{f:T}{g:Nat}(b:mR f=some g):∃c,f= .int c (.ofNat g):=by
 unfold mR at b
 cases f<;>simp at b
 rename_i c d
 cases d with
 |ofNat d=>simp at b;subst b;exact⟨c,rfl⟩
 |negSucc d=>simp at b
theorem DT(iB:iG P cx){G:ab}{p J:ah}(m:St cx base w.heap μ h)(F:jS w.heap μ mask e a.tmps)(B:o.op= .index G p J){I:T}{v:H}
 (b:yC G p J cx mask e h=some (.val I v)):iM cx base w μ h.size ((execOp a.eval o).run P w) I v:=by
 replace b:=dj.1 b;obtain⟨an,Z,b⟩:=b
 replace b:=dj.1 b;obtain⟨E,hp,b⟩:=b
 replace b:=dj.1 b;obtain⟨q,W,b⟩:=b
 replace b:=dj.1 b;obtain⟨f,S,b⟩:=b
 obtain⟨k,U⟩:=mQ S
 obtain⟨d,A,t⟩:=ky (iB.ty _ _ Z)
 have l:=fG m F hp
 have D:=(U▸fG m F W).jr
 cases ae:an.u<;>rw[ae]at b t<;>simp at b
 ·
  have:=rh t;subst this
  cases E<;>simp at b
  rename_i g
  replace b:=dj.1 b;obtain⟨c,x,b⟩:=b
  obtain⟨j,rfl⟩:=ff.1 b
  simp at j;subst j
  obtain⟨r,K⟩:=l.kR
  refine iM.pure (c:= .int .u8 (c:Int)) m ?_ (.int _ _)
  have s:f<g.length:=by
   rcases aD f g.length with z|z
   ·exact z
   ·simp[aM z]at x
  have y:g[f]=c:=by simpa[s]using x
  have Q:c<256:=K c (by rw[<-y];exact aF s)
  have R:(bytesOf g)[f]? =some (UInt8.ofNat c):=by
   have X:f<(bytesOf g).size:=by rw[jp];exact s
   rw[getElem?_pos (bytesOf g) f X]
   congr 1
   show(bytesOf g).data[f]=_
   simp[bytesOf,y]
  simp[execOp,B,Instr.index,D,asIntOf,run_underlying A,r,R,jb Q]
 ·rename_i n aE
  have:=qd t;subst this
  cases E<;>simp at b
  rename_i ap
  replace b:=dj.1 b;obtain⟨al,C,b⟩:=b
  replace b:=dz.1 b;obtain⟨M,b⟩:=b
  replace b:=dj.1 b;obtain⟨av,i,b⟩:=b
  obtain⟨j,rfl⟩:=ff.1 b
  obtain⟨aA,r,L,Y⟩:=l.oK
  rw[kZ]at i
  split at i
  ·simp at i;subst i
   obtain⟨c,N,O⟩:=yY (P:=P) (w:=w) (iB.ty _ _ C) (L.drop (f*al.size)) (λp l=>Y p (bE l)) j
   refine iM.pure m ?_ O
   rw[aG]at M
   have V:¬n<=f:=by omega
   simp[execOp,B,Instr.index,D,asIntOf,run_underlying A,r,V,(iB.ty _ _ C).run_sizeOf,N]
  ·simp at i
end
end
end Go.TI
