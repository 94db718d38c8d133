/- TiBase -/
import Derived.Test.YtdpclhaknmicoaaGreatDoorA0
import Derived.IntWalk
import Derived.Calls
import Derived.Laws.CopyRow
import Derived.Laws.Cells
import Derived.Laws.Entries
import Derived.WalkCall
import Derived.Laws.Strings
import Derived.Lib.Strings
import Derived.Laws.StructEq
import Derived.ChangeKeysEq
import Derived.Great.FillDense
import Derived.Laws.Tables
import Derived.Great.BuildSlice
import Derived.Deep.AppendSrc
import Derived.Laws.AppendOwn
import Derived.Lib.ConvBytes
set_option linter.all false
set_option maxRecDepth 100000
set_option maxHeartbeats 0
namespace Go.TI
abbrev M(n:Int):T:=.int .i64 n
abbrev ed:T:=.fg [] false
abbrev ez(b:Nat):T:=.ptr b 0 0 0
abbrev eg(s v:Nat)(e:List T):jO:=⟨s,0,v,true,false,e⟩
@[simp] abbrev ei(v:iM)(n:Nat)(t:T):Prop:=TI.mB v n=some t
end Go.TI
namespace Go.TI
noncomputable section
section
def iV{b c:Prop}(a:b)(d:b->c:=by intro a;omega):c:=d a
def uC{b c:Prop}(a:b)(d:b->c:=by intro a;simp;omega):c:=d a
def iC{b c:Prop}(a:b)(d:b->c:=by intro a;simpa using a):c:=d a
@[simp]theorem fw {α β:Type} (a:α) (b:α->aa β):Z (some a) b=b a:=rfl
@[simp]theorem ags {α β:Type} (a:α->aa β):Z (none:aa α) a=none:=rfl
theorem eQ{α β:Type}{a:aa α}{c:α->aa β}{d:β}:Z a c=some d↔∃b,a=some b/\c b=some d:=by cases a<;>simp
@[simp]theorem iP {α:Type} (a:aa α):iX true a=a:=rfl
@[simp]theorem RT {α:Type} (a:aa α):iX false a=none:=rfl
theorem fq{α:Type}{a:Bool}{b:aa α}{c:α}:iX a b=some c↔a/\b=some c:=by cases a<;>simp
@[simp]theorem nh {α β d:Type} (a:α) (b:β) (c:α->β->d):two (a,b) c=c a b:=rfl
@[simp]theorem nV {e:Type} (d:Ex) (a:Env) (c:H) (b:Ex->Env->H->e):three (d,a,c) b=b d a c:=rfl
section lists
variable {α β:Type}
@[simp]def m6 (b:List α) (a:Nat):qN b a=b[a]? :=by
 induction b generalizing a with
 |nil=>rfl
 |cons e d c=>cases a with
  |zero=>rfl
  |succ a=>exact(c a).trans Y 
def mv(b:List α)(a:Nat)(c:α):nH b a c=if a<b.length then some (b.set a c)else none:=by
 induction b generalizing a with
 |nil=>rfl
 |cons h d f=>cases a with
  |zero=>rfl
  |succ a=>
   show(Z (nH d a c) λg=>some (h::g))=_;rw[f];by_cases e:a<d.length<;>simp[e]
theorem qB(a:Nat)(b:List α):takeN a b=if a<=b.length then some (b.take a)else none:=by
 induction a generalizing b with
 |zero=>rfl
 |succ a e=>cases b with
  |nil=>rfl
  |cons g c=>
   show(Z (takeN a c) λf=>some (g::f))=_;rw[e];by_cases d:a<=c.length<;>simp[d]
def ox(a:Nat)(b:List α):lJ a b=if a<=b.length then some (b.drop a)else none:=by
 induction a generalizing b with
 |zero=>rfl
 |succ a e=>cases b with
  |nil=>rfl
  |cons f c=>
   show lJ a c=_;rw[e];by_cases d:a<=c.length<;>simp[d]
@[simp]theorem kQ (a:List α):oo a=a.length:=by
 induction a with
 |nil=>rfl
 |cons d c b=>show Nat.succ (oo c)=_;rw[b];rfl
@[simp]theorem sd (a b:List α):D7 a b=some (a++b):=by
 induction a with
 |nil=>rfl
 |cons f d c=>show(Z (D7 d b) λe=>some (f::e))=_;rw[c];rfl
theorem kv(a:α->aa β)(c:α)(b:List α):iN a (c::b)=Z (a c) λe=>Z (iN a b) λd=>some (e::d):=rfl
@[simp]theorem abh (a:α->aa β):iN a []=some []:=rfl
theorem c5{p:Prop}(h:p:=by grind):p:=h
def vI{e:α->aa β}{b:List α}{a:List β}:iN e b=some a↔b.length=a.length/\∀(c:Nat) d,b[c]? =some d->∃f,a[c]? =some f/\e d=some f:=by
 induction b generalizing a with
 |nil=>
  constructor;simp_all;rintro⟨g,_⟩;simp at g;simp[bC g.symm]
 |cons d b k=>
  rw[kv];constructor
  grind [eQ]
  rintro⟨hl,h⟩;rcases a with _|⟨f,a⟩
  grind
  have⟨n,i,j⟩:=h 0 d Y;simp at i;subst i;have:iN e b=some a:=k.2 ⟨by grind,λc l m=>by simpa using h (c+1) l c5⟩;rw[j,this];rfl
@[simp]theorem tK (b:α) (a:Nat):sM b a=List.replicate a b:=by
 induction a with
 |zero=>rfl
 |succ a c=>show b::sM b a=_;rw[c];rfl
@[simp]def C3 (a:α->Bool) (b:List α):D8 a b=b.all a:=by
 induction b with
 |nil=>rfl
 |cons c b e=>
  show @Bool.rec (λ_=>Bool) false (D8 a b) (a c)=_;rw[e];cases d:a c<;>simp[d]
end lists
@[simp]theorem jx (a:Nat):jd a=some a:=by cases a<;>rfl
@[simp]theorem abc (b:Int):Pw b=some b:=by
 cases b with
 |ofNat a=>cases a<;>rfl
 |negSucc a=>cases a<;>rfl
@[simp]def rO (a:ak) (b:Int):Bi a b=some (.int a b):=by simp[Bi]
@[simp]theorem vz (a:Bool):AR a=some (.bool a):=by cases a<;>rfl
@[simp]def BB (a b:ak):(HY a b=true)↔a=b:=by cases a<;>cases b<;>decide
def Bw(c b:Int):PB c b=decide (c<b):=by
 cases c with
 |ofNat d=>cases b with
  |ofNat a=>
   show Nat.blt d a=_;rw[bD,aQ];simp
  |negSucc a=>rfl
 |negSucc d=>cases b with
  |ofNat a=>show true=_;grind
  |negSucc a=>
   show Nat.blt a d=_;rw[bD,aQ];grind
def BH(c b:Int):Wn c b=(c==b):=by
 cases c with
 |ofNat d=>cases b with
  |ofNat a=>
   show Nat.beq d a=_;rw[bD,Nat.beq_eq];grind
  |negSucc a=>rfl
 |negSucc d=>cases b with
  |ofNat a=>rfl
  |negSucc a=>
   show Nat.beq d a=_;rw[bD,Nat.beq_eq];simp
def kZ(c:ak)(d:Int):OX c d=c.wrap d:=by
 cases c<;>try rfl
 cases d with
 |ofNat a=>
  show @Bool.rec (λ_=>Int) (IntKind.i64.wrap (.ofNat a)) (Int.ofNat a) (Nat.ble a 9223372036854775807)=_;cases b:Nat.ble a 9223372036854775807;rfl;have:=bp b;show Int.ofNat a=_;exact(IntWalk.i64_in _ c5).symm
 |negSucc a=>
  show @Bool.rec (λ_=>Int) (IntKind.i64.wrap (.negSucc a)) (Int.negSucc a) (Nat.ble a 9223372036854775807)=_;cases b:Nat.ble a 9223372036854775807;rfl;have:=bp b;show Int.negSucc a=_;exact(IntWalk.i64_in _ J).symm
@[simp]def B7 (a:ak) (b:Int):rN a b=some (.int a (a.wrap b)):=by simp[rN,kZ]
def BF(b a:List Nat):XR b a=(b==a):=by
 induction b generalizing a with
 |nil=>cases a<;>rfl
 |cons c b f=>cases a with
  |nil=>rfl
  |cons d a=>
   show @Bool.rec (λ_=>Bool) false (XR b a) (Nat.beq c d)=_;rw[f];rw[List.cons_beq_cons];cases e:Nat.beq c d;have:(c==d)=false:=by rw[<-dz,beq_iff_eq,<-Nat.beq_eq];simp[e]
   grind
   simp_all
theorem H.get_eq(b:H)(a:Nat):b.get a=if a<b.size then b.iA[b.size-1-a]? else none:=by
 obtain⟨d,f,e⟩:=b;show iX (Nat.blt a d) (qN e _)=_;by_cases c:a<d;have:Nat.blt a d:=by rw[aQ];exact c
 simp[this,c];have:Nat.blt a d=false:=by rw[<-dz,aQ];exact c
 simp[this,c]
def H.Uv(b:Nat->T)(a:H)(c:jO):a.new b c=some (b a.size,⟨a.size+1,a.low,c::a.iA⟩):=by obtain⟨d,f,e⟩:=a;show(Z (jd (Nat.succ d)) λg=>some (b d,(⟨g,f,c::e⟩:H)))=_;simp
def H.zo{b j:H}{a:Nat}{i:jO}:b.put a i=some j↔
 a<b.size/\b.size-1-a<b.iA.length/\j=⟨b.size,if a<b.low then a else b.low,b.iA.set (b.size-1-a) i⟩:=by
 obtain⟨d,c,l⟩:=b;show iX (Nat.blt a d) (Z (nH l (d-1-a) i) λe=> @Bool.rec (λ_=>aa H) (some (⟨d,c,e⟩:H)) (some ⟨d,a,e⟩) (Nat.blt a c))=_↔_;rw[fq,aQ,mv];constructor;rintro⟨g,m⟩;obtain⟨e,f,k⟩:=eQ.1 m;split at f;rename_i hl;simp at f;subst f;refine⟨g,hl,?_⟩;by_cases h:a<c;have:Nat.blt a c:=by rw[aQ];omega
 rw[this]at k;grind;have:Nat.blt a c=false:=by rw[<-dz,aQ];omega
 rw[this]at k;grind
 grind
 rintro⟨g,hl,rfl⟩;refine⟨g,?_⟩;simp[]at hl;rw[au hl];by_cases h:a<c;have:Nat.blt a c:=by rw[aQ];omega
 simp[this,h];have:Nat.blt a c=false:=by rw[<-dz,aQ];omega
 simp[this,h]
end
structure Loc where
 ep:Nat
 jV:Nat
 cap:Nat
 sz:Nat
structure Mu where
 loc:Nat->aa Loc
 qJ:Nat->Prop
instance :CoeFun Mu (λ_=>Nat->aa Loc):=⟨Mu.loc⟩
def qt(c:Mu)(b:Nat):Prop:=(∃d a,c d=G a/\a.jV=b)\/c.qJ b
def T.scalar:T->Bool
 | .undef| .agg _| .tuple _=>false
 |_=>true
inductive ma:T->Prop where
 |bool (b:Bool):ma (.bool b)
 |int (k:ak) (n:Int):ma (.int k n)
 |str (s:List Nat):ma (.str s)
 |mn:ma .mn
 |kH (cs:List T) (h:∀v∈cs,ma v):ma (.kH cs)
 |fg (es:List T) (full:Bool) (h:∀v∈es,ma v):ma (.fg es full)
 |jf:ma .jf
 |mF:ma .mF
 |mN:ma .mN
 |agg (cs:List T) (h:∀v∈cs,ma v):ma (.agg cs)
def AN(a:T):Prop:=a.scalar=true/\ma a
def iy(a:List T):List T:=a.flatMap T.cells
def bytesOf(a:List Nat):ByteArray:=⟨(a.map UInt8.ofNat).toArray⟩
inductive iz (hp:af Obj) (μ:Mu):T->am->Prop where
 |undef:iz hp μ .undef (.tuple #[])
 |bool (b:Bool):iz hp μ (.bool b) (.bool b)
 |int (k:ak) (n:Int):iz hp μ (.int k n) (.int k n)
 |str (s:List Nat) (h:∀c∈s,c<256):iz hp μ (.str s) (.string (bytesOf s))
 |mn:iz hp μ .mn (.pointer none)
 |ptr (b ep i j:Nat) (L:Loc) (a:Addr) (hb:μ b=G L) (he:ep<=L.ep) (ha:ep=L.ep->a=⟨L.jV,i*L.sz+j,none⟩):
  iz hp μ (.ptr b ep i j) (.pointer (some a))
 |kH (cells:List T) (jV off:Nat) (arr:af am) (t:ab) (fz:Nat×Nat) (hn:¬qt μ jV) (hh:hp[jV]? =G (.cells arr t fz))
  (hs:off+cells.length<=arr.size) (hc:∀v∈cells,AN v)
  (hr:∀(k:Nat) v,cells[k]? =G v->iz hp μ v (arr.getD (off+k) Go.undef)):iz hp μ (.kH cells) (.pointer (some ⟨jV,off,none⟩))
 |qy (full:Bool) (a:aa Addr):iz hp μ (.fg [] full) (.slice a 0 0)
 |fg (e:T) (es:List T) (full:Bool) (jV off cap sz:Nat) (arr:af am) (t:ab) (fz:Nat×Nat) (hn:¬qt μ jV)
  (hh:hp[jV]? =G (.cells arr t fz)) (hl:es.length+1<=cap) (hf:full=true->cap=es.length+1)
  (hu:∀v∈e::es,v.cells.length=sz) (hs:off+(iy (e::es)).length<=arr.size) (hc:∀v∈iy (e::es),AN v)
  (hr:∀(k:Nat) v,(iy (e::es))[k]? =G v->iz hp μ v (arr.getD (off+k) Go.undef)):
  iz hp μ (.fg (e::es) full) (.slice (some ⟨jV,off,none⟩) (es.length+1) cap)
 |jf (a:aa Addr) (cap:Nat):iz hp μ .jf (.slice a 0 cap)
 |arr (b ep o l:Nat) (full:Bool) (L:Loc) (a:aa Addr) (cp:Nat) (hb:μ b=G L) (he:ep<=L.ep) (hl:l<=cp)
  (h:ep=L.ep->(full=true->cp=l)/\(full=false->o+cp=L.cap)/\(cp≠0->a=G ⟨L.jV,o*L.sz,none⟩)):
  iz hp μ (.arr b ep o l full) (.slice a l cp)
 |func (f:aj) (caps:List T) (cs:af am) (hs:cs.size=caps.length)
  (hr:∀(k:Nat) v,caps[k]? =G v->iz hp μ v (cs.getD k Go.undef)):iz hp μ (.func f caps) (.func (.func f) #[] cs)
 |mF:iz hp μ .mF .nilFunc
 |mN:iz hp μ .mN .nilIface
 |iface (t:ab) (v:T) (c:am) (h:iz hp μ v c):iz hp μ (.iface t v) (.iface t c)
 |iter (b:Nat) (L:Loc) (a:Addr) (hb:μ b=G L) (h:L.ep=0->a=⟨L.jV,0,none⟩):iz hp μ (.iter b) (.pointer (some a))
 |map (b:Nat) (L:Loc) (i:Nat) (hb:μ b=G L) (h:L.ep=0->i=L.jV):iz hp μ (.map b) (.map (some i))
 |pV:iz hp μ .pV (.map none)
 |agg (cells:List T) (cs:af am) (hs:cs.size=cells.length) (hc:∀v∈cells,v.scalar=true)
  (hr:∀(k:Nat) v,cells[k]? =G v->iz hp μ v (cs.getD k Go.undef)):iz hp μ (.agg cells) (.agg cs)
 |tuple (vs:List T) (cs:af am) (hs:cs.size=vs.length)
  (hr:∀(k:Nat) v,vs[k]? =G v->iz hp μ v (cs.getD k Go.undef)):iz hp μ (.tuple vs) (.tuple cs)
structure Ext(hp:af Obj)(μ:Mu)(hp':af Obj)(μ':Mu):Prop where
 size:hp.size<=hp'.size
 Bo:∀i,i<hp.size->¬qt μ i->hp'[i]? =hp[i]? /\¬qt μ' i
 mu:∀b L,μ b=G L->∃L',μ' b=G L'/\(L'=L\/L.ep<L'.ep)
 qJ:μ'.qJ=μ.qJ
 kept:∀i,i<hp.size->μ.qJ i->hp'[i]? =hp[i]?
structure tH(w:World)(μ:Mu)(w':World)(μ':Mu):Prop where
 ext:Ext w.heap μ w'.heap μ'
 os:w'.os=w.os
 tape:w'.tape=w.tape
 output:w'.output=w.output
def Ext.refl(b:af Obj)(c:Mu):Ext b c b c:=⟨ay _,λ_ _ a=>⟨rfl,a⟩,λ_ d a=>⟨d,a,.inl rfl⟩,rfl,λ_ _ _=>rfl⟩
def Ext.trans{hp g h:af Obj}{i j k:Mu}(c:Ext hp i g j)(f:Ext g j h k):Ext hp i h k:=by
 refine⟨aV c.size f.size,λe d p=>?_,λb l o=>?_,f.qJ.trans c.qJ,λe d hr=>?_⟩
 rotate_right
 rw[f.kept e (bS d c.size) (c.qJ▸hr),c.kept e d hr];have⟨s,q⟩:=c.Bo e d p;have⟨t,v⟩:=f.Bo e (bS d c.size) q
 grind
 have⟨m,n,r1⟩:=c.mu b l o;have⟨r,u,r2⟩:=f.mu b m n
 grind
def tH.refl(a:World)(b:Mu):tH a b a b:=⟨Ext.refl _ _,rfl,rfl,rfl⟩
def tH.trans{e w1 f:World}{g h i:Mu}(c:tH e g w1 h)(d:tH w1 h f i):tH e g f i:=
 ⟨c.ext.trans d.ext,d.os.trans c.os,d.tape.trans c.tape,d.output.trans c.output⟩
def Gy{a:af Obj}{b:Nat}{c:Obj}(d:a[b]? =G c):b<a.size:=by grind
def iz.ext{A B:af Obj}{C D:Mu}{t:T}{s:am}(i:iz A C t s)(j:Ext A C B D):iz B D t s:=by
 induction i with
 |undef=>exact .undef
 |bool a=>exact .bool a
 |int P p=>exact .int P p
 |str U i=>exact .str U i
 |mn=>exact .mn
 |ptr a x z O e c g K X=>
  have⟨f,h,r⟩:=j.mu a e g;refine .ptr a x z O f c h ?_ ?_;rcases r with rfl|r<;>omega
  grind
 |kH v k off arr q fz y o d n _ b=>
  have⟨w,p⟩:=j.Bo k (Gy o) y;exact .kH v k off arr q fz p (w.trans o) d n b
 |qy m c=>exact .qy m c
 |fg w H m k off u V arr q fz y o hl L N d n _ b=>
  have⟨S,p⟩:=j.Bo k (Gy o) y;exact .fg w H m k off u V arr q fz p (S.trans o) hl L N d n b
 |jf c u=>exact .jf c u
 |arr a x R Q m e c F g K hl i=>
  have⟨f,h,r⟩:=j.mu a e g;refine .arr a x R Q m f c F h ?_ hl ?_;rcases r with rfl|r<;>omega
  grind
 |func I E l d _ b=>exact .func I E l d b
 |mF=>exact .mF
 |mN=>exact .mN
 |iface q t s _ b=>exact .iface q t s b
 |iter a e c g i=>
  have⟨f,h,r⟩:=j.mu a e g;refine .iter a f c h ?_
  grind
 |map a e z g i=>
  have⟨f,h,r⟩:=j.mu a e g;refine .map a f z h ?_
  grind
 |pV=>exact .pV
 |agg v l d n _ b=>exact .agg v l d n b
 |tuple W l d _ b=>exact .tuple W l d b
def ja(e:af Obj)(f:Mu)(d:List T)(a:List am):Prop:=
 d.length=a.length/\∀(b:Nat) c,d[b]? =G c->iz e f c (a.getD b Go.undef)
def ja.ext{c d:af Obj}{f g:Mu}{e:List T}{a:List am}(b:ja c f e a)(k:Ext c f d g):ja d g e a:=
 ⟨b.1,λi j h=>(b.2 i j h).ext k⟩
theorem ja.nil{a:af Obj}{b:Mu}:ja a b [] []:=⟨rfl,λd e c=>by grind⟩
theorem ja.cons{a:af Obj}{c:Mu}{h:T}{d:am}{i:List T}{e:List am}(k:iz a c h d)(f:ja a c i e):ja a c (h::i) (d::e):=by
 refine⟨by simp[f.1],λb j g=>?_⟩;rcases b with _|b
 grind
 simp at g;simpa using f.2 b j g
def ja.oK{d:af Obj}{f:Mu}{e:T}{g:List T}{c:List am}(h:ja d f (e::g) c):∃a b,c=a::b/\iz d f e a/\ja d f g b:=by
 obtain⟨hl,hr⟩:=h;rcases c with _|⟨a,b⟩
 grind
 exact⟨a,b,rfl,iC (hr 0 e Y),by grind,λi j k=>iC (hr (i+1) j c5)⟩
theorem ja.append{c:af Obj}{d:Mu}{a g:List T}{b e:List am}(f:ja c d a b)(j:ja c d g e):ja c d (a++g) (b++e):=by
 induction a generalizing b with
 |nil=>obtain⟨hl,_⟩:=f;simp at hl;rw[bC hl.symm];grind
 |cons n a m=>obtain⟨h,i,rfl,l,k⟩:=f.oK;grind [ja.cons]
def ja.take{e:af Obj}{f:Mu}{a:List T}{c:List am}(d:ja e f a c)(b:Nat):ja e f (a.take b) (c.take b):=by
 induction b generalizing a c with
 |zero=>simp[ja.nil]
 |succ b k=>cases a with
  |nil=>obtain⟨hl,_⟩:=d;simp at hl;rw[bC hl.symm];simp[ja.nil]
  |cons l a=>obtain⟨g,h,rfl,j,i⟩:=d.oK;grind [ja.cons]
def ja.drop{e:af Obj}{f:Mu}{a:List T}{c:List am}(d:ja e f a c)(b:Nat):ja e f (a.drop b) (c.drop b):=by
 induction b generalizing a c with
 |zero=>grind
 |succ b j=>cases a with
  |nil=>obtain⟨hl,_⟩:=d;simp at hl;rw[bC hl.symm];simp[ja.nil]
  |cons k a=>obtain⟨g,h,rfl,_,i⟩:=d.oK;grind
def ja.get{d:af Obj}{f:Mu}{e:List T}{a:List am}(c:ja d f e a){k:Nat}{v:T}(h:e[k]? =G v):∃b,a[k]? =G b/\iz d f v b:=by
 have g:k<a.length:=by
  rw[<-c.1]
  grind
 refine⟨a[k],Y,?_⟩;simpa[List.getD,g]using c.2 k v h
theorem vq{d:af Obj}{f:Mu}{b:T}{a:am}(c:iz d f b a)(e:b.scalar):a.oneCell'=true:=by cases c<;>first|rfl|(simp[T.scalar]at e)
theorem iz.cells{o:af Obj}{q:Mu}{b:T}{c:am}(d:iz o q b c)(X:b.je):
 ja o q b.cells c.cells.toList/\(∀h∈b.cells,h.scalar=true)/\∀h∈c.cells.toList,h.oneCell'=true:=by
 have a:∀{b:T} {c:am},iz o q b c->b.scalar->b.cells=[b]->c.cells= #[c]->
  ja o q b.cells c.cells.toList/\(∀h∈b.cells,h.scalar=true)/\∀h∈c.cells.toList,h.oneCell'=true:=by
  intro b c d k z i;rw[z,i]
  grind [ja.nil,ja.cons,vq]
 cases d with
 |agg m r k i hr=>
  have F:ja o q m r.toList:=⟨by grind,λl b z=>by simp_all⟩;refine⟨F,i,?_⟩;intro h O;have N:h∈r.toList:=O;obtain⟨l,Z,rfl⟩:=List.getElem_of_mem N;have K:l<m.length:=by grind
  have:=hr l m[l] Y;have W:=vq this (i _ (aG K));simp_all
 |undef=>grind [T.je]
 |tuple=>grind [T.je]
 |bool f=>exact a (.bool f) rfl rfl rfl
 |int l R=>exact a (.int l R) rfl rfl rfl
 |str U g=>exact a (.str U g) rfl rfl rfl
 |mn=>exact a .mn rfl rfl rfl
 |ptr f u y P j e g v H=>exact a (.ptr f u y P j e g v H) rfl rfl rfl
 |kH m s off arr p fz x w k i hr=>exact a (.kH m s off arr p fz x w k i hr) rfl rfl rfl
 |qy n e=>exact a (.qy n e) rfl rfl rfl
 |fg C D n s off t V arr p fz x w hl I L k i hr=>exact a (.fg C D n s off t V arr p fz x w hl I L k i hr) rfl rfl rfl
 |jf e t=>exact a (.jf e t) rfl rfl rfl
 |arr f u S Q n j e B g v hl d=>exact a (.arr f u S Q n j e B g v hl d) rfl rfl rfl
 |func E A r k hr=>exact a (.func E A r k hr) rfl rfl rfl
 |mF=>exact a .mF rfl rfl rfl
 |mN=>exact a .mN rfl rfl rfl
 |iface p b c d=>exact a (.iface p b c d) rfl rfl rfl
 |iter f j e g d=>exact a (.iter f j e g d) rfl rfl rfl
 |map f j y g d=>exact a (.map f j y g d) rfl rfl rfl
 |pV=>exact a .pV rfl rfl rfl
structure C9(hp:af Obj)(μ:Mu)(L:Loc)(wW:Bool)(im:List T):Prop where
 row:∃arr t,hp[L.jV]? =G (.cells arr t (0,0))/\arr.size=L.cap*L.sz/\ja hp μ (iy im) (arr.toList.take (iy im).length)
 room:im.length<=L.cap
 wW:wW->L.cap=im.length
 size:∀v∈im,v.cells.length=L.sz
 scalar:∀v∈iy im,v.scalar
def MN(c:af Obj)(i:Mu)(j:Loc)(e:List T):Prop:=
 ∃a:af MapEntry,c[j.jV]? =G (.map a a.size)/\a.size=e.length/\
  ∀(d:Nat) h,e[d]? =G h->∃f g b,h= .tuple [f,g]/\a[d]? =G b/\b.born=d/\iz c i f b.key/\iz c i g b.val
def agH(c:af Obj)(i:Mu)(g:Loc)(h:List T):Prop:=
 ∃e d f b a,h=[.map e,.int .i64 (.ofNat f),.int .i64 (.ofNat b),.int .i64 (.ofNat a)]/\iz c i (.map e) (.map (some d))/\b<=a/\
  c[g.jV]? =G (.mapIter (some d) b (Array.range f) a)
structure uQ(hp:af Obj)(μ:Mu)(L:Loc)(x:jO):Prop where
 ep:x.ep=L.ep
 sz:x.sz=L.sz
 plain:x.it=false->C9 hp μ L x.exact x.im
 iter:x.it->x.ep=0/\((∃s pos,x.im=[.str s,.int .i64 (.ofNat pos)]/\(∀c∈s,c<256)/\hp[L.jV]? =G (.stringIter (bytesOf s) pos))\/MN hp μ L x.im\/agH hp μ L x.im)
structure St(cx:Ctx)(base:Nat)(hp:af Obj)(μ:Mu)(h:H):Prop where
 wf:h.iA.length=h.size
 fit:base<=hp.size
 box:∀b L,μ b=G L->∃x,h.get b=G x/\uQ hp μ L x
 inj:∀b b' L L',μ b=G L->μ b'=G L'->L.jV=L'.jV->b=b'
 low:∀b L,μ b=G L->base<=L.jV
 apart:∀b L,μ b=G L->¬μ.qJ L.jV
 uM:∀i,μ.qJ i->i<hp.size
 CH:∀g cs,cx.gl g=G cs->iz hp μ (.kH cs) (.pointer (some ⟨g,0,none⟩))
def C9.ext{c d:af Obj}{g h:Mu}{b:Loc}{f:Bool}{e:List T}(a:C9 c g b f e)(j:Ext c g d h)(n:d[b.jV]? =c[b.jV]?):C9 d h b f e:=by have⟨i,o,k,l,m⟩:=a.row;exact⟨⟨i,o,n.trans k,l,m.ext j⟩,a.room,a.wW,a.size,a.scalar⟩
def uQ.ext{j k:af Obj}{n o:Mu}{b:Loc}{h:jO}(d:uQ j n b h)(c:Ext j n k o)(i:k[b.jV]? =j[b.jV]?):uQ k o b h:=
 ⟨d.ep,d.sz,λa=>(d.plain a).ext c i,λa=>by
   obtain⟨l,⟨E,m,e,f,g⟩|⟨q,e,f,g⟩|⟨A,z,m,C,p,e,f,g,w⟩⟩:=d.iter a
   grind
   refine⟨l,.inr (.inl ⟨q,i.trans e,f,λy h x=>?_⟩)⟩;have⟨a,D,B,r,s,t,u,v⟩:=g y h x;exact⟨a,D,B,r,s,t,u.ext c,v.ext c⟩;exact⟨l,.inr (.inr ⟨A,z,m,C,p,e,f.ext c,g,i.trans w⟩)⟩⟩
def uQ.lt{d:af Obj}{g:Mu}{a:Loc}{e:jO}(b:uQ d g a e):a.jV<d.size:=by
 cases c:e.it;have⟨h,m,f,_⟩:=(b.plain c).row;grind;obtain⟨_,⟨s,l,_,_,j⟩|⟨i,f,_⟩|⟨_,_,_,_,_,_,_,_,k⟩⟩:=b.iter c
 grind
 grind
 grind
def St.lt{cx:Ctx}{e:Nat}{c:af Obj}{d:Mu}{f:H}(s:St cx e c d f){b:Nat}{a:Loc}(g:d b=G a):a.jV<c.size:=by have⟨i,_,h⟩:=s.box b a g;exact h.lt
section
section
variable {P:ai}{cx:Ctx}
structure yx(P:ai)(t:ab)(ty:Ty):Prop where
 is:∃cmp,dW P t cmp=G ty
def lf{a:Nat}(b:a<256):(UInt8.ofNat a).toNat=a:=by simp_all
def RZ(a:List UInt8):D3 a=G (a.map UInt8.toNat):=by
 induction a with
 |nil=>rfl
 |cons d a b=>
  show(Z (jd d.toNat) λe=>Z (D3 a) λc=>some (e::c))=_;rw[b];simp
def A5(a:ByteArray):bytesOf (a.data.toList.map UInt8.toNat)=a:=by
 unfold bytesOf;rw[List.map_map];have:(UInt8.ofNat∘UInt8.toNat)=id:=by funext b;simp
 rw[this];simp
theorem iz.qM{hp:af Obj}{μ:Mu}{d:am}{b:T}(a:qM d=G b):iz hp μ b d/\b.scalar=true:=by
 unfold TI.qM at a;split at a;simp at a;subst a;exact⟨.bool _,rfl⟩;simp at a;subst a;exact⟨.int _ _,rfl⟩;rename_i f;rw[RZ]at a;simp at a;subst a;refine⟨?_,rfl⟩;have:=iz.str (hp:=hp) (μ:=μ) (f.data.toList.map UInt8.toNat) (by intro g c;simp at c;obtain⟨e,_,rfl⟩:=c;exact e.toNat_lt);rwa[A5]at this;simp at a;subst a;exact⟨.mn,rfl⟩;simp at a;subst a;exact⟨.pV,rfl⟩;simp at a;subst a;exact⟨.qy _ _,rfl⟩;simp at a;subst a;exact⟨.mF,rfl⟩;simp at a;subst a;exact⟨.mN,rfl⟩
 grind
theorem ja.wF{hp:af Obj}{μ:Mu}{b:List am}{e:List T}(j:iN TI.qM b=G e):ja hp μ e b/\∀f∈e,f.scalar=true:=by
 have⟨hl,h⟩:=vI.1 j;refine⟨⟨hl.symm,λa f d=>?_⟩,λf d=>?_⟩;have i:a<b.length:=by
  grind
 have⟨k,c,g⟩:=h a b[a] Y;rw[d]at c;grind [iz.qM,List.getD];obtain⟨a,i,rfl⟩:=List.getElem_of_mem d;have l:a<b.length:=J;have⟨k,c,g⟩:=h a b[a] Y;simp[i]at c;subst c;exact(iz.qM (hp:=hp) (μ:=μ) g).2
theorem iz.C4{e:af Obj}{f:Mu}{a:List T}{b:af am}(d:ja e f a b.toList)(g:∀c∈a,c.scalar):iz e f (.agg a) (.agg b):=
 .agg a b (iC d.1.symm) g λi c h=>by simpa[cC,List.getD]using d.2 i c h
def iz.Cz{d:af Obj}{e:Mu}{a:am}{b:T}(c:Cz a=G b):iz d e b a:=by
 unfold TI.Cz at c
 grind [iz.C4,ja.wF,eQ,iz.qM]
def yx.unfold{e:ab}{c:Ty}(a:yx P e c):∃b d f,P.info? e=G b/\P.underlying e=G d/\b.zero=G f/\iN qM f.cells.toList=G c.zero/\
 De P d=G c.u/\wY d f/\c.zero.length=b.size/\b.size=c.size/\b.bytes=c.bytes/\
 (c.cmp->P.stoodInHeld e=false/\P.eqGuardType P.depth e=false/\Pz d=true):=by
 have⟨p,a⟩:=a.is;unfold dW at a;have⟨b,h,a⟩:=eQ.1 a;have⟨d,i,a⟩:=eQ.1 a;have⟨f,j,a⟩:=eQ.1 a;have⟨r,k,a⟩:=eQ.1 a;have⟨q,l,a⟩:=eQ.1 a;have⟨m,a⟩:=fq.1 a;have⟨n,a⟩:=fq.1 a;have⟨o,a⟩:=fq.1 a;simp at a;rw[<-a];refine⟨b,d,f,h,i,j,k,l,m,?_,rfl,rfl,?_⟩;rw[kQ]at n;simp_all;intro g;simp[]at g;rw[g]at o
 grind
def yx.run_sizeOf{a:ab}{b:Ty}(d:yx P a b)(c:World):(sizeOf a).run P c= .ok b.size c:=by have⟨h,g,i,e,_,_,_,_,_,_,f,_⟩:=d.unfold;simp[sizeOf,typeInfo,e,f]
def yx.run_typeInfo{c:ab}{b:Ty}(e:yx P c b)(d:World):∃a,(typeInfo c).run P d= .ok a d/\a.bytes=b.bytes/\a.size=b.size:=by have⟨a,i,j,f,_,_,_,_,_,_,g,h,_⟩:=e.unfold;exact⟨a,by simp[typeInfo,f],h,g⟩
def agw:TypeDesc->Bool
 | .struct _| .array _ _=>true
 |_=>false
def DF{b:TypeDesc}{c:Ty}(a:De P b=G c.u):c.isAgg=agw b:=by unfold Ty.isAgg;cases b<;>simp only[De]at a<;>first|(injection a with a;rw[<-a];rfl)|(split at a<;>simp at a;rw[<-a];rfl)
def yx.w9{a:ab}{b:Ty}(e:yx P a b)(c:World):(isAgg a).run P c= .ok b.isAgg c:=by have⟨h,d,i,_,f,_,_,g,_⟩:=e.unfold;rw[DF g];simp[isAgg,Sem.run_bind,run_underlying f,Result.andThen_ok];cases d<;>rfl
def yx.zero{s:ab}{a:Ty}(e:yx P s a)(t:World):∃b,(zeroValue s).run P t= .ok b t/\(∀hp μ,iz hp μ a.ls b)/\(∀hp μ,ja hp μ a.zero b.cells.toList)/\
 (∀z∈a.zero,z.scalar=true)/\a.zero.length=a.size/\a.ls.cells=a.zero/\a.ls.je/\b.cells.size=a.size:=by
 have⟨I,n,b,u,D,v,f,o,g,E,F,H,_⟩:=e.unfold;have h:=(ja.wF (hp:= #[]) (μ:=⟨λ_=>none,λ_=>False⟩) f).2;have k:a.zero.length=b.cells.size:=by
  have:=(ja.wF (hp:= #[]) (μ:=⟨λ_=>none,λ_=>False⟩) f).1.1;omega
 refine⟨b,by simp[zeroValue,typeInfo,u,v],?_,λhp μ=>(ja.wF f).1,h,J,?_⟩;intro hp μ;have d:=(ja.wF (hp:=hp) (μ:=μ) f).1;unfold Ty.ls;rw[DF o];cases n with
 |struct C=>cases b with
  |agg m=>exact iz.C4 d h
  |_=>simp[wY]at g
 |array K B=>cases b with
  |agg m=>exact iz.C4 d h
  |_=>simp[wY]at g
 |_=>
  have i:b.cells= #[b]:=by cases b<;>simp[wY]at g<;>rfl
  rw[i]at d;obtain⟨hl,_⟩:=d;simp at hl
  match l:a.zero,hl with
  | [c],_=>
   have d:=(ja.wF (hp:=hp) (μ:=μ) f).1;rw[i,l]at d;have⟨A,m,q,x,_⟩:=d.oK;simp at q;show iz hp μ c b;rw[q.1];exact x
 have p:=DF o;have w:(a.isAgg/\a.ls= .agg a.zero)\/(a.isAgg=false/\∃c,a.zero=[c]/\a.ls=c/\c.scalar=true):=by
  cases j:a.isAgg;right;refine⟨rfl,?_⟩;have i:b.cells= #[b]:=by
   rw[j]at p;cases n<;>simp[agw]at p<;>cases b<;>simp[wY]at g<;>rfl
  rw[i]at k;simp at k
  match l:a.zero,k with
  | [c],_=>exact⟨c,rfl,by unfold Ty.ls;rw[j,l];rfl,h c c5⟩
  left;exact⟨rfl,by unfold Ty.ls;rw[j]⟩
 rcases w with⟨_,e⟩|⟨_,c,y,e,r⟩;rw[e];exact⟨rfl,rfl,J⟩;rw[e,y];refine⟨?_,?_,J⟩;cases c<;>simp[T.scalar]at r<;>rfl;cases c<;>simp[T.scalar]at r<;>rfl
structure jR(P:ai)(cx:Ctx):Prop where
 ty:∀t ty,cx.ty t=G ty->yx P t ty
def mo(d:af Obj)(g:Mu)(e:Nat)(c:Env)(f:af am):Prop:=
 ∀a b,c.get e a=G b->iz d g b (f.getD a Go.undef)
def mo.ext{b c:af Obj}{f g:Mu}{d:Nat}{a:Env}{e:af am}(h:mo b f d a e)(l:Ext b f c g):mo c g d a e:=
 λj k i=>(h j k i).ext l
def iU{k:Nat}{c:af Obj}{e:Mu}{n:H}{j:Nat}{g:Env}{f:Act}(q:St cx k c e n)(p:mo c e j g f.tmps){d:ah}{a:T}
 (b:iG cx j g d=G a):iz c e a (f.eval d):=by
 cases d with
 |tmp r=>exact p r a b
 |const s=>exact iz.Cz b
 |global m=>
  have⟨l,o,i⟩:=eQ.1 b;simp at i;subst i;exact q.CH m l o
 |func h=>
  have:T.func h []=a:=by grind [iG]
  subst this;exact .func h [] #[] rfl λu a t=>by grind
def zt{i:Nat}{c:af Obj}{e:Mu}{j:H}{h:Nat}{g:Env}{f:Act}(o:St cx i c e j)(n:mo c e h g f.tmps){b:List ah}{d:List T}
 (a:ud cx h g b=G d):ja c e d (b.map f.eval):=by
 induction b generalizing d with
 |nil=>simp_all[ud,ja.nil]
 |cons p b m=>
  unfold ud at a;rw[kv]at a;have⟨r,k,a⟩:=eQ.1 a;have⟨q,l,a⟩:=eQ.1 a;simp at a;subst a;exact ja.cons (iU o n k) (m l)
end
end
section
section inv
variable {hp:af Obj}{μ:Mu}{c:am}
def iz.ui{b:Bool}(h:iz hp μ (.bool b) c):c= .bool b:=by cases h;rfl
def iz.lq{b:ak}{d:Int}(h:iz hp μ (.int b d) c):c= .int b d:=by cases h;rfl
def iz.m7{b:List Nat}(h:iz hp μ (.str b) c):c= .string (bytesOf b)/\∀d∈b,d<256:=by cases h;grind
def iz.uh(h:iz hp μ .mn c):c= .pointer none:=by cases h;rfl
def iz.tO{f d g i:Nat}(h:iz hp μ (.ptr f d g i) c):∃b a,c= .pointer (some a)/\μ f=G b/\d<=b.ep/\(d=b.ep->a=⟨b.jV,g*b.sz+i,none⟩):=by cases h with|ptr _ _ _ _ b a k l j=>grind
def iz.oq{f:List T}(h:iz hp μ (.kH f) c):∃d off b i fz,c= .pointer (some ⟨d,off,none⟩)/\¬qt μ d/\hp[d]? =G (.cells b i fz)/\
 off+f.length<=b.size/\(∀g∈f,AN g)/\∀(j:Nat) g,f[j]? =G g->iz hp μ g (b.getD (off+j) Go.undef):=by
 cases h with|kH _ d off b i fz m l n k hr=>exact⟨d,off,b,i,fz,rfl,m,l,n,k,hr⟩
def iz.wJ{j g o f:Nat}{i:Bool}(h:iz hp μ (.arr j g o f i) c):∃b a d,c= .slice a f d/\μ j=G b/\g<=b.ep/\f<=d/\
 (g=b.ep->(i->d=f)/\(i=false->o+d=b.cap)/\(d≠0->a=G ⟨b.jV,o*b.sz,none⟩)):=by
 cases h with|arr _ _ _ _ _ b a d k l hl h=>grind
def iz.DH(h:iz hp μ .jf c):∃a b,c= .slice a 0 b:=by cases h;simp
def iz.xF{b:Bool}(h:iz hp μ (.fg [] b) c):∃a,c= .slice a 0 0:=by cases h;simp
def iz.xG{j:T}{b:List T}{m:Bool}(h:iz hp μ (.fg (j::b) m) c):∃g off i k f l fz,c= .slice (some ⟨g,off,none⟩) (b.length+1) i/\¬qt μ g/\
 hp[g]? =G (.cells f l fz)/\b.length+1<=i/\(m->i=b.length+1)/\(∀d∈j::b,d.cells.length=k)/\off+(iy (j::b)).length<=f.size/\
 (∀d∈iy (j::b),AN d)/\∀(n:Nat) d,(iy (j::b))[n]? =G d->iz hp μ d (f.getD (off+n) Go.undef):=by
 cases h with|fg _ _ _ g off i k f l fz s r hl q u t p hr=>exact⟨g,off,i,k,f,l,fz,rfl,s,r,hl,q,u,t,p,hr⟩
def iz.vN{f:aj}{d:List T}(h:iz hp μ (.func f d) c):∃b,c= .func (.func f) #[] b/\ja hp μ d b.toList:=by cases h with|func _ _ b g hr=>exact⟨b,rfl,by grind,λj k i=>by simp_all⟩
def iz.xI(h:iz hp μ .mF c):c= .nilFunc:=by cases h;rfl
def iz.xH(h:iz hp μ .mN c):c= .nilIface:=by cases h;rfl
def iz.Az{b:ab}{f:T}(h:iz hp μ (.iface b f) c):∃d,c= .iface b d:=by cases h;simp
def iz.PE{f:Nat}(h:iz hp μ (.map f) c):∃b d,c= .map (some d)/\μ f=G b/\(b.ep=0->d=b.jV):=by cases h with|map _ b d g h=>grind
def iz.UL(h:iz hp μ .pV c):c= .map none:=by cases h;rfl
def iz.tQ{d:List T}(h:iz hp μ (.agg d) c):∃b,c= .agg b/\ja hp μ d b.toList/\∀f∈d,f.scalar=true:=by cases h with|agg _ b i g hr=>exact⟨b,rfl,⟨by grind,λk f j=>by simp_all⟩,g⟩
def iz.DG{d:List T}(h:iz hp μ (.tuple d) c):∃b,c= .tuple b/\ja hp μ d b.toList:=by cases h with|tuple _ b f hr=>exact⟨b,rfl,by grind,λi j g=>by simp_all⟩
end inv
section
variable {P:ai}{cx:Ctx}{base:Nat}{w:World}{μ:Mu}{h:H}{V:Nat}{e:Env}{a:Act}{o:Oper}
def BT(μ g:Mu)(d f:Nat):Prop:=d<=f/\(∀b,g b≠none->μ b≠none\/(d<=b/\b<f))/\∀b,d<=b->b<f->g b≠none
def BT.refl(μ:Mu)(b:Nat):BT μ μ b b:=⟨ay _,λ_ h=> .inl h,λf g d=>absurd d J⟩
def BT.trans{hp s t:af Obj}{μ i j:Mu}{k g l:Nat}(h:BT μ i k g)(d:BT i j g l)(x:Ext s i t j):BT μ j k l:=by
 have v:=h.1;have z:=d.1;refine⟨aV h.1 d.1,λb f=>?_,λb f q=>?_⟩;rcases d.2.1 b f with x|x;rcases h.2.1 b x with y|y
 grind
 omega;omega;by_cases r:b<g;have⟨m,n⟩:=Option.ne_none_iff_exists'.1 (h.2.2 b f r);have⟨u,p,_⟩:=x.mu b m n;rw[p];simp;exact d.2.2 b J q
def j4(cx:Ctx)(base:Nat)(w:World)(μ:Mu)(i:Nat)(g:Result Next)(j:T)(f:H):Prop:=
 ∃c b d,(g= .ok (.value c) b\/(g= .ok .skip b/\c=Go.undef))/\iz b.heap d j c/\St cx base b.heap d f/\tH w μ b d/\BT μ d i f.size
def j4.pure{b:Result Next}{d:T}{c:am}(g:St cx base w.heap μ h)(hr:b= .ok (.value c) w)(f:iz w.heap μ d c):j4 cx base w μ h.size b d h:=
 ⟨c,w,μ,.inl hr,f,g,tH.refl _ _,BT.refl _ _⟩
theorem iI{h d:H}{b:aa T}{f:T}:val h b=be f d↔b=G f/\d=h:=by
 unfold val;rcases b with _|g
 simp;simp;grind
def Ec{h:H}{b:aa T}{f:aj}{d:List T}:val h b≠some (.call f d):=by unfold val;cases b<;>simp
theorem Ey{d:ah}(g:St cx base w.heap μ h)(l:mo w.heap μ V e a.tmps)(b:o.op= .move d\/o.op= .assign d){i:T}{f:H}
 (j:GQ d cx V e h=be i f):j4 cx base w μ h.size ((execOp a.eval o).run P w) i f:=by
 obtain⟨k,rfl⟩:=iI.1 j;refine j4.pure g ?_ (iU g l k);rcases b with b|b<;>simp[execOp,b]
theorem LY{c n p:ah}(d:St cx base w.heap μ h)(i:mo w.heap μ V e a.tmps)(l:o.op= .pick c n p){m:T}{j:H}
 (b:IV c n p cx V e h=be m j):j4 cx base w μ h.size ((execOp a.eval o).run P w) m j:=by
 obtain⟨f,q,b⟩:=eQ.1 b;cases f<;>simp at b;rename_i f;have k:=(iU d i q).ui;cases f;obtain⟨g,rfl⟩:=iI.1 b;exact j4.pure d (by simp[execOp,l,k,asBool]) (iU d i g);obtain⟨g,rfl⟩:=iI.1 b;exact j4.pure d (by simp[execOp,l,k,asBool]) (iU d i g)
theorem EL{l:ah}(g:St cx base w.heap μ h)(p:mo w.heap μ V e a.tmps)(i:o.op= .nilCheck l){k:T}{j:H}
 (f:vi l cx V e h=be k j):j4 cx base w μ h.size ((execOp a.eval o).run P w) k j:=by
 have⟨m,n,f⟩:=eQ.1 f;have d:=iU g p n;cases m<;>simp at f;obtain⟨rfl,rfl⟩:=f;have⟨q,r,b,_⟩:=d.tO;exact j4.pure g (by simp[execOp,i,b]) (b▸d);obtain⟨rfl,rfl⟩:=f;have⟨t,off,s,v,fz,b,_⟩:=d.oq;exact j4.pure g (by simp[execOp,i,b]) (b▸d);obtain⟨rfl,rfl⟩:=f;have⟨u,b,_⟩:=d.vN;exact j4.pure g (by simp[execOp,i,b]) (b▸d)
theorem JO(j8:jR P cx){d:ab}{g:ah}(p:St cx base w.heap μ h)(B:mo w.heap μ V e a.tmps)(x:o.op= .makeInterface d g){f:T}{k:H}
 (b:DQ d g cx V e h=be f k):j4 cx base w μ h.size ((execOp a.eval o).run P w) f k:=by
 have⟨q,y,b⟩:=eQ.1 b;have⟨F,j,I,C,s,D,E,l,_⟩:=(j8.ty d q y).unfold;have A:∀{i:H},(Z (iG cx V e g) λa=>iX a.je (val h (some (.iface d a))))=be f i->(∀n,j≠ .interface n)->j4 cx base w μ h.size ((execOp a.eval o).run P w) f i:=by
  intro i b v;have⟨r,t,b⟩:=eQ.1 b;have⟨_,b⟩:=fq.1 b;obtain⟨m,rfl⟩:=iI.1 b;simp at m;subst m;refine j4.pure (c:= .iface d (a.eval g)) p ?_ (.iface d r _ (iU p B t));simp only[execOp,x,Instr.makeInterface,Sem.run_bind,run_underlying s,Result.andThen_ok];cases j<;>first|rfl|exact absurd rfl (v _)
 cases z:q.u<;>rw[z]at b l<;>first|(exact A b (by rintro n rfl;simp[De]at l))|grind
theorem L4{j:Fn}{first g:af ah}(m:St cx base w.heap μ h)(s:mo w.heap μ V e a.tmps)(q:o.op= .makeFunc j first g){f:T}{k:H}
 (b:GS j first g cx V e h=be f k):j4 cx base w μ h.size ((execOp a.eval o).run P w) f k:=by
 unfold GS at b;split at b;rename_i i;split at b;rename_i t;obtain⟨n,p,b⟩:=eQ.1 b;obtain⟨d,rfl⟩:=iI.1 b;simp at d;subst d;have l:=zt m s p;refine j4.pure (c:= .func (.func i) #[] (g.map a.eval)) m ?_ (.func i n _ (iC l.1.symm) λr f d=>?_);have:first= #[]:=by grind
 simp[execOp,q,Instr.makeFunc,this];have:=l.2 r f d;simp_all
 grind
 grind
theorem GT{j:ah}{f:Nat}(g:St cx base w.heap μ h)(s:mo w.heap μ V e a.tmps)(p:o.op= .extract j f){i:T}{d:H}
 (b:xK j f cx V e h=be i d):j4 cx base w μ h.size ((execOp a.eval o).run P w) i d:=by
 have⟨k,m,b⟩:=eQ.1 b;cases k<;>simp at b;obtain⟨r,rfl⟩:=iI.1 b;have⟨t,q,l⟩:=(iU g s m).DG;have⟨c,u,n⟩:=l.get r;exact j4.pure g (by simp[execOp,p,q,Instr.extract];simp_all) n
end
end
section
section
variable {P:ai}{cx:Ctx}{base:Nat}{w:World}{μ:Mu}{h:H}{V:Nat}{e:Env}{a:Act}{o:Oper}{hp:af Obj}
def yg{i j g:T}{f:ak->Int->Int->aa T}(h:AK i j f=G g):∃b c d,i= .int b c/\j= .int b d/\f b c d=G g:=by
 unfold AK at h;split at h;rename_i b c;split at h;rename_i m d;obtain⟨k,l⟩:=fq.1 h;rw[BB]at k;grind
 grind
 grind
def yW{j k i:T}{f:ak->Int->Nat->aa T}(h:Dh j k f=G i):∃c d g b,j= .int c d/\k= .int g (.ofNat b)/\f c d (min b c.bits)=G i:=by
 unfold Dh at h;split at h;rename_i c d;split at h;rename_i g b;cases b with
 |ofNat b=>grind
 |negSucc b=>grind
 grind
 grind
def Ke{j k i:T}{l:Int->Int->Bool}{m:List Nat->List Nat->Bool}(h:Ou j k l m=G i):
 (∃b c d,j= .int b c/\k= .int b d/\i= .bool (l c d))\/(∃f g,j= .str f/\k= .str g/\i= .bool (m f g)):=by
 unfold Ou at h;split at h;rename_i b c;split at h;rename_i q d;obtain⟨n,p⟩:=fq.1 h;rw[BB]at n;subst n;rw[vz]at p;grind
 grind
 rename_i f;split at h;rename_i g;rw[vz]at h;grind
 grind
 grind
def rH(b:List Nat):(bytesOf b).toList=b.map UInt8.ofNat:=by rw[ByteArray.toList_eq];rfl
def mJ(b:List Nat):(bytesOf b).size=b.length:=by simp[bytesOf,ByteArray.size]
theorem ofNat_inj{b c:Nat}(d:b<256)(f:c<256)(h:UInt8.ofNat b=UInt8.ofNat c):b=c:=by have:=bE UInt8.toNat h;rwa[lf d,lf f]at this
theorem HU{c b:List Nat}(g:∀d∈c,d<256)(ht:∀d∈b,d<256)(h:c.map UInt8.ofNat=b.map UInt8.ofNat):c=b:=by
 induction c generalizing b with
 |nil=>simp_all
 |cons d c j=>cases b with
  |nil=>grind
  |cons k b=>
   simp[aS,bL]at h;rw[ofNat_inj (g d Y) (ht k Y) h.1,j (λf i=>g f c5) (λf i=>ht f c5) h.2]
def CN{b c:List Nat}(f:∀d∈b,d<256)(ht:∀d∈c,d<256):((bytesOf b).toList==(bytesOf c).toList)=XR b c:=by
 rw[BF,rH,rH,bD,beq_iff_eq,beq_iff_eq]
 grind [HU]
def Gz(b:Nat)(d:List Nat)(c:Nat)(f:List Nat):Wj (b::d) (c::f)=(decide (b<c)||(b==c&&Wj d f)):=by
 show @Bool.rec (λ_=>Bool) (@Bool.rec (λ_=>Bool) false (Wj d f) (Nat.beq b c)) true (Nat.blt b c)=_;have g:Nat.blt b c=decide (b<c):=by rw[bD,aQ];simp
 have i:Nat.beq b c=(b==c):=by rw[bD,Nat.beq_eq];simp
 rw[g,i];cases decide (b<c)<;>cases (b==c)<;>rfl
def CC{d c:List Nat}(i:∀b∈d,b<256)(ht:∀b∈c,b<256):Op.bytesLess (bytesOf d).toList (bytesOf c).toList=Wj d c:=by
 rw[rH,rH];induction d generalizing c with
 |nil=>cases c<;>rfl
 |cons b d p=>cases c with
  |nil=>rfl
  |cons f c=>
   have l:=i b Y;have m:=ht f Y;rw[Gz];simp[aS,Op.bytesLess];rw[p (λg n=>i g c5) (λg n=>ht g c5)];have j:(decide (UInt8.ofNat b<UInt8.ofNat f))=decide (b<f):=by
    rw[bD,decide_eq_true_iff,decide_eq_true_iff,UInt8.lt_iff_toNat_lt,lf l,lf m]
   have k:(UInt8.ofNat b==UInt8.ofNat f)=(b==f):=by
    rw[bD,beq_iff_eq,beq_iff_eq]
    grind [ofNat_inj]
   rw[j,k]
def IN(c b:List Nat):(Wj c b||XR c b)= !Wj b c:=by
 induction c generalizing b with
 |nil=>cases b<;>rfl
 |cons f c d=>cases b with
  |nil=>rfl
  |cons g b=>
   rw[Gz,Gz,BF,List.cons_beq_cons,<-BF];have:=d b
   grind
def Ht(b c:List Nat):bytesOf (b++c)=bytesOf b++bytesOf c:=by apply ByteArray.ext;simp[bytesOf,ByteArray.data_append]
def MC{p:BinOp}{i q l:T}{y A:am}(x:ab)(V:p≠ .eql)(X:p≠ .neq)(u:iz hp μ i y)(v:iz hp μ q A)(b:binop p i q=G l):
 ∃j,(binOp p x y A).run P w= .ok j w/\iz hp μ l j:=by
 have iE:∀{t:ak->Int->Int->aa T},AK i q t=G l->
  (∀k d c,t k d c=G l->∃j,(binOp p x (.int k d) (.int k c)).run P w= .ok j w/\iz hp μ l j)->∃j,(binOp p x y A).run P w= .ok j w/\iz hp μ l j:=by
  intro t K U;obtain⟨k,d,c,rfl,rfl,m⟩:=yg K;rw[u.lq,v.lq];exact U k d c m
 have z:∀{t:Int->Int->Bool} {I:List Nat->List Nat->Bool},Ou i q t I=G l->
  (∀k d c,(binOp p x (.int k d) (.int k c)).run P w= .ok (.bool (t d c)) w)->
  (∀f g,(∀i∈f,i<256)->(∀i∈g,i<256)->(binOp p x (.string (bytesOf f)) (.string (bytesOf g))).run P w= .ok (.bool (I f g)) w)->∃j,(binOp p x y A).run P w= .ok j w/\iz hp μ l j:=by
  intro t I K B m;rcases Ke K with⟨k,d,c,rfl,rfl,rfl⟩|⟨f,g,rfl,rfl,rfl⟩
  rw[u.lq,v.lq];exact⟨_,B k d c,.bool _⟩;have⟨E,C⟩:=u.m7;have⟨F,D⟩:=v.m7;rw[E,F];exact⟨_,m f g C D,.bool _⟩
 cases p with
 |eql=>exact absurd rfl V
 |neq=>exact absurd rfl X
 |add=>
  have b:Yz i q=G l:=b;by_cases O:∃f,i= .str f
  .obtain⟨f,rfl⟩:=O;by_cases Q:∃g,q= .str g;obtain⟨g,rfl⟩:=Q;have b:(Z (D7 f g) λN=>iX (Nat.ble (oo N) 4294967296) (some (T.str N)))=G l:=b;have⟨N,B,b⟩:=eQ.1 b;have⟨hl,b⟩:=fq.1 b;simp at B b;subst B;subst b;have hl:=bp hl;rw[kQ,aT]at hl;have⟨E,C⟩:=u.m7;have⟨F,D⟩:=v.m7;rw[E,F];refine⟨.string (bytesOf (f++g)),?_,.str _ (by intro j n;rcases List.mem_append.1 n with k|k;exact C j k;exact D j k)⟩;rw[Ht];have S:¬(((bytesOf f).size+(bytesOf g).size:Nat):Int)>IntKind.i64.max:=by
    rw[mJ,mJ];have:IntKind.i64.max=9223372036854775807:=d6;rw[this];omega
   simp only[binOp,Op.stringOp,S,if_false,Sem.run_pure]
   .exfalso;unfold Yz at b;cases q<;>first|(simp at b;done)|exact Q ⟨_,rfl⟩
  have b:AK i q (λk a R=>rN k (a+R))=G l:=by
   unfold Yz at b;cases i<;>first|exact b|exact absurd ⟨_,rfl⟩ O
  refine iE b λk d c h=>?_;rw[B7]at h;simp at h;subst h;exact⟨_,by simp[binOp,Op.intArith],.int _ _⟩
 |sub=>
  refine iE b λk d c h=>?_;rw[B7]at h;simp at h;subst h;exact⟨_,by simp[binOp,Op.intArith],.int _ _⟩
 |mul=>
  refine iE b λk d c h=>?_;rw[B7]at h;simp at h;subst h;exact⟨_,by simp[binOp,Op.intArith],.int _ _⟩
 |quo=>
  refine iE b λk d c h=>?_;cases n:Wn c 0;rw[n]at h;have L:¬c=0:=by rw[BH]at n;simpa using n
  simp only[B7]at h;simp at h;subst h;exact⟨_,by simp[binOp,Op.intDiv,L],.int _ _⟩;rw[n]at h;simp at h
 |rem=>
  refine iE b λk d c h=>?_;cases n:Wn c 0;rw[n]at h;have L:¬c=0:=by rw[BH]at n;grind
  simp only[rO]at h;simp at h;subst h;exact⟨_,by simp[binOp,Op.intDiv,L],.int _ _⟩;rw[n]at h;grind
 |and=>
  refine iE b λk d c h=>?_;rw[rO]at h;cases h;exact⟨_,by simp[binOp,Op.intBits],.int _ _⟩
 |or=>
  refine iE b λk d c h=>?_;rw[rO]at h;cases h;exact⟨_,by simp[binOp,Op.intBits],.int _ _⟩
 |xor=>
  refine iE b λk d c h=>?_;rw[rO]at h;cases h;exact⟨_,by simp[binOp,Op.intBits],.int _ _⟩
 |shl=>
  have b:Dh i q (λk a c=>Bi k (k.wrap (a*2^c)))=G l:=b;obtain⟨k,d,ae,c,rfl,rfl,m⟩:=yW b;rw[u.lq,v.lq];rw[rO]at m;cases m;have W:¬((c:Nat):Int)<0:=J;exact⟨_,by rfl,.int _ _⟩
 |shr=>
  have b:Dh i q (λk a c=>Bi k (a.fdiv (2^c)))=G l:=b;obtain⟨k,d,ae,c,rfl,rfl,m⟩:=yW b;rw[u.lq,v.lq];rw[rO]at m;cases m;have W:¬((c:Nat):Int)<0:=J;exact⟨_,by rfl,.int _ _⟩
 |lss=>exact z b (λk d c=>by simp[binOp,Op.intCmp,Bw]) (λf g r s=>by simp only[binOp,Op.stringOp,CC r s,Sem.run_pure])
 |leq=>exact z b (λk d c=>by simp only[binOp,Op.intCmp,Bw,ne_eq,not_true,if_false,Sem.run_pure];congr 2;rw[bD];simp) (λf g r s=>by simp only[binOp,Op.stringOp,CC r s,CN r s,Sem.run_pure,IN])
 |gtr=>exact z b (λk d c=>by simp[binOp,Op.intCmp,Bw]) (λf g r s=>by simp only[binOp,Op.stringOp,CC r s,CN r s,Sem.run_pure,IN,Bool.not_not])
 |geq=>exact z b (λk d c=>by simp only[binOp,Op.intCmp,Bw,ne_eq,not_true,if_false,Sem.run_pure];congr 2;rw[bD];simp) (λf g r s=>by simp only[binOp,Op.stringOp,CC r s,Sem.run_pure])
 |_=>grind [binop]
def H7{b:BinOp}{i:ab}{j k:ah}{c d:am}(f:b≠ .eql)(g:b≠ .neq):(eqGuard b i j k c d).run P w= .ok () w:=by cases b<;>first|(exact absurd rfl f)|(exact absurd rfl g)|(simp[eqGuard])
def N6{c:BinOp}{k t:ab}{m n:ah}(g:c≠ .eql)(i:c≠ .neq)(d:St cx base w.heap μ h)(j:mo w.heap μ V e a.tmps)(p:o.op= .binOp c k m n t){l:T}{f:H}
 (b:RN c m n cx V e h=be l f):j4 cx base w μ h.size ((execOp a.eval o).run P w) l f:=by
 have⟨u,hp,b⟩:=eQ.1 b;have⟨v,q,b⟩:=eQ.1 b;obtain⟨r,rfl⟩:=iI.1 b;have⟨x,s,hr⟩:=MC (P:=P) (w:=w) k g i (iU d j hp) (iU d j q) r;refine j4.pure d ?_ hr;simp[execOp,p,Sem.run_bind,H7 g i,Result.andThen_ok,s]
theorem RJ{d:UnOp}{q:ab}{m:ah}(f:St cx base w.heap μ h)(p:mo w.heap μ V e a.tmps)(j:o.op= .unOp d q m){l:T}{g:H}
 (c:hUn d m cx V e h=be l g):j4 cx base w μ h.size ((execOp a.eval o).run P w) l g:=by
 obtain⟨k,hp,c⟩:=eQ.1 c;obtain⟨b,rfl⟩:=iI.1 c;have i:=iU f p hp;cases d with
 |neg=>
  cases k<;>simp[unop]at b;subst b;exact j4.pure f (by simp[execOp,j,i.lq,Op.unary,Op.intArith]) (.int _ _)
 |not=>
  cases k<;>simp[unop]at b;rename_i n;cases n<;>simp at b<;>subst b<;>exact j4.pure f (by simp[execOp,j,i.ui,Op.unary]) (.bool _)
 |_=>simp[unop]at b
end
end
section
section
variable {P:ai}{cx:Ctx}{base:Nat}{w:World}{μ:Mu}{h:H}{V:Nat}{e:Env}{a:Act}{o:Oper}{hp:af Obj}
def mp{c:ab}{d:Ty}(h:yx P c d):∃b,P.underlying c=G b/\De P b=G d.u:=by
 have⟨i,b,j,_,f,_,_,g,_⟩:=h.unfold
 grind
def Ab{b:TypeDesc}{c:ak}(h:De P b=G (.int c)):b= .int c:=by cases b<;>simp[De]at h<;>first|(split at h<;>simp at h;done)|(simp at h;done)|grind
def Sw{b:TypeDesc}(h:De P b=G .bool):b= .bool:=by cases b<;>simp[De]at h<;>first|rfl|(split at h<;>simp at h;done)|(simp at h;done)
def uR{b:TypeDesc}(h:De P b=G .str):b= .string:=by cases b<;>simp[De]at h<;>first|rfl|(split at h<;>simp at h;done)|(simp at h;done)
def nU{b:TypeDesc}{e:ab}(h:De P b=G (.slice e)):b= .slice e:=by cases b<;>simp[De]at h<;>first|(split at h<;>simp at h;done)|(simp at h;done)|grind
def u7{b:TypeDesc}{c:Nat}{e:ab}(h:De P b=G (.array c e)):b= .array c e:=by cases b<;>simp[De]at h<;>first|(split at h<;>simp at h;done)|(simp at h;done)|grind
def Ww{b:TypeDesc}{e:ab}(h:De P b=G (.ptr e)):b= .pointer e:=by cases b<;>simp[De]at h<;>first|(split at h<;>simp at h;done)|(simp at h;done)|grind
def Sv{b:TypeDesc}(h:De P b=G .func):∃c d f,b= .func c d f:=by cases b<;>simp[De]at h<;>first|(split at h<;>simp at h;done)|(simp at h;done)|simp
def QF{b:TypeDesc}(h:De P b=G .iface):∃c,b= .interface c:=by cases b<;>simp[De]at h<;>first|(split at h<;>simp at h;done)|(simp at h;done)|simp
def Bc{d:TypeDesc}{g:List (Nat×ab)}(h:De P d=G (.struct g)):
 ∃c,d= .struct c/\g=c.toList.map (λb=>(b.offset,b.type))/\∀b∈c.toList,∃f,P.info? b.type=G f/\f.size≠0:=by
 cases d<;>simp only[De]at h<;>try (simp at h;done)
 rename_i c;split at h;rename_i j;simp only[aw,U.struct.injEq]at h;refine⟨c,rfl,h.symm,λb k=>?_⟩;have:=List.all_eq_true.1 j b k;rcases i:P.info? b.type with _|f
 rw[i]at this;grind;rw[i]at this;grind
 grind
def bytes_beq{b c:List Nat}(f:∀d∈b,d<256)(ht:∀d∈c,d<256):(bytesOf b==bytesOf c)=XR b c:=by rw[beq_toListBytes,CN f ht]
def yi{l:ab}{p:TypeDesc}{t:U}{j g:T}{n s:am}{m:Bool}(d:P.underlying l=G p)(k:De P p=G t)(i:iz hp μ j n)(f:iz hp μ g s)
 (b:tq t j g=G m) (F:Nat):(Op.equalIn (F+1) l n s).run P w= .ok m w:=by
 unfold tq at b;split at b;have:=Ab k;subst this;cases j<;>simp at b;cases g<;>simp at b;obtain⟨q,r⟩:=fq.1 b;rw[BB]at q;subst q;simp at r;subst r;rw[i.lq,f.lq];simp[Op.equalIn,run_underlying d,BH];have:=Sw k;subst this;cases j<;>simp at b;cases g<;>simp at b;rename_i I K;rw[i.ui,f.ui];cases I<;>cases K<;>simp at b<;>subst b<;>simp[Op.equalIn,run_underlying d];have:=uR k;subst this;cases j<;>simp at b;cases g<;>simp at b;subst b;obtain⟨D,y⟩:=i.m7;obtain⟨E,z⟩:=f.m7;rw[D,E];simp[Op.equalIn,run_underlying d,bytes_beq y z];have:=Ww k;subst this;cases j<;>simp at b;rw[i.uh];cases g<;>simp at b<;>subst b;rw[f.uh];simp[Op.equalIn,run_underlying d];obtain⟨u,v,c,_⟩:=f.tO;rw[c];simp[Op.equalIn,run_underlying d];obtain⟨A,off,x,l,fz,c,_⟩:=f.oq;rw[c];simp[Op.equalIn,run_underlying d];obtain⟨u,v,c,_⟩:=i.tO;cases g<;>simp at b;subst b;rw[f.uh,c];simp[Op.equalIn,run_underlying d];obtain⟨A,off,x,l,fz,c,_⟩:=i.oq;cases g<;>simp at b;subst b;rw[f.uh,c];simp[Op.equalIn,run_underlying d];obtain⟨N,O,Q,rfl⟩:=Sv k;cases j<;>simp at b;obtain⟨B,c,_⟩:=i.vN;cases g<;>simp at b;subst b;rw[f.xI,c];simp[Op.equalIn,run_underlying d];rw[i.xI];cases g<;>simp at b<;>subst b;obtain⟨B,c,_⟩:=f.vN;rw[c];simp[Op.equalIn,run_underlying d];rw[f.xI];simp[Op.equalIn,run_underlying d];obtain⟨L,rfl⟩:=QF k;cases j<;>simp at b;rw[i.xH];cases g<;>simp at b<;>subst b;rw[f.xH];simp[Op.equalIn,run_underlying d];obtain⟨C,c⟩:=f.Az;rw[c];simp[Op.equalIn,run_underlying d];obtain⟨C,c⟩:=i.Az;cases g<;>simp at b;subst b;rw[f.xH,c];simp[Op.equalIn,run_underlying d]
 grind
def tR(b:Nat×ab)(d:List (Nat×ab))(c:Nat)(j:T)(g:List T)(k:T)(f:List T):eqFields cx (b::d) c (j::g) (k::f)=
 iX (Nat.beq b.1 c) (Z (cx.ty b.2) λi=>iX i.u.plain (Z (tq i.u j k) λl=> @Bool.rec (λ_=>aa Bool) (some false) (eqFields cx d (c+1) g f) l)):=rfl
def run_part_plain{g:ab}{b:Ty}(h:yx P g b)(hp:b.u.plain){d:af am}{f:Nat}{c:am}(j:d[f]? =G c):(part g d f).run P w= .ok c w:=by
 have i:b.isAgg=false:=by
  unfold Ty.isAgg;cases k:b.u<;>simp[k,U.plain]at hp<;>rfl
 simp[part,h.w9,i,j]
def G9(j8:jR P cx)(t:Nat):∀(m:List Field) (c:Nat) (g i:List T) (j l:af am) (f:Bool),
 ja hp μ g (j.toList.drop c)->ja hp μ i (l.toList.drop c)->(∀d∈m,d.name≠ "_")->eqFields cx (m.map λd=>(d.offset,d.type)) c g i=G f->
 (Op.eqFields (t+1) j l m).run P w= .ok f w:=by
 intro m;induction m with
 |nil=>
  intro c g i j l f _ _ _ b;have:f:=by simpa[eqFields]using b.symm
  subst this;simp[Op.eqFields]
 |cons d m U=>
  intro c g i j l f r s q b;rw[aS]at b;rcases g with _|⟨W,g⟩
  simp[eqFields]at b;cases i with
   |nil=>simp[eqFields]at b
   |cons X i=>
    rw[tR]at b;have⟨z,b⟩:=fq.1 b;have⟨ae,A,b⟩:=eQ.1 b;have⟨p,b⟩:=fq.1 b;have⟨V,B,b⟩:=eQ.1 b;have O:d.offset=c:=aK z;have⟨u,C,R⟩:=r.get (k:=0) (v:=W) Y;have⟨x,E,S⟩:=s.get (k:=0) (v:=X) Y;have D:j[c]? =G u:=iC C;have I:l[c]? =G x:=iC E;have n:=j8.ty _ _ A;have⟨Z,F,Q⟩:=mp n;have K:=yi (P:=P) (w:=w) F Q R S B t;have N:d.name≠ "_" :=q d Y;simp[Op.eqFields,N,ne_eq,not_false_eq_true,Sem.run_bind,O,run_part_plain n p D,run_part_plain n p I,Result.andThen_ok,K];cases V;have:f=false:=iC b.symm;subst this;simp;simp;refine U (c+1) g i j l f ?_ ?_ (λy L=>q y (by simp[L])) b;have:=r.drop 1;simpa[List.drop_drop,Nat.add_comm]using this;have:=s.drop 1;simpa[List.drop_drop,Nat.add_comm]using this
def H8{e:ab}{m:Ty}(l:yx P e m)(n:m.u.plain)(r:Nat):∀(g c:List T) (f:Nat) (i j:af am) (d:Bool),
 ja hp μ g (i.toList.drop f)->ja hp μ c (j.toList.drop f)->E8 m.u g c=G d->(Op.eqItems (r+1) e 1 i j (List.range' f g.length)).run P w= .ok d w:=by
 intro g;induction g with
 |nil=>
  intro c f i j d _ _ b;have:d:=by
   cases c;have b:some true=G d:=b;simpa using b.symm;simp[E8]at b
  subst this;simp[Op.eqItems]
 |cons E g C=>
  intro c f i j d p q b;rcases c with _|⟨F,c⟩
  simp[E8]at b;have b:=b;have⟨D,s,b⟩:=eQ.1 b;have⟨I,t,A⟩:=p.get (k:=0) (v:=E) Y;have⟨K,x,B⟩:=q.get (k:=0) (v:=F) Y;have⟨L,y,z⟩:=mp l;rw[aU,List.range'_succ];simp[Op.eqItems,Sem.run_bind,Nat.mul_one,run_part_plain l n (iC t),run_part_plain l n (iC x),Result.andThen_ok,(yi (P:=P) (w:=w) y z A B s r)];cases D;have:=iC b.symm;subst this;simp;simp;refine C c (f+1) i j d ?_ ?_ b;have:=p.drop 1;simpa[List.drop_drop,Nat.add_comm]using this;have:=q.drop 1;simpa[List.drop_drop,Nat.add_comm]using this
theorem Mc{f:BinOp}{g:ab}{b c:ah}(d:(Region.isConst b||Region.isConst c)):(eqGuard f g b c .nilIface .nilIface).run P w= .ok () w:=by unfold eqGuard;cases b<;>cases c<;>simp[Region.isConst]at d<;>simp
def IW(j8:jR P cx){neg:Bool}{E:BinOp}{t u:ab}{D y:ah}(f:E=(if neg then BinOp.neq else BinOp.eql))(s:St cx base w.heap μ h)(r:mo w.heap μ V e a.tmps)
 (ca:o.op= .binOp E t D y u) {v:T} {ax:H} (B:hEq neg t D y cx V e h=be v ax):j4 cx base w μ h.size ((execOp a.eval o).run P w) v ax:=by
 obtain⟨ee,c4,B⟩:=eQ.1 B;obtain⟨F,hp,B⟩:=eQ.1 B;obtain⟨x,S,B⟩:=eQ.1 B;obtain⟨a8,B⟩:=fq.1 B;obtain⟨A,b,B⟩:=eQ.1 B;obtain⟨bn,rfl⟩:=iI.1 B;have q:=iU s r hp;have j:=iU s r S;have b7:v= .bool (if neg then !A else A):=by
  rw[vz]at bn;cases neg<;>simpa using bn.symm
 subst b7;have br:(eqGuard E t D y (a.eval D) (a.eval y)).run P w= .ok () w/\(binOp E t (a.eval D) (a.eval y)).run P w= .ok (.bool (if neg then !A else A)) w:=by
  obtain⟨i,d,z,_,R,_,_,N,_,_,_,_,aA⟩:=(j8.ty _ _ c4).unfold;unfold I2 at b;split at b;rename_i dm ao;rw[ao]at N;obtain⟨ar,rfl,b8,_⟩:=Bc N;cases F<;>simp at b;cases x<;>simp at b;obtain⟨an,b⟩:=fq.1 b;obtain⟨Q,L,ap⟩:=aA an;obtain⟨p,g,X,_⟩:=q.tQ;obtain⟨C,c,bT,_⟩:=j.tQ;rw[g,c];refine⟨run_eqGuard_agg w E t D y p C L,?_⟩;have aN:P.fieldsOf t=ar:=by simp[Program.fieldsOf,R]
  have m:(Op.equalIn 10000 t (.agg p) (.agg C)).run P w= .ok A w:=by
   rw[run_equalIn_struct w 9999 t p C (aN▸R) Q,aN];rw[b8]at b;refine G9 j8 9998 ar.toList 0 _ _ p C A (iC X) c5 ?_ b;intro Z b6;have:=List.all_eq_true.1 ap Z b6
   grind
  cases neg;simp at f;subst f;rw[run_eql_struct,m];rfl;simp at f;subst f;rw[run_neq_struct,m];rfl;rename_i n e ao;rw[ao]at N;have bZ:=u7 N;subst bZ;cases F<;>simp at b;cases x<;>simp at b;obtain⟨an,b⟩:=fq.1 b;obtain⟨ec,c1,b⟩:=eQ.1 b;obtain⟨cp,b⟩:=fq.1 b;obtain⟨cL,b⟩:=fq.1 b;obtain⟨b9,b⟩:=fq.1 b;obtain⟨Q,L,ap⟩:=aA an;obtain⟨p,g,X,_⟩:=q.tQ;obtain⟨C,c,bT,_⟩:=j.tQ;rw[g,c];refine⟨run_eqGuard_agg w E t D y p C L,?_⟩;have bi:=j8.ty _ _ c1;have m:(Op.equalIn 10000 t (.agg p) (.agg C)).run P w= .ok A w:=by
   obtain⟨eb,dk,ef,a7,_,_,_,_,_,_,ea,_⟩:=bi.unfold;rw[run_equalIn_array w 9999 p C R a7,List.range_eq_range'];have cb:P.cellsOf e=1:=by
    have:=aK cL;simp[Program.cellsOf,a7,dA,Option.getD_some];omega
   rw[cb,<-(aK b9)];exact H8 bi cp 9998 _ _ 0 p C A (iC X) c5 b
  cases neg;simp at f;subst f;rw[run_eql_struct,m];rfl;simp at f;subst f;rw[run_neq_struct,m];rfl
  .have m:=yi (P:=P) (w:=w) R N q j b 9999;have aX:∀k l:am,(k≠ .nilIface\/l≠ .nilIface)->((∀de,k≠ .agg de)\/∀di,l≠ .agg di)->(eqGuard E t D y k l).run P w= .ok () w:=by
    intro k l av dn;cases neg with
    |false=>
     simp at f;subst f;cases k<;>cases l<;>first|(simp[eqGuard];done)|(simp at av;done)|grind
    |true=>
     simp at f;subst f;cases k<;>cases l<;>first|(simp[eqGuard];done)|(simp at av;done)|grind
   have ds:∀k l:am,(∀U c6 W c7,(k,l)≠(.int U c6,.int W c7))->(∀c9 dd,(k,l)≠(.string c9,.string dd))->(∀ae I al K,(k,l)≠(.float ae I,.float al K))->(∀ae I Q al K L,(k,l)≠(.complex ae I Q,.complex al K L))->
    (Op.equalIn 10000 t k l).run P w= .ok A w->(binOp E t k l).run P w= .ok (.bool (if neg then !A else A)) w:=by
    intro k l bs bu bA bN aE;cases neg;simp at f;subst f;cases k<;>cases l<;>first|(exact absurd rfl (bs _ _ _ _))|(exact absurd rfl (bu _ _))|(exact absurd rfl (bA _ _ _ _))|(exact absurd rfl (bN _ _ _ _ _ _))|(simp[binOp,Op.equal,Op.maxDepth,aE])
    simp at f;subst f;cases k<;>cases l<;>first|(exact absurd rfl (bs _ _ _ _))|(exact absurd rfl (bu _ _))|(exact absurd rfl (bA _ _ _ _))|(exact absurd rfl (bN _ _ _ _ _ _))|(simp[binOp,Op.equal,Op.maxDepth,aE])
   unfold tq at b;split at b;cases F<;>simp at b;cases x<;>simp at b;obtain⟨U,W⟩:=fq.1 b;rw[BB]at U;subst U;simp at W;subst W;rw[q.lq,j.lq];refine⟨aX _ _ (.inl Y) (.inl Y),?_⟩;cases neg<;>simp at f<;>subst f<;>simp[binOp,Op.intCmp,BH,bne];cases F<;>simp at b;cases x<;>simp at b;rw[q.ui,j.ui]at m|-
   grind
   cases F<;>simp at b;cases x<;>simp at b;subst b;obtain⟨g,I⟩:=q.m7;obtain⟨c,K⟩:=j.m7;rw[g,c];refine⟨aX _ _ (.inl Y) (.inl Y),?_⟩;cases neg<;>simp at f<;>subst f<;>simp[binOp,Op.stringOp,CN I K];cases F<;>simp at b;have g:=q.uh;rw[g]at m|-;have c:∃O,a.eval y= .pointer O:=by
    cases x<;>simp at b;exact⟨_,j.uh⟩;obtain⟨_,O,S,_⟩:=j.tO;grind;obtain⟨_,_,_,_,_,S,_⟩:=j.oq;grind
   obtain⟨O,c⟩:=c;rw[c]at m|-
   grind
   obtain⟨_,O,g,_⟩:=q.tO;cases x<;>simp at b;have c:=j.uh;rw[g,c]at m|-
   grind
   obtain⟨_,_,_,_,_,g,_⟩:=q.oq;cases x<;>simp at b;have c:=j.uh;rw[g,c]at m|-
   grind
   cases F<;>simp at b;obtain⟨p,g,_⟩:=q.vN;cases x<;>simp at b;have c:=j.xI;rw[g,c]at m|-
   grind
   have g:=q.xI;have c:(∃Z bW p,a.eval y= .func Z bW p)\/a.eval y= .nilFunc:=by
    cases x<;>simp at b;obtain⟨p,S,_⟩:=j.vN;grind;exact .inr j.xI
   grind
   cases F<;>simp at b;have g:=q.xH;cases x<;>simp at b;have c:=j.xH;rw[g,c]at m|-;have a8:(Region.isConst D||Region.isConst y):=a8
   grind [Mc]
   obtain⟨bX,c⟩:=j.Az;rw[g,c]at m|-
   grind
   obtain⟨bX,g⟩:=q.Az;cases x<;>simp at b;rw[g,j.xH]at m|-
   grind
   grind
 refine j4.pure s ?_ (.bool _);simp[execOp,ca,Sem.run_bind,br.1,Result.andThen_ok,br.2]
end
end
section
section
variable {P:ai}{cx:Ctx}{base:Nat}{w:World}{μ:Mu}{h:H}{V:Nat}{e:Env}{a:Act}{o:Oper}{hp:af Obj}
def mG(b off c:Nat):(⟨b,off,none⟩:Addr).add c=⟨b,off+c,none⟩:=by unfold Addr.add;split<;>simp_all
theorem ot(c:T)(b:List T):iy (c::b)=c.cells++iy b:=by simp[iy]
def pZ(a b:List T):iy (a++b)=iy a++iy b:=by simp[iy]
def ji{sz:Nat}{b:List T}(d:∀c∈b,c.cells.length=sz):(iy b).length=b.length*sz:=by
 induction b with
 |nil=>simp[iy]
 |cons g b f=>
  rw[ot,aT,f (λc i=>d c c5),d g Y,aU,cD];omega
def tc{d:Nat}{b:List T}(g:∀f∈b,f.cells.length=d)(c:Nat):(iy b).drop (c*d)=iy (b.drop c):=by
 induction c generalizing b with
 |zero=>simp
 |succ c j=>cases b with
  |nil=>simp[iy]
  |cons i b=>
   rw[ot,cD,Nat.add_comm,<-List.drop_drop];have:(i.cells++iy b).drop d=iy b:=by rw[<-(g i Y)];simp
   rw[this,j (λf k=>g f c5)];rfl
def vk{g:Nat}{b:List T}(f:∀d∈b,d.cells.length=g)(c:Nat):(iy b).take (c*g)=iy (b.take c):=by
 induction c generalizing b with
 |zero=>simp[iy]
 |succ c i=>cases b with
  |nil=>grind
  |cons j b=>
   rw[ot,dH,ot,<-i (λd k=>f d c5),cD,List.take_append,(f j Y)]
   grind
structure wN(hp:af Obj)(μ:Mu)(jV off:Nat)(cs:List T):Prop where
 row:∃arr t fz,hp[jV]? =G (.cells arr t fz)/\off+cs.length<=arr.size/\∀(k:Nat) v,cs[k]? =G v->iz hp μ v (arr.getD (off+k) Go.undef)
 scalar:∀v∈cs,v.scalar
def wN.cell{g off:Nat}{c:List T}(n:wN w.heap μ g off c){b:Nat}{d:T}(m:c[b]? =G d):∃i,w.cell? ⟨g,off+b,none⟩=G i/\iz w.heap μ d i:=by
 have⟨f,r,fz,j,p,k⟩:=n.row;have q:b<c.length:=by
  grind
 have l:off+b<f.size:=J;refine⟨f[off+b],by simp[World.cell?,j,l],?_⟩;have:=k b d m;simp_all
def wN.take{d off:Nat}{f:List T}(g:wN hp μ d off f)(m:Nat):wN hp μ d off (f.take m):=by
 have⟨i,n,fz,j,p,k⟩:=g.row;refine⟨⟨i,n,fz,j,by grind,λl c b=>k l c ?_⟩,λc b=>g.scalar c (bU b)⟩;rw[cM]at b
 grind
def wN.drop{g off:Nat}{d:List T}(i:wN hp μ g off d)(c:Nat)(q:c<=d.length):wN hp μ g (off+c) (d.drop c):=by have⟨j,n,fz,k,p,l⟩:=i.row;refine⟨⟨j,n,fz,k,by grind,λm f b=>?_⟩,λf b=>i.scalar f (bY b)⟩;rw[cu]at b;have:=l (c+m) f b;rwa[<-dh]at this
def wN.run_loadCells{d off:Nat}{b:List T}(n:wN w.heap μ d off b):∃i:List am,(loadCells ⟨d,off,none⟩ b.length).run P w= .ok i.toArray w/\ja w.heap μ b i:=by
 have⟨c,t,fz,k,p,l⟩:=n.row;refine⟨(c.toList.drop off).take b.length,?_,?_⟩;have hl:((c.toList.drop off).take b.length).length=b.length:=by grind
 have:=Go.run_loadCells_list (P:=P) w ⟨d,off,none⟩ ((c.toList.drop off).take b.length) (λs j f=>by
  rw[mG];rw[cM]at f;split at f;rw[cu]at f;simp[World.cell?,k]
  grind
  grind)
 rwa[hl]at this;refine⟨by grind,λg j m=>?_⟩;have q:g<b.length:=by
  grind
 have:=l g j m;have r:off+g<c.size:=J;simp_all
def B6{r:ab}{c:Ty}{i off:Nat}{j:List T}{s:T}(k:yx P r c)(p:wN w.heap μ i off j)(b:lI c j=G s):
 ∃d,(loadVar r ⟨i,off,none⟩).run P w= .ok d w/\iz w.heap μ s d:=by
 unfold lI at b;cases g:c.isAgg;rw[g]at b;have b:=b;rw[m6]at b;obtain⟨d,m,hr⟩:=p.cell b;refine⟨d,?_,hr⟩;have m:w.cell? ⟨i,off,none⟩=G d:=J;simp[loadVar,k.w9,g,m];rw[g]at b;have b:=b;obtain⟨y,f,l⟩:=eQ.1 b;rw[qB]at f;split at f;rename_i x;simp at f l;subst f;subst l;have q:=p.take c.size;obtain⟨t,n,v⟩:=wN.run_loadCells (P:=P) q;have u:(j.take c.size).length=c.size:=by grind
 rw[u]at n;refine⟨.agg t.toArray,?_,iz.C4 J q.scalar⟩;simp[loadVar,k.w9,g,k.run_sizeOf,n]
 grind
def St.rowAt(I:St cx base hp μ h){j t c:Nat}{b:Loc}{f:T}(y:μ j=G b)(d:h.elem j t c=G f):wN hp μ b.jV (c*b.sz) f.cells/\f.cells.length=b.sz:=by
 have⟨s,A,E⟩:=I.box j b y;unfold H.elem at d;rw[A]at d;obtain⟨R,N,S,O,F,i⟩:=s;have d:=d;have⟨_,d⟩:=fq.1 d;cases F with
 |true=>grind
 |false=>
  have d:i[c]? =G f:=by rw[<-m6];exact d
  have g:=E.plain rfl;have⟨r,K,u,v,x⟩:=g.row;have p:=aB d;have n:=g.size f p;have C:c<i.length:=by
   grind
  have Q:=ji g.size;refine⟨⟨⟨r,K,(0,0),u,?_,λq l k=>?_⟩,λl k=>g.scalar l ?_⟩,n⟩
  .rw[n,v];have:c+1<=b.cap:=by have:=g.room;grind
   calc c*b.sz+b.sz=(c+1)*b.sz:=by rw[cD]
    _<=b.cap*b.sz:=bG _ this
  have D:q<f.cells.length:=by
   grind
  have B:(iy i)[c*b.sz+q]? =G l:=by
   have m:=tc g.size c;have:i.drop c=f::i.drop (c+1):=by
    rw[aJ C]
    grind
   rw[this,ot]at m;rw[<-cu,m,cN D];exact k
  have⟨L,z,hr⟩:=x.get B;rw[cM]at z;simp_all;exact List.mem_flatMap.2 ⟨f,p,k⟩
def St.XV(n:St cx base hp μ h){c f m:Nat}{b:Loc}{p:T}(j:μ c=G b)(d:h.elem c f m=G p):f=b.ep:=by
 have⟨g,k,l⟩:=n.box c b j;unfold H.elem at d;rw[k]at d;obtain⟨u,r,v,s,t,q⟩:=g;have⟨i,_⟩:=fq.1 d;have:=aK i;have:=l.ep
 grind
def GD{q:ab}{r:Ty}{i f:T}{j:am}(n:yx P q r)(p:St cx base w.heap μ h)(l:iz w.heap μ i j)(b:h.load r i=G f):
 ∃g c,j= .pointer (some g)/\(loadVar q g).run P w= .ok c w/\iz w.heap μ f c:=by
 unfold H.load at b;cases i<;>simp at b;rename_i I O V C;replace b:=eQ.1 b;obtain⟨W,m,b⟩:=b;replace b:=eQ.1 b;obtain⟨N,d,b⟩:=b;obtain⟨F,g,y,k,_,Q⟩:=l.tO;have R:=p.XV k m;obtain⟨D,S⟩:=p.rowAt k m;rw[ox]at d;split at d;rename_i x;simp at d;subst d;obtain⟨c,t,u⟩:=B6 n (D.drop C x) b
 grind
 grind
 rename_i L;obtain⟨K,off,s,E,fz,y,U,v,z,A,hr⟩:=l.oq;obtain⟨c,t,u⟩:=B6 n ⟨⟨s,E,fz,v,z,hr⟩,(λf B=>(A f B).1)⟩ b
 grind
theorem LZ(j8:jR P cx){f:ab}{i:ah}(c:St cx base w.heap μ h)(q:mo w.heap μ V e a.tmps)(l:o.op= .load f i){g:T}{d:H}
 (b:L3 f i cx V e h=be g d):j4 cx base w μ h.size ((execOp a.eval o).run P w) g d:=by
 obtain⟨u,n,b⟩:=eQ.1 b;obtain⟨t,hp,b⟩:=eQ.1 b;obtain⟨p,rfl⟩:=iI.1 b;have⟨r,s,m,j,k⟩:=GD (j8.ty _ _ n) c (iU c q hp) p;exact j4.pure c (by simp[execOp,l,Instr.loadAt,m,Instr.sureAddr,j]) k
def AZ(j8:jR P cx){l:ab}{f:Nat}{g:Nat×ab}(b:AA cx l f=G g):∃d c,P.underlying l=G (.struct d)/\d[f]? =G c/\c.offset=g.1/\c.type=g.2/\
 ∃k,P.info? c.type=G k/\k.size≠0:=by
 obtain⟨s,q,b⟩:=eQ.1 b;have⟨t,m,j⟩:=mp (j8.ty _ _ q);cases r:s.u<;>rw[r]at b j<;>simp at b;obtain⟨d,rfl,p,n⟩:=Bc j;subst p;rw[bw]at b;rcases i:d.toList[f]? with _|c
 rw[i]at b;grind;rw[i]at b;simp at b;refine⟨d,c,m,by grind,by rw[<-b],by rw[<-b],n c (aB i)⟩
theorem DR(j8:jR P cx){t:ab}{n:ah}{p:Nat}(m:St cx base w.heap μ h)(Z:mo w.heap μ V e a.tmps)(R:o.op= .fieldAddr t n p){c:T}{q:H}
 (b:s7 t n p cx V e h=be c q):j4 cx base w μ h.size ((execOp a.eval o).run P w) c q:=by
 replace b:=eQ.1 b;obtain⟨l,N,b⟩:=b;replace b:=eQ.1 b;obtain⟨X,hp,b⟩:=b;obtain⟨ao,ap,A,B,C,ar,i,D,E⟩:=AZ j8 N;have r:=iU m Z hp;have s:∀d:Addr,a.eval n= .pointer (some d)->(execOp a.eval o).run P w= .ok (.value (.pointer (some (d.add l.1)))) w:=by
  intro d f;simp[execOp,R,Instr.fieldAt,run_underlying A,B,f,Instr.sureAddr,fieldPlace,sizeOf,typeInfo,D,E,C]
 cases X<;>simp at b;rename_i x z U W;obtain⟨rfl,rfl⟩:=b;obtain⟨u,d,f,I,L,F⟩:=r.tO;refine j4.pure m (s d f) (.ptr x z U (W+l.1) u _ I L λK=>?_);rw[F K,mG,dh];rename_i al;replace b:=eQ.1 b;obtain⟨an,g,b⟩:=b;simp at b;obtain⟨rfl,rfl⟩:=b;obtain⟨y,off,v,ae,fz,f,Q,O,ax,S,hr⟩:=r.oq;rw[ox]at g;split at g;rename_i av;simp at g;subst g;refine j4.pure m (s _ f) ?_;rw[mG];refine .kH _ y (off+l.1) v ae fz Q O c5 (λc j=>S c (bY j)) λk c j=>?_;rw[cu]at j;have:=hr _ c j;rwa[<-dh]at this
 grind
def Ej{q:ab}{d:Ty}{j:List T}{f:af am}{off:Nat}{r:T}(k:yx P q d)(n:ja hp μ j (f.toList.drop off))(s:∀l∈j,l.scalar)(b:lI d j=G r):
 ∃c,(part q f off).run P w= .ok c w/\iz hp μ r c:=by
 unfold lI at b;cases i:d.isAgg;rw[i]at b;have b:=b;rw[m6]at b;obtain⟨c,p,hr⟩:=n.get b;refine⟨c,?_,hr⟩;have p:f[off]? =G c:=by grind
 simp[part,k.w9,i,p];rw[i]at b;have b:=b;obtain⟨v,g,m⟩:=eQ.1 b;rw[qB]at g;split at g;rename_i u;simp at g m;subst g;subst m;refine⟨.agg (f.extract off (off+d.size)),by simp[part,k.w9,i,k.run_sizeOf],iz.C4 ?_ λl t=>s l (bU t)⟩;have:=n.take d.size;rw[Array.toList_extract]
 grind
 grind
theorem JP(j8:jR P cx){j:ab}{d:ah}{f:Nat}(i:St cx base w.heap μ h)(D:mo w.heap μ V e a.tmps)(v:o.op= .field j d f){k:T}{g:H}
 (b:DS j d f cx V e h=be k g):j4 cx base w μ h.size ((execOp a.eval o).run P w) k g:=by
 obtain⟨l,u,b⟩:=eQ.1 b;obtain⟨N,z,b⟩:=eQ.1 b;obtain⟨C,hp,b⟩:=eQ.1 b;have⟨K,L,m,n,p,q,_⟩:=AZ j8 u;cases C<;>simp at b;obtain⟨F,c,b⟩:=eQ.1 b;obtain⟨A,rfl⟩:=iI.1 b;have⟨I,x,r,y⟩:=(iU i D hp).tQ;rw[ox]at c;split at c;simp at c;subst c;have⟨E,s,t⟩:=Ej (P:=P) (w:=w) (j8.ty _ _ z) (r.drop l.1) (λd B=>y d (bY B)) A;refine j4.pure i ?_ t;simp[execOp,v,Instr.field,run_underlying m,n,x,asAgg,p,q,s]
 grind
def qz{c:T}{g:Nat}(d:uJ c=G g):∃f,c= .int f (.ofNat g):=by
 unfold uJ at d;cases c<;>simp at d;rename_i f b;cases b with
 |ofNat b=>simp_all
 |negSucc b=>grind
theorem JN(j8:jR P cx){C:ab}{p E:ah}(m:St cx base w.heap μ h)(B:mo w.heap μ V e a.tmps)(x:o.op= .index C p E){D:T}{t:H}
 (b:DP C p E cx V e h=be D t):j4 cx base w μ h.size ((execOp a.eval o).run P w) D t:=by
 replace b:=eQ.1 b;obtain⟨ao,ae,b⟩:=b;replace b:=eQ.1 b;obtain⟨A,hp,b⟩:=b;replace b:=eQ.1 b;obtain⟨q,W,b⟩:=b;replace b:=eQ.1 b;obtain⟨f,R,b⟩:=b;obtain⟨k,S⟩:=qz R;obtain⟨d,v,s⟩:=mp (j8.ty _ _ ae);have l:=iU m B hp;have z:=(S▸iU m B W).lq;cases al:ao.u<;>rw[al]at b s<;>simp at b
 
 have:=uR s;subst this;cases A<;>simp at b;rename_i g;replace b:=eQ.1 b;obtain⟨c,aA,b⟩:=b;obtain⟨j,rfl⟩:=iI.1 b;simp at j;subst j;obtain⟨r,F⟩:=l.m7;refine j4.pure (c:= .int .u8 (c:Int)) m ?_ (.int _ _);have aE:f<g.length:=by
  grind
 have O:g[f]=c:=by grind
 have Q:(bytesOf g)[f]? =G (UInt8.ofNat c):=by
  have X:f<(bytesOf g).size:=by rw[mJ];omega
  rw[getElem?_pos (bytesOf g) f X];congr 1;show(bytesOf g).data[f]=_
  grind [bytesOf]
 simp[execOp,x,Instr.index,z,asIntOf,run_underlying v,r,Q,lf (F c (by rw[<-O];simp))];rename_i n ax;have:=u7 s;subst this;cases A<;>simp at b;rename_i ap;replace b:=eQ.1 b;obtain⟨an,y,b⟩:=b;replace b:=fq.1 b;obtain⟨K,b⟩:=b;replace b:=eQ.1 b;obtain⟨ar,i,b⟩:=b;obtain⟨j,rfl⟩:=iI.1 b;obtain⟨av,r,I,Z⟩:=l.tQ;rw[ox]at i;split at i;simp at i;subst i;obtain⟨c,L,N⟩:=Ej (P:=P) (w:=w) (j8.ty _ _ y) (I.drop (f*an.size)) (λp l=>Z p (bY l)) j;refine j4.pure m ?_ N;rw[aQ]at K;have U:¬n<=f:=J;simp[execOp,x,Instr.index,z,asIntOf,run_underlying v,r,U,(j8.ty _ _ y).run_sizeOf,L]
 grind
end
end
section
section
variable {P:ai}{cx:Ctx}{base:Nat}{w:World}{μ:Mu}{h:H}{V:Nat}{e:Env}{a:Act}{o:Oper}{hp:af Obj}
def St.Pb(k:St cx base hp μ h){c:Nat}{b:Loc}{d:jO}(j:μ c=G b)(f:h.get c=G d):d.sz=b.sz/\d.ep=b.ep:=by have⟨l,i,g⟩:=k.box c b j;rw[i]at f;simp at f;subst f;exact⟨g.sz,g.ep⟩
def flat_get{d:Nat}{es:List T}(g:∀v∈es,v.cells.length=d){i k:Nat}{v z:T}(j:es[i]? =G v)(m:v.cells[k]? =G z):(iy es)[i*d+k]? =G z:=by
 have c:i<es.length:=by
  grind
 have f:k<v.cells.length:=by
  grind
 have b:=tc g i;have l:es[i]=v:=by rw[aF c]at j;grind
 rw[aJ c,l,ot]at b;rw[<-cu,b,cN f];exact m
def QI{f:T}{d:List T}{j off c g:Nat}{i:af am}{r:ab}{fz:Nat×Nat}{b:T}(v:¬qt μ j)(t:hp[j]? =G (.cells i r fz))
 (k:∀b∈f::d,b.cells.length=c) (x:off+(iy (f::d)).length<=i.size) (s:∀b∈iy (f::d),AN b)
 (hr:∀(m:Nat) b,(iy (f::d))[m]? =G b->iz hp μ b (i.getD (off+m) Go.undef)) (q:(f::d)[g]? =G b):
 iz hp μ (.kH b.cells) (.pointer (some ⟨j,off+g*c,none⟩)):=by
 have p:=aB q;have u:g<(f::d).length:=by
  grind
 refine .kH b.cells j (off+g*c) i r fz v t ?_ (λn l=>s n (List.mem_flatMap.2 ⟨b,p,l⟩)) λm n l=>?_
 .rw[(k b p)];have:g*c+c<=(iy (f::d)).length:=by
   rw[(ji k)]
   calc g*c+c=(g+1)*c:=by rw[cD]
    _<=(f::d).length*c:=bG _ u
  omega
 have:=hr _ n (flat_get k q l);rwa[<-dh]at this
theorem DO(j8:jR P cx){t:ab}{x y:ah}(i:St cx base w.heap μ h)(r:mo w.heap μ V e a.tmps)(an:o.op= .indexAddr t x y){A:T}{aX:H}
 (b:sZ t x y cx V e h=be A aX):j4 cx base w μ h.size ((execOp a.eval o).run P w) A aX:=by
 replace b:=eQ.1 b;obtain⟨c9,c4,b⟩:=b;replace b:=eQ.1 b;obtain⟨p,hp,b⟩:=b;replace b:=eQ.1 b;obtain⟨q,ao,b⟩:=b;replace b:=eQ.1 b;obtain⟨f,ca,b⟩:=b;obtain⟨k,cb⟩:=qz ca;obtain⟨d,W,av⟩:=mp (j8.ty _ _ c4);have O:=iU i r hp;have ax:=(cb▸iU i r ao).lq;cases c6:c9.u<;>rw[c6]at b av<;>simp at b;rename_i bW;have:=nU av;subst this;replace b:=eQ.1 b;obtain⟨s,ar,b⟩:=b;have bn:=(j8.ty _ _ ar).run_sizeOf w;unfold nC at b;cases p<;>simp at b;rename_i B bX;replace b:=eQ.1 b;obtain⟨z,bs,b⟩:=b;replace b:=fq.1 b;obtain⟨hl,b⟩:=b;simp at b;obtain⟨rfl,rfl⟩:=b;have hl:=aK hl;rcases B with _|⟨ef,B⟩
 grind
 obtain⟨aE,off,di,c7,aA,bA,fz,E,al,Z,ea,ds,br,bi,b8,hr⟩:=O.xG;have c1:c7=s.size:=br z (aB bs)▸hl;have ec:f<B.length+1:=by
  grind
 have ee:¬((B.length:Int)+1<=(f:Int)):=J;refine j4.pure i ?_ (QI al Z br bi b8 hr bs);rw[<-mG,c1];have C:¬B.length+1<=f:=J;simp[execOp,an,Instr.indexAt,ax,asIntOf,run_underlying W,E,bn,C];rename_i D F Q l bX;replace b:=fq.1 b;obtain⟨hl,b⟩:=b;replace b:=eQ.1 b;obtain⟨aN,U,b⟩:=b;replace b:=fq.1 b;obtain⟨b6,b⟩:=b;replace b:=fq.1 b;obtain⟨a7,b⟩:=b;simp at b;obtain⟨rfl,rfl⟩:=b;rw[aQ]at hl;have a7:=aK a7;obtain⟨g,m,bT,E,v,K,dn,b9⟩:=O.wJ;obtain⟨R,bZ⟩:=i.Pb v U;obtain⟨dd,de,bN⟩:=b9 J;have cp:bT≠0:=J;rw[bN cp]at E;refine j4.pure (c:= .pointer (some ⟨g.jV,(Q+f)*g.sz,none⟩)) i ?_ (.ptr D F (Q+f) 0 g _ v K λ_=>by simp);have C:¬l<=f:=J;have b7:(⟨g.jV,Q*g.sz,none⟩:Addr).add (f*s.size)=⟨g.jV,(Q+f)*g.sz,none⟩:=by
  rw[mG,<-(aK b6),R,cJ]
 simp[execOp,an,Instr.indexAt,ax,asIntOf,run_underlying W,E,bn,C,b7];rename_i n bW;have:=u7 av;subst this;replace b:=eQ.1 b;obtain⟨s,ar,b⟩:=b;unfold pX at b;replace b:=fq.1 b;obtain⟨hl,b⟩:=b;rw[aQ]at hl;have C:¬n<=f:=J;have ap:∀m:Addr,a.eval x= .pointer (some m)->(execOp a.eval o).run P w= .ok (.value (.pointer (some (m.add (f*s.size))))) w:=by
  intro m ao;simp[execOp,an,Instr.indexAt,ax,asIntOf,run_underlying W,ao,Instr.sureAddr,((j8.ty _ _ ar).run_sizeOf w),C]
 cases p<;>simp at b;rename_i D F bu j;replace b:=eQ.1 b;obtain⟨aN,U,b⟩:=b;obtain⟨g,m,L,v,K,a8⟩:=O.tO;obtain⟨R,bZ⟩:=i.Pb v U;cases S:Nat.beq aN.sz s.size;rw[S]at b;have b:=b;simp[aw,nO.val.injEq]at b;obtain⟨rfl,rfl⟩:=b;refine j4.pure i (ap m L) (.ptr D F bu (j+f*s.size) g _ v K λX=>?_);rw[a8 X,mG,dh];rw[S]at b;have b:=b;replace b:=fq.1 b;obtain⟨ae,b⟩:=b;have ae:=aK ae;subst ae;simp[aw,nO.val.injEq]at b;obtain⟨rfl,rfl⟩:=b;refine j4.pure i (ap m L) (.ptr D F (bu+f) 0 g _ v K λX=>?_);rw[a8 X,mG,<-(aK S),R,cJ];simp;rename_i dk;replace b:=eQ.1 b;obtain⟨dm,I,b⟩:=b;simp at b;obtain⟨rfl,rfl⟩:=b;obtain⟨aE,off,aA,bA,fz,L,al,Z,bi,cL,hr⟩:=O.oq;rw[ox]at I;split at I;rename_i eb;simp at I;subst I;refine j4.pure i (ap _ L) ?_;rw[mG];refine .kH _ aE (off+f*s.size) aA bA fz al Z c5 (λA N=>cL A (bY N)) λk A N=>?_;rw[cu]at N;have:=hr _ A N;rwa[<-dh]at this
 grind
end
end
section
section
variable {P:ai}{cx:Ctx}{base:Nat}{w:World}{μ:Mu}{h:H}{V:Nat}{e:Env}{a:Act}{o:Oper}{hp:af Obj}
theorem Ez(j8:jR P cx){q j:ab}{s:ah}(g:St cx base w.heap μ h)(A:mo w.heap μ V e a.tmps)(n:o.op= .convert q j s){r:T}{k:H}{c:T}
 (d:∃i,cx.ty q=G i) (hp:iG cx V e s=G c) (b:conv cx j c=G r) (x:k=h):j4 cx base w μ h.size ((execOp a.eval o).run P w) r k:=by
 subst x;obtain⟨D,d⟩:=d;have⟨C,m,_⟩:=mp (j8.ty _ _ d);obtain⟨i,y,b⟩:=eQ.1 b;have⟨B,l,f⟩:=mp (j8.ty _ _ y);have p:=iU g A hp;cases z:i.u<;>rw[z]at b f<;>simp at b;have:=Ab f;subst this;cases c<;>simp at b;subst b;exact j4.pure g (by simp[execOp,n,convert,run_underlying m,run_underlying l,p.lq,Conv.intToInt]) (.int _ _);have:=uR f;subst this;cases c<;>simp at b;subst b;have⟨v,t⟩:=p.m7;exact j4.pure g (by simp[execOp,n,convert,run_underlying m,run_underlying l,v]) (.str _ t)
def yc{f:aa ah}{i:aa Nat}(n:St cx base w.heap μ h)(m:mo w.heap μ V e a.tmps)(b:li cx V e f=G i):
 (f=none/\i=none)\/∃d g c,f=G d/\i=G c/\a.eval d= .int g (c:Nat):=by
 rcases f with _|d;left;simp[li]at b;grind;right;have b:=b;obtain⟨p,l,b⟩:=eQ.1 b;obtain⟨c,k,b⟩:=eQ.1 b;simp at b;subst b;have⟨g,j⟩:=qz k;exact⟨d,g,c,rfl,rfl,(j▸iU n m l).lq⟩
def run_sliceBound{d:am}{j:ak}{b:Nat}(i:d= .int j (b:Nat)){c:Nat}(k:b<=c)(f:BoundsCode):(Instr.sliceBound d c f).run P w= .ok b w:=by subst i;have g:0<=((b:Nat):Int)/\((b:Nat):Int)<=(c:Int):=⟨J,J⟩;simp only[Instr.sliceBound,asIntOf,Sem.run_bind,Sem.run_pure,Result.andThen_ok,g,and_self,if_true];simp
def uw{isS:Bool}{len cap:Nat}{q p r:aa ah}{l d m:aa Nat}
 (n:(q=none/\l=none)\/∃c i b,q=G c/\l=G b/\a.eval c= .int i (b:Nat)) (t:(p=none/\d=none)\/∃c i b,p=G c/\d=G b/\a.eval c= .int i (b:Nat))
 (B:(r=none/\m=none)\/∃c i b,r=G c/\m=G b/\a.eval c= .int i (b:Nat)) (C:∀b,m=G b->b<=cap/\d=G b) (hl:jc l 0<=jc d len) (u:jc d len<=len) (I:len<=cap):
 (Instr.sliceBounds isS len cap (q.map a.eval) (p.map a.eval) (r.map a.eval)).run P w= .ok (jc l 0,jc d len,jc m cap) w:=by
 rcases B with⟨rfl,rfl⟩|⟨L,K,E,rfl,rfl,s⟩;rcases t with⟨rfl,rfl⟩|⟨F,D,k,rfl,rfl,g⟩;rcases n with⟨rfl,rfl⟩|⟨A,z,j,rfl,rfl,f⟩;rfl;have hl:j<=len:=hl;simp[Instr.sliceBounds,jc,run_sliceBound f hl];have u:k<=len:=u;have v:k<=cap:=J;rcases n with⟨rfl,rfl⟩|⟨A,z,j,rfl,rfl,f⟩
 simp[Instr.sliceBounds,jc,run_sliceBound g v];have hl:j<=k:=hl;simp[Instr.sliceBounds,jc,run_sliceBound g v,run_sliceBound f hl];have⟨x,y⟩:=C E rfl;rcases t with⟨rfl,rfl⟩|⟨F,D,k,rfl,rfl,g⟩
 grind
 simp at y;subst y;rcases n with⟨rfl,rfl⟩|⟨A,z,j,rfl,rfl,f⟩
 simp[Instr.sliceBounds,jc,run_sliceBound g (ay _),run_sliceBound s x];have hl:j<=k:=hl;simp[Instr.sliceBounds,jc,run_sliceBound g (ay _),run_sliceBound s x,run_sliceBound f hl]
def Ix(b:Nat):jc none b=b:=rfl
def CV{j:Type}{d g:List j}{c b:Nat}(l:c<=b)(f:Oo d c b=G g):b<=d.length/\g=(d.drop c).take (b-c):=by
 unfold Oo at f;have⟨m,i,k⟩:=eQ.1 f;rw[ox]at i
 grind [qB]
def GZ{c:Nat}{b:List T}(f:∀d∈b,d.cells.length=c)(g i:Nat):iy ((b.drop g).take i)=((iy b).drop (g*c)).take (i*c):=by rw[tc f,vk (λd j=>f d (bY j))]
def KL{g:T}{f:List T}{m off i:Nat}{l:af am}{t:ab}{fz:Nat×Nat}{b d:Nat}{p:T}{k:List T}{full:Bool}{cap:Nat}(z:¬qt μ m)(v:hp[m]? =G (.cells l t fz))
 (r:∀c∈g::f,c.cells.length=i) (E:off+(iy (g::f)).length<=l.size) (A:∀c∈iy (g::f),AN c)
 (hr:∀(n:Nat) c,(iy (g::f))[n]? =G c->iz hp μ c (l.getD (off+n) Go.undef)) (D:b<=d) (C:d<=(g::f).length) (s:p::k=((g::f).drop b).take (d-b))
 (B:d-b<=cap) (u:full->cap=d-b):iz hp μ (.fg (p::k) full) (.slice (some ⟨m,off+b*i,none⟩) (d-b) cap):=by
 have x:k.length+1=d-b:=by
  have:=bE List.length s
  grind
 have q:=GZ r b (d-b);rw[<-s]at q;have y:∀c∈p::k,c∈g::f:=λc j=>bY (bU (s▸j));rw[<-x];refine .fg p k full m (off+b*i) cap i l t fz z v J (λn=>by rw[u n];omega) (λc j=>r c (y c j)) ?_ ?_ ?_;rw[q];simp[List.length_take,List.length_drop];have:b*i+(d-b)*i<=(iy (g::f)).length:=by
  rw[(ji r),<-cJ];simp_all[bG]
 omega;intro c j;rw[q]at j
 grind
 grind
def EQ(d:List Nat)(b c:Nat):(bytesOf d).extract b c=bytesOf ((d.drop b).take (c-b)):=by apply ByteArray.ext;have:((bytesOf d).extract b c).data.toList=((bytesOf d).data.toList.drop b).take (c-b):=Lib.extract_data _ _ _;apply cU;rw[this];simp[bytesOf,List.map_take,List.map_drop]
def KN(j8:jR P cx){t:ab}{x:ah}{R F S:aa ah}(U:St cx base w.heap μ h)(bn:o.op= .slice t x R F S){d:Nat}{y:ab}(aX:P.underlying t=G (.array d y)){u:T}
 (bA:iz w.heap μ u (a.eval x)) {g f l:aa Nat}
 (bW:(R=none/\g=none)\/∃m q c,R=G m/\g=G c/\a.eval m= .int q (c:Nat)) (bX:(F=none/\f=none)\/∃m q c,F=G m/\f=G c/\a.eval m= .int q (c:Nat))
 (bZ:(S=none/\l=none)\/∃m q c,S=G m/\l=G c/\a.eval m= .int q (c:Nat)) (cp:AI f l) (k:jL cx h (.array d y) u) {v:T}
 (b:sK (asSlice (.array d y) u) g f l=G v):j4 cx base w μ h.size ((execOp a.eval o).run P w) v h:=by
 unfold jL at k;simp only at k;rcases K:cx.ty y with _|ao
 rw[K]at k;grind;rw[K]at k;have bu:=(j8.ty _ _ K).run_sizeOf w;have hp:∃n r al j,u= .ptr n r al j:=by cases u<;>first|exact⟨_,_,_,_,rfl⟩|(simp at k)
 obtain⟨n,r,al,j,rfl⟩:=hp;simp only at k;rcases E:h.get n with _|V;rw[E]at k;grind;rw[E]at k;obtain⟨b6,av,c1,ca,cL,ar⟩:=V;simp only[aC,cO]at k;obtain⟨⟨⟨⟨⟨⟨L,an⟩,N⟩,O⟩,bN⟩,bT⟩,Q⟩:=k;have L:=aK L;have an:=aK an;have N:=aK N;have O:=aK O;have Q:=aK Q;rw[kQ]at Q;subst N O bN bT;have⟨i,b7,bs,s,X,aE⟩:=bA.tO;have⟨V,D,C⟩:=U.box n i s;rw[E]at D;cases D;have b8:av=i.ep:=C.ep;have ap:b6=i.sz:=C.sz;have b9:i.cap=ar.length:=(C.plain rfl).wW rfl;have W:=aE J;simp at W;subst W;have b:B1 n r 0 d false (jc g 0) (jc f d) l=G v:=b;unfold B1 at b;obtain⟨I,b⟩:=fq.1 b;obtain⟨z,b⟩:=fq.1 b;have I:=bp I;have z:=bp z;simp only[jx,fw,Nat.add_eq,cV,Nat.sub_eq]at b;have ae:(∀c,l=G c->c=jc f d)->
  (execOp a.eval o).run P w= .ok (.value (.slice (some (if jc l d=jc g 0 then⟨i.jV,0,none⟩else(⟨i.jV,0,none⟩:Addr).add (jc g 0*ao.size))) (jc f d-jc g 0) (jc l d-jc g 0))) w:=by
  intro aA;have s:=uw (P:=P) (w:=w) (isS:=false) (len:=d) (cap:=d) bW bX bZ (by
   intro c a8;have p:=aA c a8;rcases f with _|q
   simp_all[AI];have p:c=q:=p;subst p;have cb:c<=d:=z
   grind) I z (ay _)
  simp[execOp,bn,Instr.sliceAt,run_underlying aX,bs,Instr.sureAddr,s,bu]
 have aN:∀B:Nat,(⟨i.jV,0,none⟩:Addr).add (B*ao.size)=⟨i.jV,B*i.sz,none⟩:=by
  intro B;rw[mG,<-L,ap];simp
 rcases Z:l with _|c;subst Z;have A:=ae Y;have b:some (T.arr n r (jc g 0) (jc f d-jc g 0) false)=G v:=b;cases b;refine j4.pure U A (.arr _ _ _ _ _ i _ _ s X ?_ λa7=>⟨Y,λ_=>?_,λbi=>?_⟩)
 grind [jc]
 grind [jc]
 grind
 subst Z;have b:iX (Nat.beq c (jc f d)) (some (T.arr n r (jc g 0) (jc f d-jc g 0) true))=G v:=b;obtain⟨p,b⟩:=fq.1 b;have p:=aK p;cases b;have A:=ae c5;have br:jc (some c) d=jc f d:=p;rw[br]at A;refine j4.pure U A (.arr _ _ _ _ _ i _ _ s X (ay _) λa7=>⟨λ_=>rfl,Y,λbi=>?_⟩);have ax:¬jc f d=jc g 0:=J;rw[aq ax,aN]
theorem JL(j8:jR P cx){t:ab}{x:ah}{ea de cp:aa ah}(m:St cx base w.heap μ h)(r:mo w.heap μ V e a.tmps)(bZ:o.op= .slice t x ea de cp){K:T}{bA:H}
 (j:GP t x ea de cp cx V e h=be K bA):j4 cx base w μ h.size ((execOp a.eval o).run P w) K bA:=by
 replace j:=eQ.1 j;obtain⟨eb,eF,j⟩:=j;replace j:=eQ.1 j;obtain⟨p,hp,j⟩:=j;replace j:=fq.1 j;obtain⟨l,j⟩:=j;replace j:=eQ.1 j;obtain⟨g,eu,j⟩:=j;replace j:=eQ.1 j;obtain⟨i,et,j⟩:=j;replace j:=eQ.1 j;obtain⟨N,eB,j⟩:=j;replace j:=fq.1 j;obtain⟨dn,j⟩:=j;obtain⟨f,rfl⟩:=iI.1 j;have cL:=yc m r eu;have c1:=yc m r et;have bs:=yc m r eB;obtain⟨d,bT,av⟩:=mp (j8.ty _ _ eF);have an:=iU m r hp;by_cases eh:∃n aE,eb.u= .array n aE;obtain⟨n,aE,b9⟩:=eh;rw[b9]at l av f;have:=u7 av;subst this;exact KN j8 m bZ bT an cL c1 bs dn l f;unfold jL at l;cases b9:eb.u<;>rw[b9]at l av f<;>(try simp at l)
 
 have:=uR av;subst this;replace f:sK p g i N=G K:=f;cases p<;>simp at l;rename_i X;obtain⟨E,ee⟩:=an.m7;unfold sK at f;rcases D:N with _|k
 subst D;have f:iX (Nat.ble (jc g 0) (jc i (oo X))) (Z (Oo X (jc g 0) (jc i (oo X))) λr=>some (T.str r))=G K:=f;rw[kQ]at f;replace f:=fq.1 f;obtain⟨v,f⟩:=f;have v:=bp v;replace f:=eQ.1 f;obtain⟨q,b7,f⟩:=f;obtain⟨a8,rfl⟩:=CV v b7;simp at f;subst f;have eA:cp=none:=by rcases bs with⟨U,_⟩|⟨_,_,_,_,U,_⟩;exact U;simp at U
 subst eA;have C:=uw (P:=P) (w:=w) (isS:=false) (len:=X.length) (cap:=X.length) cL c1 bs Y v a8 (ay _);simp only[Option.map_none]at C;refine j4.pure (c:= .string ((bytesOf X).extract (jc g 0) (jc i X.length))) m ?_ ?_;simp[execOp,bZ,Instr.sliceAt,Instr.slice,run_underlying bT,E,mJ,C];rw[EQ];exact .str _ λc al=>ee c (bY (bU al));rw[D]at f;simp at f;rename_i aE;have:=nU av;subst this;replace f:sK p g i N=G K:=f;rcases b8:cx.ty aE with _|aA
 rw[b8]at l;simp at l;rw[b8]at l;have eC:∀k,N=G k->i.isSome=true:=by
  intro k bn;subst bn;rcases i with _|U
  simp[AI]at dn;rfl
 have S:∀(A:aa Addr) (len cap:Nat),a.eval x= .slice A len cap->len<=cap->jc g 0<=jc i len->jc i len<=len->(∀k,N=G k->k=jc i len)->
  (execOp a.eval o).run P w= .ok (.value (.slice (if jc N cap=jc g 0 then A else A.map (·.add (jc g 0*aA.size))) (jc i len-jc g 0) (jc N cap-jc g 0))) w:=by
  intro A len cap O al ae R ap;have C:=uw (P:=P) (w:=w) (isS:=true) (len:=len) (cap:=cap) cL c1 bs (by
   intro k bn;have br:=eC k bn;have z:=ap k bn;rcases i with _|U
   simp at br;have z:=z;subst z;have R:=R;exact⟨J,rfl⟩) ae R al
  simp[execOp,bZ,Instr.sliceAt,Instr.slice,run_underlying bT,O,C,((j8.ty _ _ b8).run_sizeOf w)]
 unfold sK at f;cases p<;>simp at l;rename_i F full;have f:sJ F full (jc g 0) (jc i F.length) N=G K:=by rw[<-kQ];exact f
 unfold sJ at f;replace f:=fq.1 f;obtain⟨v,f⟩:=f;have v:=bp v;replace f:=eQ.1 f;obtain⟨q,b7,f⟩:=f;obtain⟨a8,W⟩:=CV v b7;rcases F with _|⟨bu,F⟩
 obtain⟨A,E⟩:=an.xF;have eE:q=[]:=by rw[W];simp
 rw[eE]at f;have dd:=iC a8;have dk:jc g 0=0:=by simp only[cW]at v;omega
 rcases D:N with _|k;subst D;have f:some (T.fg [] false)=G K:=f;simp at f;subst f;have:=S A 0 0 E (ay _) J J Y;refine j4.pure m this ?_;rw[dk,dd,Ix];exact .qy _ _;subst D;have f:iX (Nat.beq k (jc i 0)) (some (T.fg [] false))=G K:=f;replace f:=fq.1 f;obtain⟨z,f⟩:=f;have z:=aK z;simp at f;subst f;have:=S A 0 0 E (ay _) J J (by intro U ar;simp at ar;omega);refine j4.pure m this ?_;have ey:jc (some k) 0=0:=by show k=0;omega
 rw[dk,dd,ey];exact .qy _ _;obtain⟨eI,off,cap,eG,eH,eK,fz,E,dm,c9,di,eo,ca,br,al,hr⟩:=an.xG;have ds:eG=aA.size:=by
  have l:=l;have:=aK l;rw[kQ]at this;rw[<-this];exact(ca bu Y).symm
 have bi:=iC a8;have a7:=iC v;rcases D:N with _|k
 subst D;have s:=S _ _ _ E di a7 bi Y;rcases q with _|⟨y,ec⟩
 have f:=f;simp at f;subst f;have cb:jc i (F.length+1)-jc g 0=0:=by
  have:=bE List.length W;simp only[cW,List.length_take,List.length_drop,aU]at this;omega
 rw[cb]at s;exact j4.pure m s (.jf _ _);have f:=f;have eD:jc g 0<jc i (F.length+1):=by
  have:=bE List.length W;simp only[aU,List.length_take,List.length_drop]at this;omega
 have L:¬cap=jc g 0:=J;simp only[Ix,L,if_false,dA,mG]at s;refine j4.pure m s ?_;simp only[aw]at f;rw[<-f,<-ds];have:=KL (full:= @Bool.rec (λ_=>Bool) false (Nat.beq (jc i (bu::F).length) (oo (bu::F))) full) (cap:=cap-jc g 0) dm c9 ca br al hr a7 (iC bi) W J (by
  intro C;cases full;simp at C;have C:=C;have:=aK C;rw[kQ]at this;simp only[aU]at this;rw[eo rfl,this])
 exact this;subst D;have f:iX (Nat.beq k (jc i (bu::F).length)) (@List.rec T (λ_=>aa T) (some (T.fg [] false)) (λ_ _ _=>some (T.fg q true)) q)=G K:=f;replace f:=fq.1 f;obtain⟨z,f⟩:=f;have z:=aK z;simp only[aU]at z;have s:=S _ _ _ E di a7 bi (by intro U ar;simp at ar;omega);have b6:jc (some k) cap=jc i (F.length+1):=z;rw[b6]at s;rcases q with _|⟨y,ec⟩
 have f:some (T.fg [] false)=G K:=f;simp at f;subst f;have cb:jc i (F.length+1)-jc g 0=0:=by
  have:=bE List.length W;simp only[cW,List.length_take,List.length_drop,aU]at this;omega
 rw[cb]at s;exact j4.pure m s (.qy _ _);have f:some (T.fg (y::ec) true)=G K:=f;have eD:jc g 0<jc i (F.length+1):=by
  have:=bE List.length W;simp only[aU,List.length_take,List.length_drop]at this;omega
 have L:¬jc i (F.length+1)=jc g 0:=J;simp only[L,if_false,dA,mG]at s;refine j4.pure m s ?_;simp only[aw]at f;rw[<-f,<-ds];exact KL dm c9 ca br al hr a7 (iC bi) W (ay _) (λ_=>rfl)
 
 obtain⟨A,cap,E⟩:=an.DH;have f:=f;replace f:=fq.1 f;obtain⟨ae,f⟩:=f;replace f:=fq.1 f;obtain⟨R,f⟩:=f;have ae:=aK ae;have R:=aK R;rcases D:N with _|k;subst D;have f:=f;simp at f;subst f;have:=S A 0 cap E (az _) J J Y;rw[ae,R]at this;exact j4.pure m this (.jf _ _);subst D;have f:=f;replace f:=fq.1 f;obtain⟨ap,f⟩:=f;have ap:=aK ap;simp at f;subst f;subst ap;have:=S A 0 cap E (az _) J J (by intro U ar;simp at ar;omega);rw[ae,R]at this;exact j4.pure m this (.qy _ _);rename_i b aN ax I full;obtain⟨Q,A,B,E,C,bW,c6,bN⟩:=an.wJ;have f:=f;unfold B1 at f;replace f:=fq.1 f;obtain⟨v,f⟩:=f;replace f:=fq.1 f;obtain⟨aX,f⟩:=f;have v:=bp v;have aX:=bp aX;simp only[jx,fw]at f;have ej:Q.sz=aA.size:=by
  rcases bX:bA.get b with _|ef;rw[bX]at l;simp at l;rw[bX]at l;have l:Nat.beq ef.sz aA.size:=l;rw[<-aK l];exact(m.Pb C bX).1.symm
 have c4:∀c:Nat,B≠0->aN=Q.ep->A.map (·.add (c*aA.size))=G ⟨Q.jV,(ax+c)*Q.sz,none⟩:=by
  intro c L O;rw[(bN O).2.2 L,<-ej];simp[mG,cJ]
 rcases D:N with _|k;subst D;have s:=S A I B E c6 v aX Y;have f:(@Bool.rec (λ_=>aa T) (some (T.arr b aN (ax+jc g 0) (jc i I-jc g 0) false)) (iX (Nat.beq (jc i I) I) (some (T.arr b aN (ax+jc g 0) (jc i I-jc g 0) true))) full)=G K:=f;cases full;simp at f;subst f;refine j4.pure m s (.arr _ _ _ _ _ Q _ _ C bW ?_ λO=>⟨Y,λ_=>?_,λL=>?_⟩);show jc i I-jc g 0<=B-jc g 0;omega;have:=(bN O).2.1 rfl;show ax+jc g 0+(B-jc g 0)=Q.cap;omega;have L:B-jc g 0≠0:=L;have ao:¬jc none B=jc g 0:=by show¬B=jc g 0;omega
 rw[aq ao];exact c4 _ J O;replace f:=fq.1 f;obtain⟨c7,f⟩:=f;have c7:=aK c7;simp at f;subst f;refine j4.pure m s (.arr _ _ _ _ _ Q _ _ C bW ?_ λO=>⟨λ_=>?_,Y,λL=>?_⟩);show jc i I-jc g 0<=B-jc g 0;omega;have:=(bN O).1 rfl;show B-jc g 0=jc i I-jc g 0;omega;have L:B-jc g 0≠0:=L;have ao:¬jc none B=jc g 0:=by show¬B=jc g 0;omega
 rw[aq ao];exact c4 _ J O;subst D;have f:iX (Nat.beq k (jc i I)) (some (T.arr b aN (ax+jc g 0) (jc i I-jc g 0) true))=G K:=f;replace f:=fq.1 f;obtain⟨z,f⟩:=f;have z:=aK z;simp at f;subst f;have s:=S A I B E c6 v aX c5;have b6:jc (some k) B=jc i I:=z;rw[b6]at s;refine j4.pure m s (.arr _ _ _ _ _ Q _ _ C bW (ay _) λO=>⟨λ_=>rfl,Y,λL=>?_⟩);have ao:¬jc i I=jc g 0:=J;rw[aq ao]
 grind
 grind
end
end
section
section
variable {P:ai}{cx:Ctx}{base:Nat}{w:World}{μ:Mu}{h h':H}{V:Nat}{e:Env}{a:Act}{o:Oper}{hp hp':af Obj}
def St.fV(g:St cx base hp μ h){b:Nat}{c:Loc}(f:μ b=G c):b<h.size:=by
 have⟨i,d,_⟩:=g.box b c f;rw[H.get_eq]at d
 grind
def St.Uu(c:St cx base hp μ h):μ h.size=none:=by rcases b:μ h.size with _|d;rfl;exact absurd (c.fV b) (Nat.lt_irrefl _)
def uK(μ:Mu)(d:Nat)(c:Loc):Mu:=⟨λb=>if b=d then some c else μ b,μ.qJ⟩
theorem kw(μ:Mu)(c:Nat)(b:Loc):uK μ c b c=G b:=by simp[uK]
theorem jN(μ:Mu){c b:Nat}(d:Loc)(h:b≠c):uK μ c d b=μ b:=by simp[uK,h]
def H.cons(h:H)(b:jO):H:=⟨h.size+1,h.low,b::h.iA⟩
def H.ny(b:Nat->T)(h:H)(c:jO):h.new b c=G (b h.size,h.cons c):=H.Uv b h c
def H.wT(c:h.iA.length=h.size)(b:jO):(h.cons b).get h.size=G b:=by rw[H.get_eq];simp[H.cons]
theorem H.pY{b:Nat}(f:b<h.size)(c:jO):(h.cons c).get b=h.get b:=by
 rw[H.get_eq,H.get_eq];have d:b<(h.cons c).size:=by show b<h.size+1;omega
 rw[au d,au f];show(c::h.iA)[h.size+1-1-b]? =_;have:h.size+1-1-b=(h.size-1-b)+1:=J;rw[this];simp
def St.new(d:St cx base hp μ h)(n:Obj)(l:Loc)(m:jO)(z:l.jV=hp.size)(D:Ext hp μ (hp.push n) (uK μ h.size l)->uQ (hp.push n) (uK μ h.size l) l m):
 St cx base (hp.push n) (uK μ h.size l) (h.cons m)/\Ext hp μ (hp.push n) (uK μ h.size l)/\BT μ (uK μ h.size l) h.size (h.cons m).size:=by
 have p:Ext hp μ (hp.push n) (uK μ h.size l):=by
  refine⟨Y,λr C t=>⟨?_,?_⟩,λb k c=>?_,rfl,λr C _=>?_⟩
  rotate_right
  rw[dI];grind;rw[dI];grind;rintro(⟨b,k,c,rfl⟩|hr);by_cases i:b=h.size;subst i;rw[kw]at c;grind;rw[jN _ _ i]at c;exact t (.inl ⟨b,k,c,rfl⟩);exact t (.inr hr);have:b≠h.size:=by rintro rfl;rw[d.Uu]at c;grind
  exact⟨k,by rw[jN _ _ this];exact c,.inl rfl⟩
 refine⟨⟨?_,?_,?_,?_,?_,?_,?_,?_⟩,p,?_⟩;show(m::h.iA).length=h.size+1;simp[d.wf];simp;have:=d.fit;omega;intro b k c;by_cases i:b=h.size;subst i;rw[kw]at c;simp at c;subst c;exact⟨m,H.wT d.wf m,D p⟩;rw[jN _ _ i]at c;have⟨E,j,g⟩:=d.box b k c;refine⟨E,by rw[H.pY (d.fV c)];exact j,g.ext p ?_⟩;have:=d.lt c;rw[dI];grind;intro b s u v j g A;by_cases c:b=h.size<;>by_cases q:s=h.size;omega;subst c;rw[kw]at j;simp at j;subst j;rw[jN _ _ q]at g;have:=d.lt g;omega;subst q;rw[kw]at g;simp at g;subst g;rw[jN _ _ c]at j;have:=d.lt j;omega;rw[jN _ _ c]at j;rw[jN _ _ q]at g;exact d.inj b s u v j g A;intro b k c;by_cases i:b=h.size;subst i;rw[kw]at c;simp at c;subst c;rw[z];exact d.fit;rw[jN _ _ i]at c;exact d.low b k c;intro b k c hr;by_cases i:b=h.size;subst i;rw[kw]at c;simp at c;subst c;have:=d.uM _ hr;omega;rw[jN _ _ i]at c;exact d.apart b k c hr;intro r hr;have:=d.uM r hr
 grind
 intro y x B;exact(d.CH y x B).ext p;refine⟨by show h.size<=h.size+1;omega,λb c=>?_,λb j g=>?_⟩;by_cases i:b=h.size;right;exact⟨J,by show b<h.size+1;omega⟩
 grind [jN]
 have:b=h.size:=by have g:b<h.size+1:=g;omega
 subst this;rw[kw];simp
def EZ{c:Nat}{d:jO}(f:h.put c d=G h')(k:h.iA.length=h.size):
 h'.size=h.size/\h'.iA.length=h'.size/\h'.get c=G d/\∀b,b≠c->h'.get b=h.get b:=by
 obtain⟨g,i,rfl⟩:=H.zo.1 f;refine⟨rfl,by grind,?_,λb j=>?_⟩;rw[H.get_eq];grind;rw[H.get_eq,H.get_eq]
 grind
def St.change(d:St cx base hp μ h){f:Nat}{i L':Loc}{B:jO}(p:μ f=G i)(I:h.put f B=G h')(A:hp.size<=hp'.size)(x:∀n,n<hp.size->n≠i.jV->hp'[n]? =hp[n]?)
 (L:L'=i\/(i.ep<L'.ep/\(L'.jV=i.jV\/hp.size<=L'.jV))) (N:Ext hp μ hp' (uK μ f L')->uQ hp' (uK μ f L') L' B):
 St cx base hp' (uK μ f L') h'/\Ext hp μ hp' (uK μ f L')/\BT μ (uK μ f L') h.size h'.size:=by
 have⟨p1,p2,p3,p4⟩:=EZ I d.wf;have q:L'.jV=i.jV\/hp.size<=L'.jV:=by
  grind
 have u:Ext hp μ hp' (uK μ f L'):=by
  refine⟨A,λn v t=>⟨x n v λk=>t (.inl ⟨f,i,p,k.symm⟩),?_⟩,λc m b=>?_,rfl,λn v hr=>x n v λk=>d.apart f i p (k▸hr)⟩;rintro(⟨c,m,b,rfl⟩|hr);by_cases g:c=f;subst g;rw[kw]at b;simp at b;subst b;rcases q with k|k
  exact t (.inl ⟨c,i,p,k.symm⟩);omega;rw[jN _ _ g]at b;exact t (.inl ⟨c,m,b,rfl⟩);exact t (.inr hr);by_cases g:c=f;subst g;rw[p]at b;grind [kw];exact⟨m,by rw[jN _ _ g];exact b,.inl rfl⟩
 refine⟨⟨p2,iV d.fit,?_,?_,?_,?_,λn hr=>bS (d.uM n hr) A,?_⟩,u,⟨J,λc b=>?_,λc j l=>by omega⟩⟩;intro c m b;by_cases g:c=f;subst g;rw[kw]at b;grind;rw[jN _ _ g]at b;have⟨K,j,l⟩:=d.box c m b;refine⟨K,p4 c g▸j,l.ext u (x _ (d.lt b) λk=>g (d.inj c f m i b p k))⟩;intro c r y z j l E;by_cases b:c=f<;>by_cases s:r=f;omega;subst b;rw[kw]at j;simp at j;subst j;rw[jN _ _ s]at l;rcases q with k|k
 exact absurd (d.inj r c z i l p J) s;have:=d.lt l;omega;subst s;rw[kw]at l;simp at l;subst l;rw[jN _ _ b]at j;rcases q with k|k
 exact absurd (d.inj c r y i j p J) b;have:=d.lt j;omega;rw[jN _ _ b]at j;rw[jN _ _ s]at l;exact d.inj c r y z j l E;intro c m b;by_cases g:c=f;subst g;rw[kw]at b;simp at b;subst b;rcases q with k|k
 rw[k];exact d.low _ _ p;have:=d.fit;omega;rw[jN _ _ g]at b;exact d.low c m b;intro c m b hr;by_cases g:c=f;subst g;rw[kw]at b;simp at b;subst b;rcases q with k|k
 exact d.apart c i p (k▸hr);have:=d.uM _ hr;omega;rw[jN _ _ g]at b;exact d.apart c m b hr;intro D C F;exact(d.CH D C F).ext u
 grind [jN]
end
end
section
section
variable {P:ai}{cx:Ctx}{base:Nat}{w:World}{μ:Mu}{h h':H}{V:Nat}{e:Env}{a:Act}{o:Oper}{hp hp':af Obj}
theorem km{b:aa (T×H)}{c:T}{h':H}:kJ b=be c h'↔b=G (c,h'):=by
 unfold kJ;rcases b with _|d
 simp;obtain⟨g,f⟩:=d;simp
def At(r:St cx base w.heap μ h)(b:ab){arr:af am}{cap sz:Nat}{ex:Bool}{es:List T}(k:arr.size=cap*sz)(n:es.length<=cap)(l:ex->cap=es.length)
 (q:∀d∈es,d.cells.length=sz) (p:∀d∈iy es,d.scalar) (j:ja w.heap μ (iy es) (arr.toList.take (iy es).length)):
 ∃c,St cx base (w.heap.push (.cells arr b)) c (h.cons (oO sz ex es))/\tH w μ {w with heap:=w.heap.push (.cells arr b)} c/\BT μ c h.size (h.cons (oO sz ex es)).size/\
  c h.size=G ⟨0,w.heap.size,cap,sz⟩:=by
 have⟨f,g,i⟩:=r.new (.cells arr b) ⟨0,w.heap.size,cap,sz⟩ (oO sz ex es) rfl (by
  intro m;refine⟨rfl,rfl,λ_=>⟨⟨arr,b,Y,k,j.ext m⟩,n,l,q,p⟩,λs=>by grind [oO]⟩)
 exact⟨_,f,⟨g,rfl,rfl,rfl⟩,i,kw _ _ _⟩
def B4{b:T}(h:b.scalar):b.cells=[b]:=by cases b<;>first|rfl|grind [T.scalar]
def CJ{b:List T}(h:∀c∈b,c.scalar):iy b=b:=by
 induction b with
 |nil=>rfl
 |cons c b f=>
  have d:=f λg i=>h g c5;unfold iy at d|-;rw[bh,(B4 (h c Y)),d];rfl
theorem JR(j8:jR P cx){g:ab}(u:St cx base w.heap μ h)(r:o.op= .alloc g){v:T}
 (b:GU g cx V e h=be v h'):j4 cx base w μ h.size ((execOp a.eval o).run P w) v h':=by
 obtain⟨c,x,b⟩:=eQ.1 b;have⟨f,s,_,y,i,A,t,z,B⟩:=(j8.ty _ _ x).zero w;cases q:Ay cx c;rw[q]at b;have b:=b;rw[km,H.ny]at b;simp[aw,aH]at b;obtain⟨rfl,rfl⟩:=b;have⟨p,j,k,l,m⟩:=At u g (arr:=f.cells) (cap:=1) (sz:=c.size) (ex:=true) (es:=[c.ls]) J Y Y
  (by intro n d;simp at d;subst d;rw[t];omega) (by intro n d;simp[iy]at d;rw[t]at d;grind)
  (by
    have:iy [c.ls]=c.zero:=by grind [iy]
    rw[this];have hl:f.cells.toList.take c.zero.length=f.cells.toList:=by grind [cd]
    rw[hl];grind)
 refine⟨.pointer (some ⟨w.heap.size,0,none⟩),_,p,.inl ?_,.ptr _ 0 0 0 _ _ m (ay _) (λ_=>by simp),j,k,l⟩;simp[execOp,r,Instr.alloc,s,newVar,newRow];rw[q]at b;have b:=b;rw[km,H.ny]at b;simp[aw,aH]at b;obtain⟨rfl,rfl⟩:=b;have⟨p,j,k,l,m⟩:=At u g (arr:=f.cells) (cap:=c.zero.length) (sz:=1) (ex:=true) (es:=c.zero) J (ay _) (λ_=>rfl)
  (by intro n d;rw[B4 (i n d)];rfl) (by rw[CJ i];omega)
  (by
    rw[CJ i];have hl:f.cells.toList.take c.zero.length=f.cells.toList:=by grind [cd]
    rw[hl];grind)
 refine⟨.pointer (some ⟨w.heap.size,0,none⟩),_,p,.inl ?_,.ptr _ 0 0 0 _ _ m (ay _) (λ_=>by simp),j,k,l⟩;simp[execOp,r,Instr.alloc,s,newVar,newRow]
theorem N5{i:ab}{d:ah}(g:St cx base w.heap μ h)(s:mo w.heap μ V e a.tmps)(m:o.op= .box i d){j:T}
 (b:RM d cx V e h=be j h'):j4 cx base w μ h.size ((execOp a.eval o).run P w) j h':=by
 obtain⟨c,hp,b⟩:=eQ.1 b;obtain⟨k,b⟩:=fq.1 b;rw[km,H.ny]at b;simp only[aw,aH]at b;obtain⟨rfl,rfl⟩:=b;have⟨f,u,_⟩:=(iU g s hp).cells k;have l:=f.1;have⟨t,n,p,q,r⟩:=At g i (arr:=(a.eval d).cells) (cap:=1) (sz:=c.cells.length) (ex:=true) (es:=[c]) c5 Y Y
  Y (by grind [iy])
  (by
    have:iy [c]=c.cells:=by simp[iy]
    rw[this,l,aI];exact f)
 rw[kQ];refine⟨.pointer (some ⟨w.heap.size,0,none⟩),_,t,.inl ?_,.ptr _ 0 0 0 _ _ r (ay _) (λ_=>by simp),n,p,q⟩;simp[execOp,m,Instr.box,newVar,newRow]
def W1(b c:List T):over b c=if c.length<=b.length then some (c++b.drop c.length)else none:=by
 induction c generalizing b with
 |nil=>rfl
 |cons i c f=>cases b with
  |nil=>rfl
  |cons j b=>
   show(Z (over b c) λg=>some (i::g))=_;rw[f];by_cases d:c.length<=b.length<;>simp[d]
def wZ(b:List T)(c:Nat)(d:List T):mR b c d=if c+d.length<=b.length then some (b.take c++d++b.drop (c+d.length))else none:=by
 induction c generalizing b with
 |zero=>show over b d=_;rw[W1];simp
 |succ c j=>cases b with
  |nil=>show none=_;simp
  |cons f b=>
   show(Z (mR b c d) λk=>some (f::k))=_;rw[j];have g:c+1+d.length=(c+d.length)+1:=J;by_cases i:c+d.length<=b.length;rw[au i,au c5,g];simp;simp_all[aq]
def rI{b d f:List T}{c:Nat}(g:mR b c d=G f):c+d.length<=b.length/\f=b.take c++d++b.drop (c+d.length):=by
 rw[wZ]at g
 grind
def NQ{d g f:List T}{j:Nat}(i:mR d j g=G f){c:T->Prop}(k:∀b∈d,c b)(l:∀b∈g,c b):∀b∈f,c b:=by
 obtain⟨_,rfl⟩:=rI i
 grind
def I0{cells:af am}{c:am}{off:Nat}(k:off+c.cells.size<=cells.size):
 (c.cells.zipIdx.foldl (λd (b:am×Nat)=>d.setIfInBounds (off+b.2) b.1) cells).toList=cells.toList.take off++c.cells.toList++cells.toList.drop (off+c.cells.size):=by
 have g:c.cells.zipIdx.foldl (λd (b:am×Nat)=>d.setIfInBounds (off+b.2) b.1) cells=(c.cells.toList.zipIdx 0).foldl (λd (b:am×Nat)=>d.setIfInBounds (off+b.2) b.1) cells:=by
  rw[<-Array.foldl_toList,Array.toList_zipIdx]
 rw[g];have⟨j,f⟩:=Great.foldl_set off c.cells.toList 0 cells;apply dB;intro i;have:=f i;rw[<-Array.getElem?_toList]at this;rw[this]
 grind
def G5(place:Nat->aa (Nat×Nat))(b:Nat×T)(d:List (Nat×T))(c:List T):
 o9 place (b::d) c=Z (place b.1) λf=>iX (Nat.beq (oo b.2.cells) f.2) (Z (mR c f.1 b.2.cells) λg=>o9 place d g):=rfl
def Sb(hp:af Obj)(μ:Mu)(g:List (Nat×T))(qs:List (Nat×am)):Prop:=
 g.length=qs.length/\∀(f:Nat) d b,g[f]? =G (d,b)->∃c,qs[f]? =G (d,c)/\iz hp μ b c/\b.je=true
def Sb.oK{b:Nat×T}{g:List (Nat×T)}{qs:List (Nat×am)}(h:Sb hp μ (b::g) qs):∃c i,qs=(b.1,c)::i/\iz hp μ b.2 c/\b.2.je/\Sb hp μ g i:=by
 obtain⟨hl,f⟩:=h;rcases qs with _|⟨p,qs⟩
 grind
 have⟨c,d,hr,j⟩:=f 0 b.1 b.2 Y;simp at d;subst d;exact⟨c,qs,rfl,hr,j,by grind,λl k m n=>iC (f (l+1) k m c5)⟩
def AT(s:St cx base w.heap μ h)(r:mo w.heap μ V e a.tmps){c:List (Nat×ah)}{j:List (Nat×T)}(g:partsOf cx V e c=G j):
 Sb w.heap μ j (c.map λi=>(i.1,a.eval i.2)):=by
 unfold partsOf at g;have⟨hl,l⟩:=vI.1 g;refine⟨by grind,λd u x n=>?_⟩;have t:d<c.length:=by
  grind
 have⟨y,f,b⟩:=l d c[d] Y;rw[n]at f;simp at f;subst f;rcases m:c[d]with⟨v,q⟩;rw[m]at b;have b:=b;have⟨z,p,b⟩:=eQ.1 b;have⟨k,b⟩:=fq.1 b;simp at b;obtain⟨rfl,rfl⟩:=b;exact⟨a.eval q,by grind,iU s r p,k⟩
def yF{place place':Nat->aa (Nat×Nat)}(I:∀t f,place t=G f->place' t=G f):∀(k:List (Nat×T)) (qs:List (Nat×am)) (d g:List T) (cells:af am),
 Sb hp μ k qs->ja hp μ d cells.toList->(∀n∈d,n.scalar=true)->o9 place k d=G g->
 ∃j,Instr.fill place' cells qs=G j/\ja hp μ g j.toList/\(∀n∈g,n.scalar=true)/\j.size=cells.size:=by
 intro k;induction k with
 |nil=>
  intro qs d g cells hp i m b;have:=bC hp.1.symm;subst this;have:g=d:=by grind [o9]
  subst this;exact⟨cells,rfl,i,m,rfl⟩
 |cons V k L=>
  intro qs d g cells z i m b;obtain⟨c,S,rfl,hr,D,A⟩:=z.oK;rw[G5]at b;have⟨f,K,b⟩:=eQ.1 b;have⟨hl,b⟩:=fq.1 b;have⟨q,r,b⟩:=eQ.1 b;have⟨p,v,_⟩:=hr.cells D;have F:=aK hl;rw[kQ]at F;have⟨U,C⟩:=rI r;have x:=i.1;have l:=p.1;simp only[c8]at x l;have E:f.1+c.cells.size<=cells.size:=J;have s:=I0 (cells:=cells) (c:=c) E;have y:ja hp μ q (c.cells.zipIdx.foldl (λd (u:am×Nat)=>d.setIfInBounds (f.1+u.2) u.1) cells).toList:=by
   rw[s,C,<-l];exact((i.take f.1).append p).append (l▸i.drop _)
  have⟨j,N,O,Q,R⟩:=L S q g _ A y (NQ r m v) b;refine⟨j,?_,O,Q,?_⟩;simp only[Instr.fill,I _ _ K];have B:¬(c.cells.size≠f.2||decide (f.1+c.cells.size>cells.size))=true:=by grind
  rw[aq B];exact N;rw[R];have:=bE List.length s
  grind
end
end
section
section
variable {P:ai}{cx:Ctx}{base:Nat}{w:World}{μ:Mu}{h h':H}{V:Nat}{e:Env}{a:Act}{o:Oper}{hp hp':af Obj}
def Eu:∀(c:List Field),(∀f∈c,∃b,P.info? f.type=G b/\b.size≠0)->∃j,c.mapM (λf=>(P.info? f.type).map λb=>(f.offset,b.size))=G j/\
 ∀(d:Nat) f b,c[d]? =G f->P.info? f.type=G b->j[d]? =G (f.offset,b.size)
 | [],_=>⟨[],rfl,λd f b k=>by grind⟩
 |f::c,i=>by
  have⟨b,q,_⟩:=i f Y;have⟨l,m,n⟩:=Eu c λg p=>i g c5;refine⟨(f.offset,b.size)::l,by simp_all,λd g s k r=>?_⟩
  grind
def Cu(c:af (Nat×ah)):(c.map λ(d,f)=>(d,a.eval f)).toList=c.toList.map λb=>(b.1,a.eval b.2):=by simp
theorem JQ(j8:jR P cx){t:ab}{D:af (Nat×ah)}(U:St cx base w.heap μ h)(r:mo w.heap μ V e a.tmps)(ao:o.op= .build t D){l:T}
 (b:DT t D cx V e h=be l h'):j4 cx base w μ h.size ((execOp a.eval o).run P w) l h':=by
 replace b:=eQ.1 b;obtain⟨a8,aN,b⟩:=b;replace b:=eQ.1 b;obtain⟨S,av,b⟩:=b;have L:=AT U r av;obtain⟨br,d,W,F,I,K,Z,x,_⟩:=(j8.ty _ _ aN).unfold;obtain⟨O,Q⟩:=ja.wF (hp:=w.heap) (μ:=μ) Z;have fin:∀(i:af am) (g:List T),P.built t (D.toList.map λR=>(R.1,a.eval R.2))=G i->ja w.heap μ g i.toList->(∀l∈g,l.scalar=true)->l= .agg g->h'=h->
  j4 cx base w μ h.size ((execOp a.eval o).run P w) l h':=by
  rintro i g N ae ax rfl rfl;refine j4.pure U ?_ (iz.C4 ae ax);rw[<-Cu]at N;simp[execOp,ao,run_build w t _ i N,Result.andThen_ok]
 cases aX:a8.u<;>rw[aX]at b x<;>simp at b;rename_i n bi;have:=u7 x;subst this;replace b:=eQ.1 b;obtain⟨bs,aA,b⟩:=b;replace b:=eQ.1 b;obtain⟨g,y,b⟩:=b;obtain⟨m,rfl⟩:=iI.1 b;simp at m;subst m;obtain⟨s,_,_,p,_,_,_,_,_,_,v,_⟩:=(j8.ty _ _ aA).unfold;obtain⟨i,A,B,C,_⟩:=yF (place':=λk=>some (k*s.size,s.size)) (by intro k q c;rw[v];exact c) S _ _ _ W.cells L O Q y;exact fin i g (by simp[Program.built,F,I,K,p];exact A) B C rfl rfl;rename_i bn;obtain⟨E,rfl,an,al⟩:=Bc x;replace b:=eQ.1 b;obtain⟨g,y,b⟩:=b;obtain⟨m,rfl⟩:=iI.1 b;simp at m;subst m;obtain⟨a7,ap,ar⟩:=Eu E.toList al;obtain⟨i,A,B,C,_⟩:=yF (place':=λk=>a7.toArray[k]?) (by
  intro k q c;obtain⟨f,j,c⟩:=eQ.1 c;obtain⟨bu,aE,c⟩:=eQ.1 c;simp at c;rw[an]at j;rw[bw]at j;rcases z:E.toList[k]? with _|X
  rw[z]at j;grind;rw[z]at j;simp at j;obtain⟨s,_,_,p,_,_,_,_,_,_,v,_⟩:=(j8.ty _ _ aE).unfold;rw[<-j]at p;have:=ar k X s z p;rw[<-j]at c;simp[]at c;rw[<-c,<-v]
  grind) S _ _ _ W.cells L O Q y
 exact fin i g (by simp only[Program.built,F,I,K,ap];exact A) B C rfl rfl
def L8{d:Nat}{b:List T}(g:∀f∈b,f.cells.length=d){c:Nat}(i:c<b.length)(f:T):iy (b.set c f)=(iy b).take (c*d)++f.cells++(iy b).drop (c*d+d):=by rw[vk g,<-cD,tc g,List.set_eq_take_append_cons_drop,au i,pZ,ot,aO]
def vQ{c:T}(b:Nat):iy (List.replicate b c)=(List.replicate b c.cells).flatten:=by
 induction b with
 |zero=>rfl
 |succ b d=>rw[dJ,ot,d,dJ,List.flatten_cons]
def Dl{b:af am}(c:Nat)(g:0<b.size):((Array.range (c*b.size)).map (b[· % b.size]!)).toList=(List.replicate c b.toList).flatten:=by
 induction c with
 |zero=>simp
 |succ c f=>
  have d:(Array.range ((c+1)*b.size)).toList=(Array.range (c*b.size)).toList++(List.range b.size).map (c*b.size+ ·):=by
   simp[Array.toList_range];rw[cD,List.range_add]
  rw[Array.toList_map,d,List.map_append,<-Array.toList_map,f,List.replicate_succ',List.flatten_append];congr 1;simp[List.flatten_cons,List.flatten_nil,cq,List.map_map];apply List.ext_getElem;simp;simp_all[Nat.mod_eq_of_lt]
theorem ja.replicate{d:List T}{c:List am}(f:ja hp μ d c)(b:Nat):ja hp μ (List.replicate b d).flatten (List.replicate b c).flatten:=by
 induction b with
 |zero=>exact ja.nil
 |succ b g=>rw[dJ,dJ,List.flatten_cons,List.flatten_cons];exact f.append g
def G4(b:Nat)(f:Nat)(c:T)(g:List (Nat×T))(d:List T):tg b ((f,c)::g) d=iX (Nat.beq (oo c.cells) b) (Z (nH d f c) λi=>tg b g i):=rfl
def EM{b:Nat}(Z:0<b):∀(m:List (Nat×T)) (qs:List (Nat×am)) (f g:List T) (cells:af am),
 Sb hp μ m qs->(∀d∈f,d.cells.length=b)->ja hp μ (iy f) cells.toList->(∀d∈iy f,d.scalar=true)->tg b m f=G g->
 ∃q,Instr.fill (λi=>some (i*b,b)) cells qs=G q/\ja hp μ (iy g) q.toList/\(∀d∈iy g,d.scalar=true)/\(∀d∈g,d.cells.length=b)/\g.length=f.length:=by
 intro m;induction m with
 |nil=>
  intro qs f g cells hp p l y j;have:=bC hp.1.symm;subst this;have:g=f:=by grind [tg]
  subst this;exact⟨cells,rfl,l,y,p,rfl⟩
 |cons U m N=>
  intro qs f g cells B p l y j;obtain⟨c,V,rfl,hr,E,C⟩:=B.oK;obtain⟨i,d⟩:=U;rw[G4]at j;obtain⟨hl,j⟩:=fq.1 j;obtain⟨X,n,j⟩:=eQ.1 j;have x:=aK hl;rw[kQ]at x;rw[mv]at n;split at n;rename_i v;simp at n;subst n;obtain⟨r,W,_⟩:=hr.cells E;have s:=l.1;have t:=r.1;simp only[c8]at s t;have F:i*b+c.cells.size<=cells.size:=by
   rw[<-s,(ji p),<-t,x,<-cD];exact bG _ v
  have u:=L8 p v d;have K:∀k∈f.set i d,k.cells.length=b:=by
   grind
  have A:ja hp μ (iy (f.set i d)) (c.cells.zipIdx.foldl (λz (k:am×Nat)=>z.setIfInBounds (i*b+k.2) k.1) cells).toList:=by
   rw[(I0 (cells:=cells) (c:=c) F),u];have:c.cells.size=b:=J;rw[this];exact((l.take _).append r).append (l.drop _)
  have I:∀k∈iy (f.set i d),k.scalar:=by
   intro k L;rw[u]at L
   grind
  obtain⟨q,O,Q,R,S,ae⟩:=N V _ g _ C K A I j;refine⟨q,?_,Q,R,S,by grind⟩;simp only[Instr.fill];have D:¬(c.cells.size≠b||decide (i*b+c.cells.size>cells.size))=true:=by grind
  rw[aq D];exact O
  grind
theorem CG(j8:jR P cx){N:ab}{c:Nat}{z:af (Nat×ah)}(L:St cx base w.heap μ h)(r:mo w.heap μ V e a.tmps)(E:o.op= .buildSlice N c z){g:T}
 (b:qY N c z cx V e h=be g h'):j4 cx base w μ h.size ((execOp a.eval o).run P w) g h':=by
 replace b:=eQ.1 b;obtain⟨bn,al,b⟩:=b;obtain⟨d,C,I⟩:=mp (j8.ty _ _ al);cases ao:bn.u<;>rw[ao]at b I<;>simp at b;rename_i B;have:=nU I;subst this;replace b:=eQ.1 b;obtain⟨f,n,b⟩:=b;replace b:=eQ.1 b;obtain⟨bi,X,b⟩:=b;replace b:=fq.1 b;obtain⟨F,b⟩:=b;replace b:=fq.1 b;obtain⟨l,b⟩:=b;replace b:=eQ.1 b;obtain⟨es,D,b⟩:=b;rw[km,H.ny]at b;simp[aw,aH]at b;obtain⟨rfl,rfl⟩:=b;have F:=bp F;have l:=bp l;have l:=l;rw[<-tK]at*
 obtain⟨A,ar,bA,ax,bW,bT,q,bN,aA⟩:=(j8.ty _ _ n).zero w;have Q:∃i:af am,(if c*f.size=0 then(pure #[]:Sem (af am))else do pure (<-zeroValue B).cells).run P w= .ok (if c*f.size=0 then #[]else A.cells) w/\
  ((Array.range (c*f.size)).map ((if c*f.size=0 then #[]else A.cells)[· % (if c*f.size=0 then #[]else A.cells).size]!))=i/\ja w.heap μ (iy (List.replicate c f.ls)) i.toList:=by
  by_cases j:c*f.size=0;have S:c=0:=by
   grind [Nat.mul_eq_zero]
  subst S;refine⟨_,Y,rfl,?_⟩;simp[iy,ja.nil];refine⟨_,by simp_all,rfl,?_⟩;rw[aq j,<-aA,Dl c J,vQ,q];exact(ax _ _).replicate c
 obtain⟨i,bu,p,av⟩:=Q;have an:∀g∈List.replicate c f.ls,g.cells.length=f.size:=by
  intro g k;rw[bV k,q];omega
 have ae:∀g∈iy (List.replicate c f.ls),g.scalar:=by
  intro g k;obtain⟨y,ap,k⟩:=List.mem_flatMap.1 k;rw[bV ap,q]at k
  grind
 rw[tK]at D;obtain⟨v,m,t,a8,K,bX⟩:=EM J bi _ _ es i (AT L r X) an av ae D;have R:es.length=c:=by grind
 have W:v.size=c*f.size:=by
  have:=t.1;rw[ji K,R]at this
  grind
 obtain⟨br,aE,aN,aX,a7⟩:=At L B (arr:=v) (cap:=c) (sz:=f.size) (ex:=true) (es:=es) W J J K a8 (by
  rw[cd];exact t;have:=t.1;omega)
 refine⟨.slice (some ⟨w.heap.size,0,none⟩) c c,_,br,.inl ?_,.arr _ 0 0 c false _ _ c a7 (ay _) (ay _) (λ_=>⟨Y,Y,Y⟩),aE,aN,aX⟩;have U:¬c*f.size>2^24:=J;have bs:Instr.fill (λs=>some (s*f.size,f.size)) i (z.map λ(s,x)=>(s,a.eval x)).toList=G v:=by rw[Cu];exact m
 by_cases j:c*f.size=0;have O:i= #[]:=by rw[<-p,j];simp
 rw[O]at m;have Z:Array.map (λ_=>(default:am)) (Array.range 0)= #[]:=Y;simp[execOp,E,Instr.buildSlice,run_underlying C,(j8.ty _ _ n).run_sizeOf,j,Z,m,newRow];simp[j]at p;simp[execOp,E,Instr.buildSlice,run_underlying C,(j8.ty _ _ n).run_sizeOf,j,U,ar,p,m,newRow]
set_option maxRecDepth 20000 in
theorem DN(j8:jR P cx){W:ab}{X z:ah}(y:St cx base w.heap μ h)(U:mo w.heap μ V e a.tmps)(I:o.op= .makeSlice W X z){i:T}
 (b:sY W X z cx V e h=be i h'):j4 cx base w μ h.size ((execOp a.eval o).run P w) i h':=by
 replace b:=eQ.1 b;obtain⟨bi,ar,b⟩:=b;obtain⟨d,F,O⟩:=mp (j8.ty _ _ ar);cases av:bi.u<;>rw[av]at b O<;>simp at b;rename_i D;have:=nU O;subst this;replace b:=eQ.1 b;obtain⟨f,r,b⟩:=b;replace b:=eQ.1 b;obtain⟨p,hp,b⟩:=b;replace b:=eQ.1 b;obtain⟨q,ao,b⟩:=b;replace b:=eQ.1 b;obtain⟨g,hl,b⟩:=b;replace b:=eQ.1 b;obtain⟨c,Z,b⟩:=b;replace b:=fq.1 b;obtain⟨K,b⟩:=b;replace b:=fq.1 b;obtain⟨E,b⟩:=b;replace b:=fq.1 b;obtain⟨m,b⟩:=b;replace b:=fq.1 b;obtain⟨n,b⟩:=b;rw[km,H.ny]at b;simp only[aw,aH]at b;obtain⟨rfl,rfl⟩:=b;have K:=bp K;have E:=bp E;have m:=bp m;have n:=bp n;obtain⟨bX,rfl⟩:=qz hl;obtain⟨bZ,rfl⟩:=qz Z;have Q:=(iU y U hp).lq;have t:=(iU y U ao).lq;obtain⟨A,ax,bA,aA,bW,bT,x,bN,aE⟩:=(j8.ty _ _ r).zero w;obtain⟨b6,N,L,bs⟩:=(j8.ty _ _ r).run_typeInfo w;have br:c<=70368744177664:=aV (Nat.le_mul_of_pos_right c J) n;have ae:∃k:af am,(if c*f.size=0 then(pure #[]:Sem (af am))else do pure (<-zeroValue D).cells).run P w= .ok (if c*f.size=0 then #[]else A.cells) w/\
  ((Array.range (c*f.size)).map ((if c*f.size=0 then #[]else A.cells)[· % (if c*f.size=0 then #[]else A.cells).size]!))=k/\ja w.heap μ (iy (List.replicate c f.ls)) k.toList:=by
  by_cases j:c*f.size=0;have al:c=0:=by
   grind [Nat.mul_eq_zero]
  subst al;refine⟨_,Y,rfl,?_⟩;simp[iy,ja.nil];refine⟨_,by simp_all,rfl,?_⟩;rw[aq j,<-aE,Dl c J,vQ,x];exact(aA _ _).replicate c
 obtain⟨k,bu,v,R⟩:=ae;have s:∀S,∀i∈List.replicate S f.ls,i.cells.length=f.size:=by
  intro S i l;rw[bV l,x];omega
 have ap:∀i∈iy (List.replicate g f.ls),i.scalar:=by
  intro i l;obtain⟨z,t,l⟩:=List.mem_flatMap.1 l;rw[bV t,x]at l
  grind
 have an:k.size=c*f.size:=by
  have:=R.1;rw[ji (s c)]at this
  grind
 obtain⟨bn,aN,aX,a7,a8⟩:=At y D (arr:=k) (cap:=c) (sz:=f.size) (ex:=Nat.beq g c) (es:=List.replicate g f.ls) an c5 (by simp_all) (s g) ap (by
  rw[ji (s g),List.length_replicate];have:=R.take (g*f.size);rw[vk (s c)]at this;rw[List.take_replicate,cP m]at this;omega)
 refine⟨.slice (some ⟨w.heap.size,0,none⟩) g c,_,bn,.inl ?_,.arr _ 0 0 g false _ _ c a8 (ay _) m (λ_=>⟨Y,Y,Y⟩),aN,aX,a7⟩;have B:IntKind.i64.wrap (Int.ofNat c)=(c:Int):=IntWalk.i64_in (c:Int) ⟨J,J⟩;have C:IntKind.i64.wrap (Int.ofNat g)=(g:Int):=IntWalk.i64_in (g:Int) ⟨J,J⟩;have t1:¬((f.bytes:Int)*(c:Int)>2^48):=by
  have:((c*f.bytes:Nat):Int)<=70368744177664:=Int.ofNat_le.2 n;rw[Int.mul_comm];omega
 have t2:(decide ((c:Int)<0)||decide ((f.bytes:Int)*(c:Int)>2^48)||decide ((g:Int)<0)||decide ((g:Int)>(c:Int)))=false:=by
  grind
 by_cases j:c*f.size=0;simp only[j,if_true]at v;simp only[execOp,I,Instr.makeSlice,Sem.run_bind,run_underlying F,Result.andThen_ok,Q,t,asInt,asIntOf,Sem.run_pure,N,L,B,C,t2,dj,if_false,run_askRoom,(j8.ty _ _ r).run_sizeOf,bO,j,if_true,v,newRow,run_newObj];simp only[j,if_false]at v;simp only[execOp,I,Instr.makeSlice,Sem.run_bind,run_underlying F,Result.andThen_ok,Q,t,asInt,asIntOf,Sem.run_pure,N,L,B,C,t2,dj,if_false,run_askRoom,(j8.ty _ _ r).run_sizeOf,bO,j,ax,v,newRow,run_newObj]
end
end
section
section
variable {P:ai}{cx:Ctx}{base:Nat}{w:World}{μ:Mu}{h h':H}{V:Nat}{e:Env}{a:Act}{o:Oper}{hp hp':af Obj}
def St.FI(l:St cx base hp μ h){d:Nat}{c:Loc}{b:jO}(i:μ d=G c)(j:h.get d=G b)(k:b.it=false):C9 hp μ c b.exact b.im/\b.ep=c.ep/\b.sz=c.sz:=by have⟨m,f,g⟩:=l.box d c i;rw[j]at f;simp at f;subst f;exact⟨g.plain k,g.ep,g.sz⟩
def Db(p:St cx base w.heap μ h){f:Nat}{b:Loc}{k:jO}(n:μ f=G b)(u:h.get f=G k)(v:k.it=false){l arr':af am}{i:ab}(B:w.heap[b.jV]? =G (.cells l i (0,0)))
 {ep' N:Nat} {m:Bool} {c:List T} (r:ep'=b.ep\/ep'=b.ep+1) (z:h.put f ⟨k.sz,ep',N,m,false,c⟩=G h') (D:arr'.size=b.cap*b.sz) (A:c.length<=b.cap) (s:m->b.cap=c.length)
 (E:∀j∈c,j.cells.length=b.sz) (C:∀j∈iy c,j.scalar) (q:ja w.heap μ (iy c) (arr'.toList.take (iy c).length)):
 ∃g,St cx base (w.setRow b.jV arr').heap g h'/\tH w μ (w.setRow b.jV arr') g/\BT μ g h.size h'.size/\g f=G ⟨ep',b.jV,b.cap,b.sz⟩:=by
 have⟨O,Q,F⟩:=p.FI n u v;have y:∀d,d<w.heap.size->d≠b.jV->(w.setRow b.jV arr').heap[d]? =w.heap[d]? :=λd _ x=>setRow_other w b.jV d arr' x;have⟨I,K,L⟩:=p.change (L':=⟨ep',b.jV,b.cap,b.sz⟩) n z Y y (by
  rcases r with rfl|rfl;simp;simp) (by
  intro t;refine⟨rfl,F,λ_=>⟨⟨arr',i,(setRow_heap w b.jV l arr' i (0,0) B),D,q.ext t⟩,A,s,E,C⟩,λR=>by grind⟩)
 exact⟨_,I,⟨K,rfl,rfl,rfl⟩,L,kw _ _ _⟩
def Ed{j:Type}(b d:List j){o c:Nat}(k:o+d.length<=c)(l:c<=b.length):(b.take o++d++b.drop (o+d.length)).take c=(b.take c).take o++d++(b.take c).drop (o+d.length):=by
 rw[List.take_append,List.take_append];have f:(b.take o).take c=(b.take c).take o:=by rw[List.take_take,List.take_take,Nat.min_comm]
 have g:(b.take o).length=o:=by grind
 have i:(b.take o++d).length=o+d.length:=by grind
 rw[f,g,i]
 grind [cd,List.drop_take]
def SN{b c:T}{g:Nat}{f:List T}(q:∀r∈f,r.scalar)(d:mT b g f=G c):
 g+f.length<=b.cells.length/\c.cells=b.cells.take g++f++b.cells.drop (g+f.length):=by
 by_cases k:∃i,b= .agg i;obtain⟨i,rfl⟩:=k;have⟨s,l,j⟩:=eQ.1 d;simp at j;subst j;exact rI l;have n:b.cells=[b]:=by cases b<;>first|rfl|grind
 have m:g=0/\f=[c]:=by
  unfold mT at d;cases b<;>first|(exact absurd ⟨_,rfl⟩ k)|(simp[]at d;split at d<;>simp at d;subst d;exact⟨rfl,rfl⟩)
 obtain⟨rfl,rfl⟩:=m;have p:=q c Y;have:c.cells=[c]:=by cases c<;>simp[T.scalar]at p<;>rfl
 rw[n,this];simp
theorem JJ(j8:jR P cx){t:ab}{x l:ah}(C:St cx base w.heap μ h)(r:mo w.heap μ V e a.tmps)(bn:o.op= .store t x l){k:T}
 (d:GN t x l cx V e h=be k h'):j4 cx base w μ h.size ((execOp a.eval o).run P w) k h':=by
 replace d:=eQ.1 d;obtain⟨b9,bT,d⟩:=d;replace d:=eQ.1 d;obtain⟨p,hp,d⟩:=d;replace d:=eQ.1 d;obtain⟨v,bs,d⟩:=d;replace d:=fq.1 d;obtain⟨a7,d⟩:=d;replace d:=eQ.1 d;obtain⟨c4,b,d⟩:=d;simp at d;obtain⟨rfl,rfl⟩:=d;obtain⟨an,qs,b7⟩:=(iU C r bs).cells a7;have br:∃K L c i,p= .ptr K L c i:=by
  unfold H.store at b;cases p<;>first|(exact⟨_,_,_,_,rfl⟩)|(simp at b)
 obtain⟨K,L,c,i,rfl⟩:=br;unfold H.store at b;replace b:=fq.1 b;obtain⟨B,b⟩:=b;replace b:=eQ.1 b;obtain⟨ao,Q,b⟩:=b;obtain⟨de,cp,di,c1,bW,g⟩:=ao;have b:=b;replace b:=fq.1 b;obtain⟨U,b⟩:=b;cases bW;have b:=b;replace b:=eQ.1 b;obtain⟨s,y,b⟩:=b;replace b:=eQ.1 b;obtain⟨u,aN,b⟩:=b;replace b:=eQ.1 b;obtain⟨cL,z,b⟩:=b;simp[jx,fw]at b;rw[m6]at y;have U:=aK U;have B:=aK B;rw[kQ]at B;rw[mv]at z;split at z;rename_i A;simp at z;subst z;obtain⟨f,cb,bu,O,_,av⟩:=(iU C r hp).tO;obtain⟨m,N,ap⟩:=C.FI O Q rfl;simp[]at N ap;have ax:=av J;subst ax;obtain⟨q,b8,X,ae,D⟩:=m.row;have n:=m.size;simp[]at n D;have bi:s∈g:=aB y;obtain⟨a8,R⟩:=SN qs aN;have c9:=n s bi;have aE:g[c]=s:=by rw[aF A]at y;simpa using y
 have E:=ji n;have W:iy (g.set c u)=(iy g).take (c*f.sz+i)++v.cells++(iy g).drop (c*f.sz+i+v.cells.length):=by
  rw[L8 n A,R];have S:(iy g).drop (c*f.sz)=s.cells++(iy g).drop (c*f.sz+f.sz):=by
   rw[<-cD,tc n,tc n,aJ A,aE,ot]
  have ht:(iy g).take (c*f.sz+i)=(iy g).take (c*f.sz)++s.cells.take i:=by
   rw[List.take_add,S,dp J]
  have aA:(iy g).drop (c*f.sz+i+v.cells.length)=s.cells.drop (i+v.cells.length)++(iy g).drop (c*f.sz+f.sz):=by
   rw[dh,<-List.drop_drop,S,List.drop_append_of_le_length a8]
  rw[ht,aA];simp[aO]
 have c7:c*f.sz+i+v.cells.length<=(iy g).length:=by
  rw[E];have:(c+1)*f.sz<=g.length*f.sz:=bG _ A;rw[cD]at this;omega
 have c6:(iy g).length<=q.size:=by
  rw[E,ae];exact bG _ m.room
 have F:=an.1;have al:∀k∈g.set c u,k.cells.length=f.sz:=by
  intro k j;rcases bP j with I|rfl
  exact n k I;rw[R];simp;omega
 have bA:∀k∈iy (g.set c u),k.scalar:=by
  intro k j;rw[W]at j;rcases List.mem_append.1 j with j|j
  rcases List.mem_append.1 j with j|j;exact m.scalar k (bU j)
  grind
  exact m.scalar k (bY j)
 have aX:(iy (g.set c u)).length=(iy g).length:=by
  rw[ji al,E];simp
 have ar:ja w.heap μ (iy (g.set c u)) ((q.toList.take (c*f.sz+i)++(a.eval l).cells.toList++q.toList.drop (c*f.sz+i+(a.eval l).cells.toList.length)).toArray.toList.take (iy (g.set c u)).length):=by
  rw[aX,W];rw[dK,Ed _ _ J J];rw[<-F];exact((D.take _).append an).append (D.drop _)
 obtain⟨ca,bX,bZ,b6,dd⟩:=Db C O Q rfl X (.inl N) b (arr':=(q.toList.take (c*f.sz+i)++(a.eval l).cells.toList++q.toList.drop (c*f.sz+i+(a.eval l).cells.toList.length)).toArray)
  (by simp[List.size_toArray,aT,List.length_take,List.length_drop,c8]at F|-;rw[<-ae];omega) (iC m.room) (by intro I;have:=m.wW I;grind) al bA ar
 refine⟨Go.undef,_,ca,.inr ⟨?_,rfl⟩,.undef,bX,bZ,b6⟩;have Z:=run_storeCells_at (P:=P) f.jV (c*f.sz+i) b8 (a.eval l).cells.toList 0 q w X J b7;simp[Nat.add_zero]at Z;have bN:(a.eval l).cells.size=b9.size:=by rw[<-B,F];simp
 simp[execOp,bn,Instr.storeAt,Sem.run_bind,bu,Instr.sureAddr,Result.andThen_ok,storeVar,(j8.ty _ _ bT).run_sizeOf,bN,ne_eq,Z]
 grind
 simp at b
end
end
section
section
variable {P:ai}{cx:Ctx}{base:Nat}{w:World}{μ:Mu}{h h':H}{V:Nat}{e:Env}{a:Act}{o:Oper}{hp hp':af Obj}
def PO{g:Nat}{c:List T}(i:fits g c){j:Nat}(f:∀b∈c,b.cells.length=j):∀b∈c,b.cells.length=g:=by rcases c with _|⟨k,c⟩;intro b d;simp at d;have:=aK i;rw[kQ]at this;have l:=f k Y;intro b d;rw[f b d];omega
structure EH(P:ai)(w:World)(μ:Mu)(c:am)(es:List T)(sz:Nat):Prop where
 M2:∀v∈es,v.cells.length=sz
 scalar:∀v∈iy es,v.scalar
 form:∃ad cap news,c= .slice ad es.length cap/\es.length<=cap/\ja w.heap μ (iy es) news/\(∀u∈news,u.oneCell'=true)/\
  ((ad=none/\es=[])\/∃x:Addr,ad=G x/\∀(j:Nat) u,news[j]? =G u->w.cell? (x.add j)=G u)
def ja.Jv{b:List T}{c:List am}(d:ja hp μ b c)(l:∀v∈b,v.scalar):∀j∈c,j.oneCell'=true:=by intro j m;obtain⟨k,g,rfl⟩:=List.getElem_of_mem m;have i:=d.1▸g;have⟨n,f,hr⟩:=d.get (k:=k) (v:=b[k]) (by simp[i]);simp[g]at f;subst f;exact vq hr (l _ (aG i))
def qW(s:St cx base w.heap μ h){E:T}{m:am}{es:List T}(x:iz w.heap μ E m)(c:h.kd E=G es):∃A,EH P w μ m es A:=by
 unfold H.kd at c;cases E<;>simp at c
 
 rename_i al an;subst c;rcases al with _|⟨p,es⟩
 obtain⟨k,rfl⟩:=x.xF;refine⟨0,Y,by simp[iy],k,0,[],rfl,ay _,ja.nil,Y,?_⟩;rcases k with _|y;exact .inl ⟨rfl,rfl⟩;exact .inr ⟨y,rfl,Y⟩;obtain⟨F,off,C,A,q,U,fz,rfl,b7,O,a7,bX,bu,bs,aA,hr⟩:=x.xG;have D:∀f∈iy (p::es),f.scalar=true:=λf g=>(aA f g).1;have t:wN w.heap μ F off (iy (p::es)):=⟨⟨q,U,fz,O,bs,hr⟩,D⟩;have r:ja w.heap μ (iy (p::es)) ((q.toList.drop off).take (iy (p::es)).length):=by
  refine⟨dY,λz f g=>?_⟩;have aX:z<(iy (p::es)).length:=by
   rcases aR z (iy (p::es)).length with y|y;exact y;rw[cj y]at g;simp at g
  have:=hr z f g;have bn:off+z<q.size:=J;simpa[List.getD,cM,aX,cC,bn]using this
 refine⟨A,bu,D,some ⟨F,off,none⟩,C,_,rfl,a7,r,r.Jv D,.inr ⟨_,rfl,λj u d=>?_⟩⟩;rw[mG];rw[cM]at d;split at d;rw[cu]at d;simp[World.cell?,O];simpa using d;simp at d;subst c;obtain⟨k,C,rfl⟩:=x.DH;refine⟨0,Y,by simp[iy],k,C,[],rfl,az _,ja.nil,Y,?_⟩;rcases k with _|y
 exact .inl ⟨rfl,rfl⟩;exact .inr ⟨y,rfl,Y⟩;rename_i b X l i an;replace c:=eQ.1 c;obtain⟨V,ax,c⟩:=c;obtain⟨A,ae,b9,bT,S,n⟩:=V;have c:iX (Nat.beq ae X) (@Bool.rec (λ_=>aa (List T)) (Z (lJ l n) λt=>takeN i t) none S)=G es:=c;replace c:=fq.1 c;obtain⟨N,c⟩:=c;cases S;have c:(Z (lJ l n) λt=>takeN i t)=G es:=c;replace c:=eQ.1 c;obtain⟨t,hr,c⟩:=c;rw[ox]at hr;split at hr;rename_i b6;simp at hr;subst hr;rw[qB]at c;split at c;rename_i bi;simp at c bi;subst c;obtain⟨B,k,I,rfl,av,bW,aE,aN⟩:=x.wJ;obtain⟨m,ao,ap⟩:=s.FI av ax rfl;simp[]at ao ap;have N:=aK N;obtain⟨bA,bN,W⟩:=aN J;obtain⟨q,U,br,b8,r⟩:=m.row;have v:=m.size;simp[]at v r;have L:=GZ v l i;have Q:((n.drop l).take i).length=i:=dY;have bZ:=ji v;have K:ja w.heap μ (iy ((n.drop l).take i)) (((q.toList.take (iy n).length).drop (l*B.sz)).take (i*B.sz)):=by
  rw[L];exact(r.drop _).take _
 have R:∀f∈iy ((n.drop l).take i),f.scalar:=by
  intro f g;rw[L]at g;exact m.scalar f (bY (bU g))
 refine⟨B.sz,λf g=>v f (bY (bU g)),R,k,I,_,by rw[Q],by rw[Q];exact aE,K,K.Jv R,?_⟩;by_cases ar:I=0;have a8:i=0:=J;subst a8;rcases k with _|y
 exact .inl ⟨rfl,Y⟩;exact .inr ⟨y,rfl,Y⟩;refine .inr ⟨_,W ar,λj u d=>?_⟩;rw[mG];rw[cM]at d;split at d;rw[cu,cM]at d;split at d;simp[World.cell?,br];simpa using d;simp at d;simp at d;simp at c;simp at hr;simp at c
def EH.src{f:am}{c:List T}{d:Nat}(k:EH P w μ f c d){l m:ab}(j:P.underlying l=G (.slice m)):∃b,Src P d l f c.length b w/\ja w.heap μ (iy c) b:=by
 obtain⟨s,g,b,rfl,t,i,n,p⟩:=k.form;refine⟨b,?_,i⟩;have hl:b.length=c.length*d:=by rw[<-i.1,ji k.M2]
 rcases p with⟨rfl,rfl⟩|⟨r,rfl,q⟩;have:=bC (iC hl);subst this;exact Src.ofNil w j g;exact Src.ofSlice w j r c.length g b hl q n
def EH.first{f:am}{b:List T}{d:Nat}(j:EH P w μ f b d):∃c,(Builtin.firstCells d b.length f).run P w.drew= .ok c.toArray w.drew/\ja w.heap μ (iy b) c:=by
 obtain⟨n,g,c,rfl,q,i,p,k⟩:=j.form;refine⟨c,?_,i⟩;have hl:c.length=b.length*d:=by rw[<-i.1,ji j.M2]
 rcases k with⟨rfl,rfl⟩|⟨m,rfl,l⟩;have:=bC (iC hl);subst this;exact run_firstCells_none w.drew d 0 0 g;exact run_firstCells_some w.drew d b.length m b.length g c hl (iC l)
end
end
section
section
variable {P:ai}{cx:Ctx}{base:Nat}{w:World}{μ:Mu}{h h':H}{V:Nat}{e:Env}{a:Act}{o:Oper}{hp hp':af Obj}
structure YG(P:ai)(w:World)(μ:Mu)(sz:Nat)(tx:ab)(x:am)(xs:List T)(news:List am):Prop where
 src:Src P sz tx x xs.length news w
 rel:ja w.heap μ (iy xs) news
 M2:∀v∈xs,v.cells.length=sz
 scalar:∀v∈iy xs,v.scalar
structure YE(P:ai)(w:World)(μ:Mu)(sz:Nat)(c:am)(es:List T)(olds:List am):Prop where
 first:(Builtin.firstCells sz es.length c).run P w.drew= .ok olds.toArray w.drew
 rel:ja w.heap μ (iy es) olds
 M2:∀v∈es,v.cells.length=sz
 scalar:∀v∈iy es,v.scalar
def vn(c:af am)(b:Nat):(Builtin.zeroCells c b).size=b*c.size:=by simp[Builtin.zeroCells]
def yE{d f:List T}{c:T->Prop}(i:∀b∈iy d,c b)(j:∀b∈iy f,c b):∀b∈iy (d++f),c b:=by
 intro b g;rw[pZ]at g
 grind
def GV{g f:List am}{i:af am}{b c d:Nat}(j:g.length+f.length=c*d)(k:i.size=d)(l:c<=b):
 ((g++f).toArray++Builtin.zeroCells i (b-c)).size=b*d:=by
 simp[Array.size_append,List.size_toArray,aT,vn,j,k];rw[<-cJ]
 grind
def KQ(j8:jR P cx){n p ty' i:ab}{c:Ty}(A:P.underlying n=G (.slice i))(C:cx.ty i=G c){j:aa Addr}{g:Nat}{b d:List T}{m l:List am}{q:am}
 (I:YE P w μ c.size (.slice j b.length g) b m) (F:YG P w μ c.size p q d l) (t:g<b.length+d.length) (R:1<=c.bytes) (B:(b.length+d.length)*c.bytes<=70368744177664):
 ∃(f:am) (k:Nat),b.length+d.length<=k/\f.cells.size=c.size/\(Builtin.append_ #[n,p] ty' #[.slice j b.length g,q]).run P w=
  .ok (.slice (some ⟨w.heap.size,0,none⟩) (b.length+d.length) k) {w with drawn:=w.drawn+1,heap:=w.heap.push (.cells ((m++l).toArray++Builtin.zeroCells f.cells (k-(b.length+d.length))) i)}:=by
 have⟨E,K,f,u,L,v,x,N,O,Q,y,z,_⟩:=(j8.ty _ _ C).unfold;have D:f.cells.size=c.size:=by
  have:=(ja.wF (hp:= #[]) (μ:=⟨λ_=>none,λ_=>False⟩) x).1.1
  grind
 have S:=aV (Nat.le_mul_of_pos_right _ J) B;have r:=I.first;have s:=F.src;rw[<-y]at r s;have:=run_append_grow_src w n p ty' i E f A u v j b.length g m r q d.length l s t J (z▸growslice_fits t J);exact⟨f,_,grownCap_ge w _ _ _,D,this⟩
def ER(j8:jR P cx)(R:St cx base w.heap μ h){v x ty' n:ab}{d:Ty}(B:P.underlying v=G (.slice n))(F:cx.ty n=G d){ad:aa Addr}{cap:Nat}{es c:List T}{r q:List am}{y:am}
 (i:YE P w μ d.size (.slice ad es.length cap) es r) (g:YG P w μ d.size x y c q) (C:cap<es.length+c.length) {f:T} (b:h.ku d.size d.bytes es c=G (f,h')):
 ∃s m j,(Builtin.append_ #[v,x] ty' #[.slice ad es.length cap,y]).run P w= .ok s m/\iz m.heap j f s/\St cx base m.heap j h'/\tH w μ m j/\BT μ j h.size h'.size:=by
 unfold H.ku at b;simp only[sd,fw,jx,kQ]at b;obtain⟨A,b⟩:=fq.1 b;obtain⟨l,b⟩:=fq.1 b;obtain⟨_,b⟩:=fq.1 b;obtain⟨_,b⟩:=fq.1 b;rw[H.ny]at b;simp only[aw,aH]at b;obtain⟨rfl,rfl⟩:=b;have l:=bp l;rw[aT]at l;have⟨S,p,t,K,E⟩:=KQ j8 B F (ty':=ty') i g C (bp A) l;have u:∀f∈es++c,f.cells.length=d.size:=by
  intro f I;rcases List.mem_append.1 I with k|k
  exact i.M2 f k;exact g.M2 f k
 have D:r.length+q.length=(es.length+c.length)*d.size:=by
  rw[<-i.rel.1,<-g.rel.1,ji i.M2,ji g.M2,cJ]
 have z:ja w.heap μ (iy (es++c)) (((r++q).toArray++Builtin.zeroCells S.cells (p-(es.length+c.length))).toList.take (iy (es++c)).length):=by
  rw[ji u,aT,Array.toList_append,dK,dp c5,cd c5,pZ];exact i.rel.append g.rel
 have⟨j,L,N,O,Q⟩:=At R n (cap:=p) (sz:=d.size) (ex:=false) (es:=es++c) (GV D K t) c5 Y u (yE i.scalar g.scalar) z;rw[aT];exact⟨_,_,j,E,.arr _ 0 0 _ false _ _ p Q (ay _) t (λ_=>⟨Y,Y,Y⟩),L,⟨N.ext,rfl,rfl,rfl⟩,O⟩
def SQ(j8:jR P cx){n q ty' l:ab}{c:Ty}(v:P.underlying n=G (.slice l))(z:cx.ty l=G c){d b j k:Nat}{g:List am}{r:am}
 (i:Src P c.size q r k g w) (x:b+k<=j) {f:af am} {p:ab} (y:w.heap[d]? =G (.cells f p (0,0))) (N:b*c.size+g.length<=f.size):
 (Builtin.append_ #[n,q] ty' #[.slice (some ⟨d,0,none⟩) b j,r]).run P w= .ok (.slice (some ⟨d,0,none⟩) (b+k) j) (w.setRow d (f.toList.take (b*c.size)++g++f.toList.drop (b*c.size+g.length)).toArray):=by
 have⟨O,A,Q,s,C,D,E,F,I,K,t,L,_⟩:=(j8.ty _ _ z).unfold;have m:=run_storeCells_at (P:=P) d (b*c.size) p g 0 f w y J i.one;simp[Nat.add_zero]at m;have u:(⟨d,0,none⟩:Addr).add (b*c.size)=⟨d,b*c.size,none⟩:=by rw[mG];simp
 rcases i.kind with⟨B,hk⟩|hk<;>simp[Builtin.append_,run_underlying v,run_underlying hk,sizeOf,typeInfo,s,t,i.len,x,i.cells,u,m]
def SR(j8:jR P cx){i k ty' g:ab}{j:Ty}(p:P.underlying i=G (.slice g))(r:cx.ty g=G j){b:aa Addr}{f c:Nat}{l:am}(d:Src P j.size k l 0 [] w)(q:f<=c):
 (Builtin.append_ #[i,k] ty' #[.slice b f c,l]).run P w= .ok (.slice b f c) w:=by
 have⟨C,s,D,m,u,v,x,y,z,A,n,B,_⟩:=(j8.ty _ _ r).unfold;rcases d.kind with⟨t,hk⟩|hk<;>cases b<;>simp[Builtin.append_,run_underlying p,run_underlying hk,sizeOf,typeInfo,m,n,d.len,q,d.cells,storeCells]
def Hy(j8:jR P cx)(s:St cx base w.heap μ h){t c1 ty' N:ab}{d:Ty}(bT:P.underlying t=G (.slice N))(cb:cx.ty N=G d){L al b:Nat}{f:List T}{l:List am}{D x:am}
 (ej:iz w.heap μ (.arr L al 0 b false) D) (v:YG P w μ d.size c1 x f l) (ef:f≠ []) {m:T} (c:h.o6 d.size d.bytes L al b f=G (m,h')):
 ∃bi X I,(Builtin.append_ #[t,c1] ty' #[D,x]).run P w= .ok bi X/\iz X.heap I m bi/\St cx base X.heap I h'/\tH w μ X I/\BT μ I h.size h'.size:=by
 unfold H.o6 at c;replace c:=eQ.1 c;obtain⟨c4,bN,c⟩:=c;obtain⟨cL,ep',ey,eB,cp,g⟩:=c4;have c:(Z (takeN b g) λan=>Z (D7 an f) λbs=>Z (jd (oo bs)) λn=>iX (Nat.ble 1 d.bytes)<|iX (Nat.beq ep' al) (iX (Nat.beq cL d.size) (iX (Nat.ble (Nat.mul n d.bytes) 70368744177664) (iX (fits d.size f) (@Bool.rec (λ_=>aa (T×H))
  (Z (jd (Nat.succ ep')) λbr=>Z (jd (Nat.succ ey)) λeA=>Z (h.put L ⟨cL,br,eA,false,false,bs⟩) λh'=>some (.arr L br 0 n false,h')) none cp)))))=G (m,h'):=c
 replace c:=eQ.1 c;obtain⟨an,Q,c⟩:=c;simp only[sd,fw,jx,kQ]at c;replace c:=fq.1 c;obtain⟨ar,c⟩:=c;replace c:=fq.1 c;obtain⟨bW,c⟩:=c;replace c:=fq.1 c;obtain⟨ca,c⟩:=c;replace c:=fq.1 c;obtain⟨U,c⟩:=c;replace c:=fq.1 c;obtain⟨_,c⟩:=c;cases cp;have c:=c;replace c:=eQ.1 c;obtain⟨eC,bZ,c⟩:=c;simp only[aw,aH]at c;obtain⟨rfl,rfl⟩:=c;have ar:=bp ar;have bW:=aK bW;have ca:=aK ca;have U:(an++f).length*d.bytes<=70368744177664:=bp U;rw[aT]at U;rw[qB]at Q;split at Q;rename_i eb;simp at Q;subst Q;obtain⟨A,ae,r,rfl,ap,eE,eD,dm⟩:=ej.wJ;obtain⟨D,c7,c9⟩:=s.FI ap bN rfl;simp only[]at c7 c9;obtain⟨_,c6,bn⟩:=dm J;have di:r=A.cap:=iV (c6 rfl);obtain⟨q,eH,aE,b9,bu⟩:=D.row;have K:=D.size;simp only[]at K bu;have C:A.sz=d.size:=J;have p:(g.take b).length=b:=dY;have aN:∀m∈g.take b,m.cells.length=d.size:=λm E=>C▸K m (bU E);have b7:∀m∈iy (g.take b),m.scalar:=by
  intro m E;rw[<-vk K]at E;exact D.scalar m (bU E)
 have V:∀m∈g.take b++f,m.cells.length=A.sz:=by
  intro m E;rw[C];rcases List.mem_append.1 E with k|k
  exact aN m k;exact v.M2 m k
 have b8:=yE b7 v.scalar;have ds:=ji K;have bX:l.length=f.length*d.size:=by rw[<-v.rel.1,ji v.M2]
 have O:ja w.heap μ (iy (g.take b)) (q.toList.take (b*A.sz)):=by
  have:=bu.take (b*A.sz);rw[vk K,List.take_take,cP (ds▸bG _ eb)]at this;exact this
 have eG:0<f.length:=List.length_pos_iff.2 ef;by_cases b6:b+f.length<=r
 
 have dk:r≠0:=J;have bA:=bn dk;simp only[Nat.zero_mul]at bA;subst bA;have de:b*d.size+l.length<=q.size:=by
  rw[b9,bX,C,<-cJ];exact bG _ J
 have S:=SQ (ty':=ty') j8 bT cb v.src b6 aE de;have av:(iy (g.take b++f)).length=b*d.size+l.length:=by
  rw[ji V,aT,p,bX,C,cJ]
 have ao:ja w.heap μ (iy (g.take b++f)) ((q.toList.take (b*d.size)++l++q.toList.drop (b*d.size+l.length)).toArray.toList.take (iy (g.take b++f)).length):=by
  have ht:(q.toList.take (b*d.size)++l).take (b*d.size+l.length)=q.toList.take (b*d.size)++l:=cd dY;rw[av,dK,dp dY,ht,pZ];rw[C]at O;exact O.append v.rel
 obtain⟨I,aX,a7,a8,et⟩:=Db s ap bN rfl aE (ep':=ep'+1) (.inr J) bZ (arr':=(q.toList.take (b*d.size)++l++q.toList.drop (b*d.size+l.length)).toArray)
  (by simp only[List.size_toArray,aT,List.length_take,List.length_drop,c8];rw[<-b9];omega) (by simp[p];omega) Y V b8 ao
 refine⟨_,_,I,S,?_,aX,a7,a8⟩;have ax:(g.take b++f).length=b+f.length:=by rw[aT,p]
 rw[ax];exact .arr _ _ 0 _ false _ _ r et (ay _) b6 (λ_=>⟨Y,by simp[di],Y⟩)
 
 have F:∃B,YE P w μ d.size (.slice ae b r) (g.take b) B:=by
  refine⟨q.toList.take (b*A.sz),?_,O,aN,b7⟩;rw[p];have ee:(q.toList.take (b*A.sz)).length=b*d.size:=by rw[<-O.1,ji aN,p]
  by_cases dd:r=0;have ea:b=0:=J;subst ea;simp only[Nat.zero_mul,List.take_zero];rcases ae with _|y
  exact run_firstCells_none w.drew d.size 0 0 r;exact run_firstCells_some w.drew d.size 0 y 0 r [] Y Y;rw[bn dd];refine run_firstCells_some w.drew d.size b _ b r _ ee (λj u R=>?_);rw[mG];rw[cM]at R;split at R;show World.cell? w _=_;simp only[World.cell?,aE];simpa using R;simp at R
 obtain⟨B,F⟩:=F;have eh:((g.take b).length+f.length)*d.bytes<=70368744177664:=by rw[<-p]at*;exact U
 have eu:YE P w μ d.size (.slice ae (g.take b).length r) (g.take b) B:=by rw[p];exact F
 obtain⟨z,W,aA,eo,S⟩:=KQ j8 bT cb (ty':=ty') eu v (by rw[p];omega) ar eh;rw[p]at S aA;have ec:B.length+l.length=(b+f.length)*d.size:=by
  rw[<-F.rel.1,<-v.rel.1,ji F.M2,ji v.M2,p,cJ]
 have av:(iy (g.take b++f)).length=(b+f.length)*d.size:=by
  rw[ji V,aT,p,C]
 have ao:ja w.heap μ (iy (g.take b++f)) (((B++l).toArray++Builtin.zeroCells z.cells (W-(b+f.length))).toList.take (iy (g.take b++f)).length):=by
  have ht:(B++l).take ((b+f.length)*d.size)=B++l:=cd dY;rw[av,Array.toList_append,dK,dp dY,ht,pZ];exact F.rel.append v.rel
 have ax:(g.take b++f).length=b+f.length:=by rw[aT,p]
 obtain⟨aX,a7,a8⟩:=s.change (L':=⟨ep'+1,w.heap.size,W,A.sz⟩) (hp':=w.heap.push (.cells ((B++l).toArray++Builtin.zeroCells z.cells (W-(b+f.length))) N)) ap bZ Y
  (by intro i eF _;rw[dI];grind) (.inr ⟨by grind,.inr (ay _)⟩) (by
  intro dn;refine⟨rfl,J,λ_=>⟨⟨_,N,Y,?_,ao.ext dn⟩,by grind,Y,V,b8⟩,λk=>by grind⟩;rw[GV ec eo aA,C])
 refine⟨_,_,_,S,?_,aX,⟨a7,rfl,rfl,rfl⟩,a8⟩;rw[ax];exact .arr _ _ 0 _ false _ _ W (kw _ _ _) (ay _) aA (λ_=>⟨Y,Y,Y⟩)
 grind
 simp at c
end
end
section
section
variable {P:ai}{cx:Ctx}{base:Nat}{w:World}{μ:Mu}{h h':H}{V:Nat}{e:Env}{a:Act}{o:Oper}{hp hp':af Obj}{p:T}
def uP(cx:Ctx)(base:Nat)(w:World)(μ:Mu)(f:Nat)(g:Result am)(i:T)(h':H):Prop:=
 ∃d b c,g= .ok d b/\iz b.heap c i d/\St cx base b.heap c h'/\tH w μ b c/\BT μ c f h'.size
def uP.pure{b:Result am}{d:T}{c:am}(g:St cx base w.heap μ h)(hr:b= .ok c w)(f:iz w.heap μ d c):uP cx base w μ h.size b d h:=
 ⟨c,w,μ,hr,f,g,tH.refl _ _,BT.refl _ _⟩
def yj(j8:jR P cx){f:ab}{g:Ty}(b:tu cx f=G g):∃c,P.underlying f=G (.slice c)/\cx.ty c=G g:=by have⟨k,i,b⟩:=eQ.1 b;have⟨l,m,d⟩:=mp (j8.ty _ _ i);cases j:k.u<;>rw[j]at b d<;>simp at b;have:=nU d;grind
def CA(b:List Nat):iN (λc=>some (T.int .u8 (.ofNat c))) b=G (b.map λc=>T.int .u8 (.ofNat c)):=by
 induction b with
 |nil=>rfl
 |cons f b d=>rw[kv,d];rfl
def vl(b:List Nat):iy (b.map λc=>T.int .u8 (.ofNat c))=b.map λc=>T.int .u8 (.ofNat c):=by
 induction b with
 |nil=>rfl
 |cons f b d=>rw[aS,ot,d];rfl
def NO(j8:jR P cx)(S:St cx base w.heap μ h){C:ab}{m:T}{f:am}{j:List T}{i:Nat}(z:iz w.heap μ m f)(b:pP cx h C m=G j)(q:fits i j):
 ∃s,YG P w μ i C f j s:=by
 obtain⟨U,O,b⟩:=eQ.1 b;obtain⟨V,n,r⟩:=mp (j8.ty _ _ O);cases Q:U.u<;>rw[Q]at b r<;>simp at b;have:=uR r;subst this;have I:∃d,m= .str d:=by cases m<;>first|exact⟨_,rfl⟩|(simp at b)
 obtain⟨d,rfl⟩:=I;have b:iN (λf=>some (T.int .u8 (.ofNat f))) d=G j:=b;rw[CA]at b;cases b;obtain⟨rfl,F⟩:=z.m7;rcases d with _|⟨g,d⟩;have A:bytesOf []=ByteArray.empty:=rfl;refine⟨[],⟨⟨.inr n,λZ=>by rfl,?_,?_,Y,Y⟩,ja.nil,Y,by simp[iy]⟩⟩;simp[Builtin.firstCells,A];simp[Builtin.firstCells,A];have N:i=1:=by
  have q:Nat.beq 1 i:=q;simp_all
 subst N;have x:=Src.ofString w n (bytesOf (g::d));have v:(bytesOf (g::d)).size=((g::d).map λf=>T.int .u8 (.ofNat f)).length:=by rw[mJ];simp
 rw[v]at x;refine⟨_,x,?_,by intro D c;simp only[dq]at c;obtain⟨_,_,rfl⟩:=c;rfl,by rw[vl];intro D c;simp only[dq]at c;obtain⟨_,_,rfl⟩:=c;rfl⟩;rw[vl];refine⟨by rw[byteCells_length,v],λB D c=>?_⟩;rw[bw]at c;rcases k:(g::d)[B]? with _|t
 rw[k]at c;grind;rw[k]at c;simp at c;subst c;have K:t<256:=F t (aB k);have:(byteCells (bytesOf (g::d)))[B]? =G (.int .u8 (t:Int)):=by
  simp only[byteCells,bytesOf,bw,dK,k,dA,lf K]
 rw[List.getD,this];exact .int _ _;rename_i W;have:=nU r;subst this;obtain⟨X,l⟩:=qW (P:=P) S z b;have y:=PO q l.M2;have R:EH P w μ f j i:=⟨y,l.scalar,l.form⟩;obtain⟨s,L,E⟩:=R.src n;exact⟨s,L,E,y,l.scalar⟩
def Il(g:vM p){b:am}(hp:iz w.heap μ p b):∃f d c,b= .slice f d c/\d<=c:=by
 cases hp<;>simp[vM]at g
 grind
 grind
 grind
 grind
def A7(j8:jR P cx)(f:St cx base w.heap μ h){C D ty':ab}{L r:T}{c v:am}(hp:iz w.heap μ p c)(ar:iz w.heap μ L v)(b:jE cx h C D p L=be r h'):
 uP cx base w μ h.size ((Builtin.append_ #[C,D] ty' #[c,v]).run P w) r h':=by
 obtain⟨j,ax,b⟩:=eQ.1 b;obtain⟨k,aA,b⟩:=eQ.1 b;obtain⟨X,b⟩:=fq.1 b;rw[km]at b;have⟨bs,z,A⟩:=yj j8 ax;have⟨aE,t⟩:=NO (P:=P) j8 f ar aA X;rcases k with _|⟨u,k⟩
 have b:=b;have⟨av,b⟩:=fq.1 b;simp[aw,aH]at b;obtain⟨rfl,rfl⟩:=b;have ao:aE=[]:=bC (by have:=t.src.newsLen;grind);subst ao;obtain⟨ad,g,l,rfl,I⟩:=Il av hp;exact uP.pure f (SR (ty':=ty') j8 z A t.src I) hp;have ap:u::k≠ []:=Y;have bW:0<(u::k).length:=Y;have F:∀{es:List T} {q:Nat},EH P w μ c es q->(∀ad g l,c= .slice ad g l->l=g)->h.ku j.size j.bytes es (u::k)=G (r,h')->uP cx base w μ h.size ((Builtin.append_ #[C,D] ty' #[c,v]).run P w) r h':=by
  intro es q d U an;have ae:fits j.size es:=by
   simp_all[H.ku,kQ,jx,fw,sd,fq]
  have s:EH P w μ c es j.size:=⟨PO ae d.M2,d.scalar,d.form⟩;have⟨ad,cap,bZ,B,I,_⟩:=s.form;have⟨b6,aN,aX⟩:=s.first;subst B;have:=U _ _ _ rfl;have⟨Q,a7,bi,r1,r2,r3,r4,r5⟩:=ER j8 f z A (ty':=ty') (ad:=ad) (cap:=cap) ⟨aN,aX,s.M2,s.scalar⟩ t J an;exact⟨Q,a7,bi,r1,r2,r3,r4,r5⟩
 have B:(∃es i,p= .fg es i)\/∃E x o g i,p= .arr E x o g i:=by
  cases p<;>first|(exact .inl ⟨_,_,rfl⟩)|(exact .inr ⟨_,_,_,_,_,rfl⟩)|(simp[H.append]at b)
 rcases B with⟨es,i,rfl⟩|⟨E,x,K,g,i,rfl⟩;rcases es with _|⟨a8,es⟩;have b:h.ku j.size j.bytes [] (u::k)=G (r,h'):=b;obtain⟨ad,rfl⟩:=hp.xF;have⟨q,d⟩:=qW (P:=P) (es:=[]) f hp rfl
 grind
 have b:=b;have⟨al,b⟩:=fq.1 b;have⟨q,d⟩:=qW (P:=P) (es:=a8::es) f hp rfl;refine F d ?_ b;intro ad g l m;have⟨_,_,_,_,_,_,_,y,_,_,_,Z,_⟩:=hp.xG;rw[y]at m;simp at m;have:=Z al;omega;cases i;rcases K with _|K;exact Hy j8 f z A (ty':=ty') hp t ap b
 grind [H.append,absurd]
 have b:=b;have⟨es,n,b⟩:=eQ.1 b;have⟨q,d⟩:=qW (P:=P) f hp n;refine F d ?_ b;intro ad bX l m;have⟨N,bn,br,y,R,_,_,V⟩:=hp.wJ;rw[y]at m;simp at m;have W:x=N.ep:=by
  unfold H.kd at n;have⟨O,S,n⟩:=eQ.1 n;obtain⟨b7,bA,b8,bN,d,bu⟩:=O;have bT:=aK (fq.1 n).1;have:=(f.Pb R S).2
  grind
 have:=(V W).1 rfl;omega
def Kr(j8:jR P cx)(Q:St cx base w.heap μ h){R bi:ab}{f:T}{C:am}(hp:iz w.heap μ p C)(c:Hw cx h R p=be f h'):
 uP cx base w μ h.size ((Builtin.clear_ #[R] bi #[C]).run P w) f h':=by
 replace c:=eQ.1 c;obtain⟨s,cp,c⟩:=c;obtain⟨ea,al,b6⟩:=yj j8 cp;have O:∀{t:aa Addr} {D:Nat},C= .slice t 0 D->f= .undef->h'=h->uP cx base w μ h.size ((Builtin.clear_ #[R] bi #[C]).run P w) f h':=by
  intro t D ae d b8;subst ae d b8;refine uP.pure Q ?_ .undef;cases t<;>simp[Builtin.clear_,run_underlying al]
 cases p<;>simp only[reduceCtorEq]at c;rename_i j bN;rcases j with _|⟨x,j⟩
 simp only[aw,nO.val.injEq]at c;obtain⟨t,rfl⟩:=hp.xF;exact O rfl c.1.symm c.2.symm;simp at c;simp only[aw,nO.val.injEq]at c;obtain⟨t,g,D,ae,K⟩:=Il (p:= .jf) rfl hp;cases hp;exact O rfl c.1.symm c.2.symm;rename_i b bu m g bN;obtain⟨i,t,D,rfl,W,ef,eh,bZ⟩:=hp.wJ;rcases g with _|g
 have c:some (nO.val .undef h)=be f h':=c;simp only[aw,nO.val.injEq]at c;exact O rfl c.1.symm c.2.symm;replace c:=eQ.1 c;obtain⟨bn,X,c⟩:=c;obtain⟨sz,S,dm,bA,a8,q⟩:=bn;have c:(iX (Nat.beq S bu)<|iX (Nat.beq sz s.size) (@Bool.rec (λ_=>aa nO)
  (Z (mR q m (sM s.ls (g+1))) λj=>Z (jd (Nat.succ dm)) λdn=>
    Z (h.put b ⟨sz,S,dn,bA,false,j⟩) λh'=>be .undef h') none a8))=be f h':=c
 replace c:=fq.1 c;obtain⟨an,c⟩:=c;replace c:=fq.1 c;obtain⟨ax,c⟩:=c;cases a8;replace c:=eQ.1 c;obtain⟨j,r,c⟩:=c;simp only[jx,fw]at c;replace c:=eQ.1 c;obtain⟨eb,ca,c⟩:=c;simp only[aw,nO.val.injEq]at c;obtain⟨rfl,rfl⟩:=c;have an:=aK an;have ax:=aK ax;obtain⟨n,U,bT⟩:=Q.FI W X rfl;simp only[]at U bT;obtain⟨_,_,F⟩:=bZ J;have F:=F J;subst F;obtain⟨v,dk,ap,av,E⟩:=n.row;have z:=n.size;simp only[]at z E;obtain⟨B,cL,ej,aE,c9,aX,A,eo,et⟩:=(j8.ty _ _ b6).zero w;rw[tK]at r;obtain⟨K,r⟩:=rI r;rw[List.length_replicate]at K r;have I:=ji z;have c1:(iy (List.replicate (g+1) s.ls)).length=(g+1)*i.sz:=by
  rw[ji (sz:=i.sz) (by intro f d;rw[bV d,A,aX];omega),List.length_replicate]
 have ao:iy j=(iy q).take (m*i.sz)++iy (List.replicate (g+1) s.ls)++(iy q).drop (m*i.sz+(g+1)*i.sz):=by
  rw[r,pZ,pZ,vk z,<-cJ,tc z]
 have aA:∀f∈j,f.cells.length=i.sz:=by
  intro f d;rw[r]at d;rcases List.mem_append.1 d with d|d
  rcases List.mem_append.1 d with d|d;exact z f (bU d);rw[bV d,A,aX];omega;exact z f (bY d)
 have cb:∀f∈iy j,f.scalar:=by
  intro f d;rw[ao]at d;rcases List.mem_append.1 d with d|d
  rcases List.mem_append.1 d with d|d;exact n.scalar f (bU d);obtain⟨y,N,d⟩:=List.mem_flatMap.1 d;rw[bV N,A]at d;exact c9 f d;exact n.scalar f (bY d)
 have L:j.length=q.length:=by rw[r];simp;omega
 have b7:(iy j).length=(iy q).length:=by rw[ji aA,I,L]
 have ec:(iy q).length<=v.size:=by
  rw[I,av];exact bG _ n.room
 have ee:m*i.sz+(g+1)*i.sz<=(iy q).length:=by
  rw[I,<-cJ];exact bG _ K
 have a7:B.cells.size=i.sz:=by have:=(aE w.heap μ).1;simp only[c8]at this;omega
 have c7:∃l:List am,(Builtin.zeroCells B.cells (g+1)).toList=l/\l.length=(g+1)*i.sz/\ja w.heap μ (iy (List.replicate (g+1) s.ls)) l:=by
  have bX:ja w.heap μ (iy (List.replicate (g+1) s.ls)) (Builtin.zeroCells B.cells (g+1)).toList:=by
   by_cases V:B.cells.size=0;have br:iy (List.replicate (g+1) s.ls)=[]:=bC (by rw[c1,<-a7,V];simp);have bs:(Builtin.zeroCells B.cells (g+1)).toList=[]:=bC (by rw[c8,vn,V];simp);rw[br,bs];exact ja.nil;rw[Builtin.zeroCells,Dl (g+1) J,vQ,A];exact(aE _ _).replicate (g+1)
  exact⟨_,rfl,by rw[c8,vn,a7],bX⟩
 obtain⟨l,c4,c6,aN⟩:=c7;have b9:∀u∈l,u.oneCell':=aN.Jv (by
  intro f d;obtain⟨y,N,d⟩:=List.mem_flatMap.1 d;rw[bV N,A]at d
  grind)
 have bW:ja w.heap μ (iy j) ((v.toList.take (m*i.sz)++l++v.toList.drop (m*i.sz+l.length)).toArray.toList.take (iy j).length):=by
  rw[b7,ao];rw[dK,Ed _ _ J J];rw[c6];exact((E.take _).append aN).append (E.drop _)
 obtain⟨ds,dd,de,di,eu⟩:=Db Q W X rfl ap (.inl U) ca (arr':=(v.toList.take (m*i.sz)++l++v.toList.drop (m*i.sz+l.length)).toArray)
  (by simp only[List.size_toArray,aT,List.length_take,List.length_drop,c8];rw[<-av];omega) (L▸n.room) (by intro k;have:=n.wW k;simp only at this;rw[L];omega) aA cb bW
 refine⟨.tuple #[],_,ds,?_,.undef,dd,de,di⟩;have ar:=run_storeCells_at (P:=P) i.jV (m*i.sz) dk l 0 v w ap J b9;simp only[Nat.add_zero]at ar;simp[Builtin.clear_,run_underlying al,cL,c4,ar];simp at c
end
end
section
section
variable {P:ai}{cx:Ctx}{base:Nat}{w:World}{μ:Mu}{h h':H}{V:Nat}{e:Env}{a:Act}{o:Oper}{hp hp':af Obj}{p:T}
def St.grow(c:St cx base hp μ h)(l:hp.size<=hp'.size)(j:∀b,b<hp.size->hp'[b]? =hp[b]?):St cx base hp' μ h/\Ext hp μ hp' μ:=by have g:Ext hp μ hp' μ:=⟨l,λb i t=>⟨j b i,t⟩,λk f d=>⟨f,d,.inl rfl⟩,rfl,λb i _=>j b i⟩;refine⟨⟨c.wf,iV c.fit,λk f d=>?_,c.inj,c.low,c.apart,λb hr=>bS (c.uM b hr) l,λn m s=>(c.CH n m s).ext g⟩,g⟩;have⟨u,q,r⟩:=c.box k f d;exact⟨u,q,r.ext g (j _ (c.lt d))⟩
theorem Kl(j8:jR P cx){C x:ab}{N:ah}(v:St cx base w.heap μ h)(r:mo w.heap μ V e a.tmps)(ax:o.op= .convert C x N){k:T}
 (A:∃E,cx.ty C=G E) (hp:iG cx V e N=G p) (b:Hr cx x p=G k) (ao:h'=h):j4 cx base w μ h.size ((execOp a.eval o).run P w) k h':=by
 subst ao;obtain⟨bX,A⟩:=A;obtain⟨bA,X,_⟩:=mp (j8.ty _ _ A);replace b:=eQ.1 b;obtain⟨E,a8,b⟩:=b;obtain⟨d,U,I⟩:=mp (j8.ty _ _ a8);have br:=iU v r hp;cases bi:E.u<;>rw[bi]at b I<;>simp only[reduceCtorEq]at b;rename_i q;have:=nU I;subst this;have al:∃c,p= .str c:=by cases p<;>first|exact⟨_,rfl⟩|(simp at b)
 obtain⟨c,rfl⟩:=al;have b:(Z (cx.ty q) λD=>(match D.u with
  | .int l=>iX (HY l .u8) (@List.rec Nat (λ_=>aa T) (some .jf) (λ_ _ _=>Z (iN (λg=>some (T.int .u8 (.ofNat g))) c) λy=>some (.fg y false)) c)
  |_=>none))=G k:=b
 replace b:=eQ.1 b;obtain⟨D,a7,b⟩:=b;obtain⟨bu,W,K⟩:=mp (j8.ty _ _ a7);cases bn:D.u<;>rw[bn]at b K<;>simp only[reduceCtorEq]at b;rename_i l;replace b:=fq.1 b;obtain⟨s,b⟩:=b;rw[BB]at s;subst s;have:=Ab K;subst this;obtain⟨O,Q⟩:=br.m7
 let m:=(bytesOf c).size
 have z:∃n j,m<=n/\(execOp a.eval o).run P w= .ok (.value (.slice (some ⟨w.heap.size,0,none⟩) m n)) j/\j.heap.size=w.heap.size+1/\(∀t,t<w.heap.size->j.heap[t]? =w.heap[t]?)/\
  j.os=w.os/\j.tape=w.tape/\j.output=w.output/\∃fz,j.heap[w.heap.size]? =G (.cells ((bytesOf c).data.map (λi=>Value.int .u8 i.toNat)++Array.replicate (n-m) (.int .u8 0)) q fz):=by
  refine⟨grownCap w m 0 q,Lib.bytesWorld w q (bytesOf c),grownCap_ge w _ _ _,?_,Lib.bytesWorld_size _ _ _,λt ap=>Lib.bytesWorld_at_old _ _ _ t ap,rfl,rfl,rfl,_,Lib.bytesWorld_at_new _ _ _⟩;simp only[execOp,ax,Sem.run_bind,O,Lib.run_convert_string_bytes w C x q (bytesOf c) X U W,Result.andThen_ok,Sem.run_pure];rfl
 obtain⟨n,j,bN,z,bW,aX,aA,aE,aN,fz,R⟩:=z;obtain⟨bs,ae⟩:=v.grow (hp':=j.heap) J aX;have F:m=c.length:=mJ c;refine⟨_,j,μ,.inl z,?_,bs,⟨ae,aA,aE,aN⟩,BT.refl _ _⟩;rcases c with _|⟨i,c⟩;have b:some T.jf=G k:=b;simp at b;subst b;rw[F];exact .jf _ _;have b:(Z (iN (λg=>some (T.int .u8 (.ofNat g))) (i::c)) λy=>some (T.fg y false))=G k:=b;rw[CA]at b;simp only[fw,aw]at b;subst b;have av:¬qt μ w.heap.size:=by
  rintro(⟨g,L,S,hl⟩|hr);have:=v.lt S;omega;have:=v.uM _ hr;omega
 have ar:m=(c.map λg=>T.int .u8 (.ofNat g)).length+1:=by rw[F];simp
 rw[ar];refine .fg (T.int .u8 (.ofNat i)) (c.map λg=>T.int .u8 (.ofNat g)) false w.heap.size 0 n 1 _ q fz av R J Y ?_ ?_ ?_ ?_;intro k b;rw[<-aS (f:=λg=>T.int .u8 (.ofNat g))]at b;obtain⟨g,_,rfl⟩:=List.mem_map.1 b;rfl;rw[<-aS (f:=λg=>T.int .u8 (.ofNat g)),vl];simp[bytesOf];rw[<-aS (f:=λg=>T.int .u8 (.ofNat g)),vl];intro k b;obtain⟨g,_,rfl⟩:=List.mem_map.1 b;exact⟨rfl,.int _ _⟩;rw[<-aS (f:=λg=>T.int .u8 (.ofNat g)),vl];intro l k b;rw[bw]at b;rcases s:(i::c)[l]? with _|B
 rw[s]at b;grind;rw[s]at b;simp at b;subst b;have bT:l<(i::c).length:=by
  grind
 have an:((bytesOf (i::c)).data.map (λi=>Value.int .u8 i.toNat)++Array.replicate (n-m) (.int .u8 0))[0+l]? =G (.int .u8 (B:Int)):=by
  rw[cV,Array.getElem?_append_left (by grind [bytesOf]),Array.getElem?_map];have:(bytesOf (i::c)).data[l]? =G (UInt8.ofNat B):=by
   grind [bytesOf]
  rw[this];simp[lf (Q B (aB s))]
 rw[cC,an];exact .int _ _
def OJ(j8:jR P cx)(g:St cx base w.heap μ h){l:af ab}{y:ab}{k q:T}{m:am}(i:iz w.heap μ k m)(b:R7 cx h l.toList k=be q h'):
 uP cx base w μ h.size ((Builtin.len_ l y #[m]).run P w) q h':=by
 replace b:=eQ.1 b;obtain⟨v,ht,b⟩:=b;replace b:=eQ.1 b;obtain⟨x,s,b⟩:=b;obtain⟨A,f,j⟩:=mp (j8.ty _ _ s);have ht:l[0]? =G v:=by rw[m6]at ht;grind
 cases t:x.u<;>rw[t]at b j<;>simp[reduceCtorEq]at b;have:=uR j;subst this;cases k<;>simp at b;obtain⟨c,rfl⟩:=iI.1 b;simp at c;subst c;obtain⟨d,_⟩:=i.m7;exact uP.pure g (by simp[Builtin.len_,ht,run_underlying f,d,mJ,goInt]) (.int _ _);have:=nU j;subst this;cases k<;>simp at b;obtain⟨c,rfl⟩:=iI.1 b;simp at c;subst c;rename_i n B;rcases n with _|⟨C,n⟩;obtain⟨r,d⟩:=i.xF;exact uP.pure g (by simp[Builtin.len_,ht,run_underlying f,d,goInt]) (.int _ _);obtain⟨_,_,_,_,_,_,_,d,_⟩:=i.xG;exact uP.pure g (by simp[Builtin.len_,ht,run_underlying f,d,goInt]) (.int _ _);obtain⟨c,rfl⟩:=iI.1 b;simp at c;subst c;obtain⟨r,z,d⟩:=i.DH;exact uP.pure g (by simp[Builtin.len_,ht,run_underlying f,d,goInt]) (.int _ _);obtain⟨c,rfl⟩:=iI.1 b;simp at c;subst c;obtain⟨_,_,_,d,_⟩:=i.wJ;exact uP.pure g (by simp[Builtin.len_,ht,run_underlying f,d,goInt]) (.int _ _);have:=u7 j;subst this;obtain⟨c,rfl⟩:=iI.1 b;simp at c;subst c;exact uP.pure g (by simp[Builtin.len_,ht,run_underlying f,goInt]) (.int _ _)
theorem Ib(j8:jR P cx)(u:St cx base w.heap μ h)(r:mo w.heap μ V e a.tmps){c:Call}{F:Builtin}(av:o.op= .call c)(ap:c.callee= .builtin F){n:List T}(ao:ud cx V e c.args.toList=G n){v:T}
 (b:nG F cx h c.argTypes.toList n=be v h'):j4 cx base w μ h.size ((execOp a.eval o).run P w) v h':=by
 have d:=zt u r ao;have R:∀{m:Sem am},(execOp a.eval o).run P w=((m.run P w).andThen λv S=> .ok (Next.value v) S)->uP cx base w μ h.size (m.run P w) v h'->j4 cx base w μ h.size ((execOp a.eval o).run P w) v h':=by
  intro m hr ar;obtain⟨z,S,ax,X,Z,ae,al,an⟩:=ar;exact⟨z,S,ax,.inl (by rw[hr,X];rfl),Z,ae,al,an⟩
 have A:(execOp a.eval o).run P w=(builtin F c.argTypes o.type (c.args.map λ| .const _=>true|_=>false) (c.args.map a.eval)).run P w:=by
  simp[execOp,av,resolve,ap,invoke];rfl
 have y:(c.args.map a.eval).toList=c.args.toList.map a.eval:=Y;cases F<;>simp only[nG,reduceCtorEq]at b
 case len=>
  match n,b,d with
  | [K],b,d=>
   obtain⟨g,t,f,l,k⟩:=d.oK;have j:t=[]:=bC (by have:=k.1;grind);subst j;have i:c.args.map a.eval= #[g]:=by apply cU;rw[y,f]
   refine R (m:=Builtin.len_ c.argTypes o.type #[g]) ?_ (OJ j8 u l b);rw[A,i];simp[builtin]
 case append=>
  match n,b,d with
  | [K,W],b,d=>
   match O:c.argTypes.toList,b with
   | [E,U],b=>
    obtain⟨g,t,f,l,k⟩:=d.oK;obtain⟨I,x,rfl,C,B⟩:=k.oK;have j:x=[]:=bC (by have:=B.1;grind);subst j;have i:c.args.map a.eval= #[g,I]:=by apply cU;rw[y,f]
    have N:c.argTypes= #[E,U]:=by apply cU;rw[O]
    refine R (m:=Builtin.append_ #[E,U] o.type #[g,I]) ?_ (A7 j8 u l C b);rw[A,i,N];simp[builtin]
 case clear=>
  match n,b,d with
  | [K],b,d=>
   match O:c.argTypes.toList,b with
   | [E],b=>
    obtain⟨g,t,f,l,k⟩:=d.oK;have j:t=[]:=bC (by have:=k.1;grind);subst j;have i:c.args.map a.eval= #[g]:=by apply cU;rw[y,f]
    have N:c.argTypes= #[E]:=by apply cU;rw[O]
    refine R (m:=Builtin.clear_ #[E] o.type #[g]) ?_ (Kr j8 u l b);rw[A,i,N];simp[builtin]
 case min=>
  match n,b,d with
  | [K,W],b,d=>
   obtain⟨Q,rfl⟩:=iI.1 b;obtain⟨D,m,s,rfl,rfl,q⟩:=yg Q;obtain⟨g,t,f,l,k⟩:=d.oK;obtain⟨I,x,rfl,C,B⟩:=k.oK;have j:x=[]:=bC (by have:=B.1;grind);subst j;rw[l.lq,C.lq]at f;have i:c.args.map a.eval= #[.int D m,.int D s]:=by apply cU;rw[y,f]
   rw[rO]at q;cases q;refine j4.pure u ?_ (.int _ _);rw[A,i];simp only[builtin,Builtin.min_,List.foldlM,Builtin.min2,Sem.run_bind,Sem.run_pure,Result.andThen_ok];have:=Bw s m;by_cases L:s<m<;>simp[this,L]
 case max=>
  match n,b,d with
  | [K,W],b,d=>
   obtain⟨Q,rfl⟩:=iI.1 b;obtain⟨D,m,s,rfl,rfl,q⟩:=yg Q;obtain⟨g,t,f,l,k⟩:=d.oK;obtain⟨I,x,rfl,C,B⟩:=k.oK;have j:x=[]:=bC (by have:=B.1;grind);subst j;rw[l.lq,C.lq]at f;have i:c.args.map a.eval= #[.int D m,.int D s]:=by apply cU;rw[y,f]
   rw[rO]at q;cases q;refine j4.pure u ?_ (.int _ _);rw[A,i];have:=Bw m s;by_cases L:m<s<;>simp[builtin,Builtin.max_,Builtin.max2,this,L]
