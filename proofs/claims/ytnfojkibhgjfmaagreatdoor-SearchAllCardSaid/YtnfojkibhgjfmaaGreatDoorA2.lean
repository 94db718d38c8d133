/- TiBase -/
import Derived.Test.YtnfojkibhgjfmaaGreatDoorA0
import Derived.IntWalk
import Derived.Calls
import Derived.Laws.CopyRow
import Derived.Laws.Cells
import Derived.Laws.Entries
import Derived.WalkCall
import Derived.Laws.Strings
import Derived.Lib.Strings
import Derived.Laws.StructEq
import Derived.ChangeKeysEq
import Derived.Great.FillDense
import Derived.Laws.Tables
import Derived.Great.BuildSlice
import Derived.Deep.AppendSrc
import Derived.Laws.AppendOwn
import Derived.Lib.ConvBytes
import Derived.MapKept
import Derived.Laws.IdiomStrings
import Derived.WideKeyRuns
import Derived.Maps.RangeRun
set_option linter.all false
set_option maxRecDepth 100000
set_option maxHeartbeats 0
namespace Go.TI
abbrev J(n:Int):T:=.int .i64 n
abbrev dT:T:=.em [] false
abbrev dY(b:Nat):T:=.eZ b 0 0 0
abbrev dU(s v:Nat)(e:List T):jI:=⟨s,0,v,true,false,e⟩
@[simp] abbrev dV(v:iP)(n:Nat)(t:T):Prop:=TI.Y v n=some t
end Go.TI
namespace Go.TI
noncomputable section
section
def iH{b c:Prop}(a:b)(d:b->c:=by intro a;omega):c:=d a
def qN{b c:Prop}(a:b)(d:b->c:=by intro a;simp;omega):c:=d a
def iD{b c:Prop}(a:b)(d:b->c:=by intro a;simpa using a):c:=d a
@[simp]theorem fj {α β:Type} (a:α) (b:α->aa β):Z (some a) b=b a:=rfl
@[simp]theorem ahv {α β:Type} (a:α->aa β):Z (none:aa α) a=none:=rfl
theorem ed{α β:Type}{a:aa α}{c:α->aa β}{d:β}:Z a c=some d↔∃b,a=some b/\c b=some d:=by cases a<;>simp
@[simp]theorem iO {α:Type} (a:aa α):iT true a=a:=rfl
@[simp]theorem SU {α:Type} (a:aa α):iT false a=none:=rfl
theorem fh{α:Type}{a:Bool}{b:aa α}{c:α}:iT a b=some c↔a/\b=some c:=by cases a<;>simp
@[simp]theorem m6 {α β d:Type} (a:α) (b:β) (c:α->β->d):two (a,b) c=c a b:=rfl
@[simp]theorem nK {e:Type} (d:Ex) (a:Env) (c:H) (b:Ex->Env->H->e):three (d,a,c) b=b d a c:=rfl
section lists
variable {α β:Type}
@[simp]def mV (b:List α) (a:Nat):oS b a=b[a]? :=by
 induction b generalizing a with
 |nil=>rfl
 |cons e d c=>cases a with
  |zero=>rfl
  |succ a=>exact(c a).trans V 
def mt(b:List α)(a:Nat)(c:α):lQ b a c=if a<b.length then some (b.set a c)else none:=by
 induction b generalizing a with
 |nil=>rfl
 |cons h d f=>cases a with
  |zero=>rfl
  |succ a=>
   show(Z (lQ d a c) λg=>some (h::g))=_;rw[f];by_cases e:a<d.length<;>simp[e]
theorem qh(a:Nat)(b:List α):takeN a b=if a<=b.length then some (b.take a)else none:=by
 induction a generalizing b with
 |zero=>rfl
 |succ a e=>cases b with
  |nil=>rfl
  |cons g c=>
   show(Z (takeN a c) λf=>some (g::f))=_;rw[e];by_cases d:a<=c.length<;>simp[d]
def nV(a:Nat)(b:List α):kZ a b=if a<=b.length then some (b.drop a)else none:=by
 induction a generalizing b with
 |zero=>rfl
 |succ a e=>cases b with
  |nil=>rfl
  |cons f c=>
   show kZ a c=_;rw[e];by_cases d:a<=c.length<;>simp[d]
@[simp]theorem kG (a:List α):m7 a=a.length:=by
 induction a with
 |nil=>rfl
 |cons d c b=>show Nat.succ (m7 c)=_;rw[b];rfl
@[simp]theorem qt (a b:List α):Ep a b=some (a++b):=by
 induction a with
 |nil=>rfl
 |cons f d c=>show(Z (Ep d b) λe=>some (f::e))=_;rw[c];rfl
theorem kv(a:α->aa β)(c:α)(b:List α):iK a (c::b)=Z (a c) λe=>Z (iK a b) λd=>some (e::d):=rfl
@[simp]theorem aco (a:α->aa β):iK a []=some []:=rfl
theorem c5{p:Prop}(h:p:=by grind):p:=h
def vn{e:α->aa β}{b:List α}{a:List β}:iK e b=some a↔b.length=a.length/\∀(c:Nat) d,b[c]? =some d->∃f,a[c]? =some f/\e d=some f:=by
 induction b generalizing a with
 |nil=>
  constructor;simp_all;rintro⟨g,_⟩;simp at g;simp[bw g.symm]
 |cons d b k=>
  rw[kv];constructor
  grind [ed]
  rintro⟨hl,h⟩;rcases a with _|⟨f,a⟩
  grind
  have⟨n,i,j⟩:=h 0 d V;simp at i;subst i;have:iK e b=some a:=k.2 ⟨by grind,λc l m=>by simpa using h (c+1) l c5⟩;rw[j,this];rfl
@[simp]theorem sR (b:α) (a:Nat):so b a=ao a b:=by
 induction a with
 |zero=>rfl
 |succ a c=>show b::so b a=_;rw[c];rfl
@[simp]def Da (a:α->Bool) (b:List α):AU a b=b.all a:=by
 induction b with
 |nil=>rfl
 |cons c b e=>
  show @Bool.rec (λ_=>Bool) false (AU a b) (a c)=_;rw[e];cases d:a c<;>simp[d]
end lists
@[simp]theorem jv (a:Nat):iZ a=some a:=by cases a<;>rfl
@[simp]theorem aci (b:Int):Qh b=some b:=by
 cases b with
 |ofNat a=>cases a<;>rfl
 |negSucc a=>cases a<;>rfl
@[simp]def rn (a:ak) (b:Int):Br a b=some (.int a b):=by simp[Br]
@[simp]theorem u7 (a:Bool):AY a=some (.ej a):=by cases a<;>rfl
@[simp]def BH (a b:ak):(H9 a b=true)↔a=b:=by cases a<;>cases b<;>decide
def BD(c b:Int):Qm c b=decide (c<b):=by
 cases c with
 |ofNat d=>cases b with
  |ofNat a=>
   show au d a=_;rw[bI,aP];simp
  |negSucc a=>rfl
 |negSucc d=>cases b with
  |ofNat a=>show true=_;grind
  |negSucc a=>
   show au a d=_;rw[bI,aP];grind
def BM(c b:Int):XA c b=(c==b):=by
 cases c with
 |ofNat d=>cases b with
  |ofNat a=>
   show aq d a=_;rw[bI,Nat.beq_eq];grind
  |negSucc a=>rfl
 |negSucc d=>cases b with
  |ofNat a=>rfl
  |negSucc a=>
   show aq d a=_;rw[bI,Nat.beq_eq];simp
def kz(c:ak)(d:Int):PA c d=c.wrap d:=by
 cases c<;>try rfl
 cases d with
 |ofNat a=>
  show @Bool.rec (λ_=>Int) (IntKind.i64.wrap (.ofNat a)) (Int.ofNat a) (ar a 9223372036854775807)=_;cases b:ar a 9223372036854775807;rfl;have:=bG b;show Int.ofNat a=_;exact(IntWalk.i64_in _ c5).symm
 |negSucc a=>
  show @Bool.rec (λ_=>Int) (IntKind.i64.wrap (.negSucc a)) (Int.negSucc a) (ar a 9223372036854775807)=_;cases b:ar a 9223372036854775807;rfl;have:=bG b;show Int.negSucc a=_;exact(IntWalk.i64_in _ G).symm
@[simp]def Cf (a:ak) (b:Int):rk a b=some (.int a (a.wrap b)):=by simp[rk,kz]
def BL(b a:List Nat):YV b a=(b==a):=by
 induction b generalizing a with
 |nil=>cases a<;>rfl
 |cons c b f=>cases a with
  |nil=>rfl
  |cons d a=>
   show @Bool.rec (λ_=>Bool) false (YV b a) (aq c d)=_;rw[f];rw[List.cons_beq_cons];cases e:aq c d;have:(c==d)=false:=by rw[<-Bool.not_eq_true,beq_iff_eq,<-Nat.beq_eq];simp[e]
   grind
   simp_all
theorem H.get_eq(b:H)(a:Nat):b.get a=if a<b.size then b.iv[b.size-1-a]? else none:=by
 obtain⟨d,f,e⟩:=b;show iT (au a d) (oS e _)=_;by_cases c:a<d;have:au a d:=by rw[aP];exact c
 simp[this,c];have:au a d=false:=by rw[<-Bool.not_eq_true,aP];exact c
 simp[this,c]
def H.Vy(b:Nat->T)(a:H)(c:jI):a.new b c=some (b a.size,⟨a.size+1,a.low,c::a.iv⟩):=by obtain⟨d,f,e⟩:=a;show(Z (iZ (Nat.succ d)) λg=>some (b d,(⟨g,f,c::e⟩:H)))=_;simp
def H.zG{b j:H}{a:Nat}{i:jI}:b.put a i=some j↔
 a<b.size/\b.size-1-a<b.iv.length/\j=⟨b.size,if a<b.low then a else b.low,b.iv.set (b.size-1-a) i⟩:=by
 obtain⟨d,c,l⟩:=b;show iT (au a d) (Z (lQ l (d-1-a) i) λe=> @Bool.rec (λ_=>aa H) (some (⟨d,c,e⟩:H)) (some ⟨d,a,e⟩) (au a c))=_↔_;rw[fh,aP,mt];constructor;rintro⟨g,m⟩;obtain⟨e,f,k⟩:=ed.1 m;split at f;rename_i hl;simp at f;subst f;refine⟨g,hl,?_⟩;by_cases h:a<c;have:au a c:=by rw[aP];omega
 rw[this]at k;grind;have:au a c=false:=by rw[<-Bool.not_eq_true,aP];omega
 rw[this]at k;grind
 grind
 rintro⟨g,hl,rfl⟩;refine⟨g,?_⟩;simp[]at hl;rw[ax hl];by_cases h:a<c;have:au a c:=by rw[aP];omega
 simp[this,h];have:au a c=false:=by rw[<-Bool.not_eq_true,aP];omega
 simp[this,h]
end
structure Loc where
 ep:Nat
 jR:Nat
 cap:Nat
 sz:Nat
structure Mu where
 loc:Nat->aa Loc
 qy:Nat->Prop
instance :CoeFun Mu (λ_=>Nat->aa Loc):=⟨Mu.loc⟩
def pV(c:Mu)(b:Nat):Prop:=(∃d a,c d=D a/\a.jR=b)\/c.qy b
def T.scalar:T->Bool
 | .undef| .eQ _| .tuple _=>false
 |_=>true
inductive mc:T->Prop where
 |ej (b:Bool):mc (.ej b)
 |int (k:ak) (n:Int):mc (.int k n)
 |str (s:List Nat):mc (.str s)
 |mf:mc .mf
 |kA (cs:List T) (h:∀v∈cs,mc v):mc (.kA cs)
 |em (es:List T) (full:Bool) (h:∀v∈es,mc v):mc (.em es full)
 |jb:mc .jb
 |mw:mc .mw
 |mH:mc .mH
 |eQ (cs:List T) (h:∀v∈cs,mc v):mc (.eQ cs)
def yR(a:T):Prop:=a.scalar=true/\mc a
def ir(a:List T):List T:=a.flatMap T.cells
def bytesOf(a:List Nat):ByteArray:=⟨(a.map UInt8.ofNat).toArray⟩
inductive iu (hp:af Obj) (μ:Mu):T->am->Prop where
 |undef:iu hp μ .undef (.tuple #[])
 |ej (b:Bool):iu hp μ (.ej b) (.bool b)
 |int (k:ak) (n:Int):iu hp μ (.int k n) (.int k n)
 |str (s:List Nat) (h:∀c∈s,c<256):iu hp μ (.str s) (.string (bytesOf s))
 |mf:iu hp μ .mf (.pointer none)
 |eZ (b ep i j:Nat) (L:Loc) (a:Addr) (hb:μ b=D L) (he:ep<=L.ep) (ha:ep=L.ep->a=⟨L.jR,i*L.sz+j,none⟩):
  iu hp μ (.eZ b ep i j) (.pointer (some a))
 |kA (cells:List T) (jR off:Nat) (arr:af am) (t:ab) (fz:Nat×Nat) (hn:¬pV μ jR) (hh:hp[jR]? =D (.cells arr t fz))
  (hs:off+cells.length<=arr.size) (hc:∀v∈cells,yR v)
  (hr:∀(k:Nat) v,cells[k]? =D v->iu hp μ v (arr.getD (off+k) Go.undef)):iu hp μ (.kA cells) (.pointer (some ⟨jR,off,none⟩))
 |qf (full:Bool) (a:aa Addr):iu hp μ (.em [] full) (.slice a 0 0)
 |em (e:T) (es:List T) (full:Bool) (jR off cap sz:Nat) (arr:af am) (t:ab) (fz:Nat×Nat) (hn:¬pV μ jR)
  (hh:hp[jR]? =D (.cells arr t fz)) (hl:es.length+1<=cap) (hf:full=true->cap=es.length+1)
  (hu:∀v∈e::es,v.cells.length=sz) (hs:off+(ir (e::es)).length<=arr.size) (hc:∀v∈ir (e::es),yR v)
  (hr:∀(k:Nat) v,(ir (e::es))[k]? =D v->iu hp μ v (arr.getD (off+k) Go.undef)):
  iu hp μ (.em (e::es) full) (.slice (some ⟨jR,off,none⟩) (es.length+1) cap)
 |jb (a:aa Addr) (cap:Nat):iu hp μ .jb (.slice a 0 cap)
 |arr (b ep o l:Nat) (full:Bool) (L:Loc) (a:aa Addr) (cp:Nat) (hb:μ b=D L) (he:ep<=L.ep) (hl:l<=cp)
  (h:ep=L.ep->(full=true->cp=l)/\(full=false->o+cp=L.cap)/\(cp≠0->a=D ⟨L.jR,o*L.sz,none⟩)):
  iu hp μ (.arr b ep o l full) (.slice a l cp)
 |func (f:aj) (caps:List T) (cs:af am) (hs:cs.size=caps.length)
  (hr:∀(k:Nat) v,caps[k]? =D v->iu hp μ v (cs.getD k Go.undef)):iu hp μ (.func f caps) (.func (.func f) #[] cs)
 |mw:iu hp μ .mw .nilFunc
 |mH:iu hp μ .mH .nilIface
 |iface (t:ab) (v:T) (c:am) (h:iu hp μ v c):iu hp μ (.iface t v) (.iface t c)
 |iter (b:Nat) (L:Loc) (a:Addr) (hb:μ b=D L) (h:L.ep=0->a=⟨L.jR,0,none⟩):iu hp μ (.iter b) (.pointer (some a))
 |map (b:Nat) (L:Loc) (i:Nat) (hb:μ b=D L) (h:L.ep=0->i=L.jR):iu hp μ (.map b) (.map (some i))
 |pz:iu hp μ .pz (.map none)
 |eQ (cells:List T) (cs:af am) (hs:cs.size=cells.length) (hc:∀v∈cells,v.scalar=true)
  (hr:∀(k:Nat) v,cells[k]? =D v->iu hp μ v (cs.getD k Go.undef)):iu hp μ (.eQ cells) (.agg cs)
 |tuple (vs:List T) (cs:af am) (hs:cs.size=vs.length)
  (hr:∀(k:Nat) v,vs[k]? =D v->iu hp μ v (cs.getD k Go.undef)):iu hp μ (.tuple vs) (.tuple cs)
structure Ext(hp:af Obj)(μ:Mu)(hp':af Obj)(μ':Mu):Prop where
 size:hp.size<=hp'.size
 qd:∀i,i<hp.size->¬pV μ i->hp'[i]? =hp[i]? /\¬pV μ' i
 mu:∀b L,μ b=D L->∃L',μ' b=D L'/\(L'=L\/L.ep<L'.ep)
 qy:μ'.qy=μ.qy
 kept:∀i,i<hp.size->μ.qy i->hp'[i]? =hp[i]?
structure sM(w:World)(μ:Mu)(w':World)(μ':Mu):Prop where
 ext:Ext w.heap μ w'.heap μ'
 os:w'.os=w.os
 tape:w'.tape=w.tape
 output:w'.output=w.output
def Ext.refl(b:af Obj)(c:Mu):Ext b c b c:=⟨az _,λ_ _ a=>⟨rfl,a⟩,λ_ d a=>⟨d,a,.inl rfl⟩,rfl,λ_ _ _=>rfl⟩
def Ext.trans{hp f g:af Obj}{h i j:Mu}(a:Ext hp h f i)(d:Ext f i g j):Ext hp h g j:=by
 refine⟨aU a.size d.size,λc b o=>?_,λe k n=>?_,d.qy.trans a.qy,λc b hr=>?_⟩
 rotate_right
 rw[d.kept c (bO b a.size) (a.qy▸hr),a.kept c b hr];have⟨r,p⟩:=a.qd c b o;have⟨s,u⟩:=d.qd c (bO b a.size) p
 grind
 have⟨l,m,r1⟩:=a.mu e k n;have⟨q,t,r2⟩:=d.mu e l m
 grind
def sM.refl(a:World)(b:Mu):sM a b a b:=⟨Ext.refl _ _,rfl,rfl,rfl⟩
def sM.trans{c w1 d:World}{e f g:Mu}(a:sM c e w1 f)(b:sM w1 f d g):sM c e d g:=
 ⟨a.ext.trans b.ext,b.os.trans a.os,b.tape.trans a.tape,b.output.trans a.output⟩
def GY{a:af Obj}{b:Nat}{c:Obj}(d:a[b]? =D c):b<a.size:=by grind
def iu.ext{A B:af Obj}{C E:Mu}{t:T}{s:am}(i:iu A C t s)(j:Ext A C B E):iu B E t s:=by
 induction i with
 |undef=>exact .undef
 |ej a=>exact .ej a
 |int P p=>exact .int P p
 |str U i=>exact .str U i
 |mf=>exact .mf
 |eZ a x z O e c g L Y=>
  have⟨f,h,r⟩:=j.mu a e g;refine .eZ a x z O f c h ?_ ?_;rcases r with rfl|r<;>omega
  grind
 |kA v k off arr q fz y o d n _ b=>
  have⟨w,p⟩:=j.qd k (GY o) y;exact .kA v k off arr q fz p (w.trans o) d n b
 |qf m c=>exact .qf m c
 |em w I m k off u W arr q fz y o hl M N d n _ b=>
  have⟨S,p⟩:=j.qd k (GY o) y;exact .em w I m k off u W arr q fz p (S.trans o) hl M N d n b
 |jb c u=>exact .jb c u
 |arr a x R Q m e c H g L hl i=>
  have⟨f,h,r⟩:=j.mu a e g;refine .arr a x R Q m f c H h ?_ hl ?_;rcases r with rfl|r<;>omega
  grind
 |func K F l d _ b=>exact .func K F l d b
 |mw=>exact .mw
 |mH=>exact .mH
 |iface q t s _ b=>exact .iface q t s b
 |iter a e c g i=>
  have⟨f,h,r⟩:=j.mu a e g;refine .iter a f c h ?_
  grind
 |map a e z g i=>
  have⟨f,h,r⟩:=j.mu a e g;refine .map a f z h ?_
  grind
 |pz=>exact .pz
 |eQ v l d n _ b=>exact .eQ v l d n b
 |tuple X l d _ b=>exact .tuple X l d b
def jc(e:af Obj)(f:Mu)(d:List T)(a:List am):Prop:=
 d.length=a.length/\∀(b:Nat) c,d[b]? =D c->iu e f c (a.getD b Go.undef)
def jc.ext{c d:af Obj}{f g:Mu}{e:List T}{a:List am}(b:jc c f e a)(k:Ext c f d g):jc d g e a:=
 ⟨b.1,λi j h=>(b.2 i j h).ext k⟩
theorem jc.nil{a:af Obj}{b:Mu}:jc a b [] []:=⟨rfl,λd e c=>by grind⟩
theorem jc.cons{a:af Obj}{c:Mu}{h:T}{d:am}{i:List T}{e:List am}(k:iu a c h d)(f:jc a c i e):jc a c (h::i) (d::e):=by
 refine⟨by simp[f.1],λb j g=>?_⟩;rcases b with _|b
 grind
 simp at g;simpa using f.2 b j g
def jc.om{d:af Obj}{f:Mu}{e:T}{g:List T}{c:List am}(h:jc d f (e::g) c):∃a b,c=a::b/\iu d f e a/\jc d f g b:=by
 obtain⟨hl,hr⟩:=h;rcases c with _|⟨a,b⟩
 grind
 exact⟨a,b,rfl,iD (hr 0 e V),by grind,λi j k=>iD (hr (i+1) j c5)⟩
theorem jc.append{c:af Obj}{d:Mu}{a g:List T}{b e:List am}(f:jc c d a b)(j:jc c d g e):jc c d (a++g) (b++e):=by
 induction a generalizing b with
 |nil=>obtain⟨hl,_⟩:=f;simp at hl;rw[bw hl.symm];grind
 |cons n a m=>obtain⟨h,i,rfl,l,k⟩:=f.om;grind [jc.cons]
def jc.take{e:af Obj}{f:Mu}{a:List T}{c:List am}(d:jc e f a c)(b:Nat):jc e f (a.take b) (c.take b):=by
 induction b generalizing a c with
 |zero=>simp[jc.nil]
 |succ b k=>cases a with
  |nil=>obtain⟨hl,_⟩:=d;simp at hl;rw[bw hl.symm];simp[jc.nil]
  |cons l a=>obtain⟨g,h,rfl,j,i⟩:=d.om;grind [jc.cons]
def jc.drop{e:af Obj}{f:Mu}{a:List T}{c:List am}(d:jc e f a c)(b:Nat):jc e f (a.drop b) (c.drop b):=by
 induction b generalizing a c with
 |zero=>grind
 |succ b j=>cases a with
  |nil=>obtain⟨hl,_⟩:=d;simp at hl;rw[bw hl.symm];simp[jc.nil]
  |cons k a=>obtain⟨g,h,rfl,_,i⟩:=d.om;grind
def jc.get{d:af Obj}{f:Mu}{e:List T}{a:List am}(c:jc d f e a){k:Nat}{v:T}(h:e[k]? =D v):∃b,a[k]? =D b/\iu d f v b:=by
 have g:k<a.length:=by
  rw[<-c.1]
  grind
 refine⟨a[k],V,?_⟩;simpa[List.getD,g]using c.2 k v h
theorem uZ{d:af Obj}{f:Mu}{b:T}{a:am}(c:iu d f b a)(e:b.scalar):a.oneCell'=true:=by cases c<;>first|rfl|(simp[T.scalar]at e)
theorem iu.cells{o:af Obj}{q:Mu}{b:T}{c:am}(d:iu o q b c)(Y:b.iW):
 jc o q b.cells c.cells.toList/\(∀h∈b.cells,h.scalar=true)/\∀h∈c.cells.toList,h.oneCell'=true:=by
 have a:∀{b:T} {c:am},iu o q b c->b.scalar->b.cells=[b]->c.cells= #[c]->
  jc o q b.cells c.cells.toList/\(∀h∈b.cells,h.scalar=true)/\∀h∈c.cells.toList,h.oneCell'=true:=by
  intro b c d k z i;rw[z,i]
  grind [jc.nil,jc.cons,uZ]
 cases d with
 |eQ m r k i hr=>
  have H:jc o q m r.toList:=⟨by grind,λl b z=>by simp_all⟩;refine⟨H,i,?_⟩;intro h O;have N:h∈r.toList:=O;obtain⟨l,Z,rfl⟩:=List.getElem_of_mem N;have L:l<m.length:=by grind
  have:=hr l m[l] V;have X:=uZ this (i _ (aH L));simp_all
 |undef=>grind [T.iW]
 |tuple=>grind [T.iW]
 |ej f=>exact a (.ej f) rfl rfl rfl
 |int l R=>exact a (.int l R) rfl rfl rfl
 |str U g=>exact a (.str U g) rfl rfl rfl
 |mf=>exact a .mf rfl rfl rfl
 |eZ f u y P j e g v I=>exact a (.eZ f u y P j e g v I) rfl rfl rfl
 |kA m s off arr p fz x w k i hr=>exact a (.kA m s off arr p fz x w k i hr) rfl rfl rfl
 |qf n e=>exact a (.qf n e) rfl rfl rfl
 |em C E n s off t W arr p fz x w hl K M k i hr=>exact a (.em C E n s off t W arr p fz x w hl K M k i hr) rfl rfl rfl
 |jb e t=>exact a (.jb e t) rfl rfl rfl
 |arr f u S Q n j e B g v hl d=>exact a (.arr f u S Q n j e B g v hl d) rfl rfl rfl
 |func F A r k hr=>exact a (.func F A r k hr) rfl rfl rfl
 |mw=>exact a .mw rfl rfl rfl
 |mH=>exact a .mH rfl rfl rfl
 |iface p b c d=>exact a (.iface p b c d) rfl rfl rfl
 |iter f j e g d=>exact a (.iter f j e g d) rfl rfl rfl
 |map f j y g d=>exact a (.map f j y g d) rfl rfl rfl
 |pz=>exact a .pz rfl rfl rfl
structure Df(hp:af Obj)(μ:Mu)(L:Loc)(wP:Bool)(gU:List T):Prop where
 row:∃arr t,hp[L.jR]? =D (.cells arr t (0,0))/\arr.size=L.cap*L.sz/\jc hp μ (ir gU) (arr.toList.take (ir gU).length)
 room:gU.length<=L.cap
 wP:wP->L.cap=gU.length
 size:∀v∈gU,v.cells.length=L.sz
 scalar:∀v∈ir gU,v.scalar
def Nj(c:af Obj)(i:Mu)(j:Loc)(e:List T):Prop:=
 ∃a:af MapEntry,c[j.jR]? =D (.map a a.size)/\a.size=e.length/\
  ∀(d:Nat) h,e[d]? =D h->∃f g b,h= .tuple [f,g]/\a[d]? =D b/\b.born=d/\iu c i f b.key/\iu c i g b.val
def ahL(c:af Obj)(i:Mu)(g:Loc)(h:List T):Prop:=
 ∃e d f b a,h=[.map e,.int .i64 (.ofNat f),.int .i64 (.ofNat b),.int .i64 (.ofNat a)]/\iu c i (.map e) (.map (some d))/\b<=a/\
  c[g.jR]? =D (.mapIter (some d) b (Array.range f) a)
structure uA(hp:af Obj)(μ:Mu)(L:Loc)(x:jI):Prop where
 ep:x.ep=L.ep
 sz:x.sz=L.sz
 plain:x.it=false->Df hp μ L x.exact x.gU
 iter:x.it->x.ep=0/\((∃s pos,x.gU=[.str s,.int .i64 (.ofNat pos)]/\(∀c∈s,c<256)/\hp[L.jR]? =D (.stringIter (bytesOf s) pos))\/Nj hp μ L x.gU\/ahL hp μ L x.gU)
structure St(cx:Ctx)(base:Nat)(hp:af Obj)(μ:Mu)(h:H):Prop where
 wf:h.iv.length=h.size
 fit:base<=hp.size
 box:∀b L,μ b=D L->∃x,h.get b=D x/\uA hp μ L x
 inj:∀b b' L L',μ b=D L->μ b'=D L'->L.jR=L'.jR->b=b'
 low:∀b L,μ b=D L->base<=L.jR
 apart:∀b L,μ b=D L->¬μ.qy L.jR
 uv:∀i,μ.qy i->i<hp.size
 CO:∀g cs,cx.gl g=D cs->iu hp μ (.kA cs) (.pointer (some ⟨g,0,none⟩))
def Df.ext{c d:af Obj}{g h:Mu}{b:Loc}{f:Bool}{e:List T}(a:Df c g b f e)(j:Ext c g d h)(n:d[b.jR]? =c[b.jR]?):Df d h b f e:=by have⟨i,o,k,l,m⟩:=a.row;exact⟨⟨i,o,n.trans k,l,m.ext j⟩,a.room,a.wP,a.size,a.scalar⟩
def uA.ext{j k:af Obj}{n o:Mu}{b:Loc}{h:jI}(d:uA j n b h)(c:Ext j n k o)(i:k[b.jR]? =j[b.jR]?):uA k o b h:=
 ⟨d.ep,d.sz,λa=>(d.plain a).ext c i,λa=>by
   obtain⟨l,⟨F,m,e,f,g⟩|⟨q,e,f,g⟩|⟨A,z,m,C,p,e,f,g,w⟩⟩:=d.iter a
   grind
   refine⟨l,.inr (.inl ⟨q,i.trans e,f,λy h x=>?_⟩)⟩;have⟨a,E,B,r,s,t,u,v⟩:=g y h x;exact⟨a,E,B,r,s,t,u.ext c,v.ext c⟩;exact⟨l,.inr (.inr ⟨A,z,m,C,p,e,f.ext c,g,i.trans w⟩)⟩⟩
def uA.lt{d:af Obj}{g:Mu}{a:Loc}{e:jI}(b:uA d g a e):a.jR<d.size:=by
 cases c:e.it;have⟨h,m,f,_⟩:=(b.plain c).row;grind;obtain⟨_,⟨s,l,_,_,j⟩|⟨i,f,_⟩|⟨_,_,_,_,_,_,_,_,k⟩⟩:=b.iter c
 grind
 grind
 grind
def St.lt{cx:Ctx}{e:Nat}{c:af Obj}{d:Mu}{f:H}(s:St cx e c d f){b:Nat}{a:Loc}(g:d b=D a):a.jR<c.size:=by have⟨i,_,h⟩:=s.box b a g;exact h.lt
section
section
variable {P:ai}{cx:Ctx}
structure yB(P:ai)(t:ab)(ty:Ty):Prop where
 is:∃cmp,dZ P t cmp=D ty
def kO{a:Nat}(b:a<256):(UInt8.ofNat a).toNat=a:=by simp_all
def Ta(a:List UInt8):El a=D (a.map UInt8.toNat):=by
 induction a with
 |nil=>rfl
 |cons d a b=>
  show(Z (iZ d.toNat) λe=>Z (El a) λc=>some (e::c))=_;rw[b];simp
def Be(a:ByteArray):bytesOf (a.data.toList.map UInt8.toNat)=a:=by
 unfold bytesOf;rw[List.map_map];have:(UInt8.ofNat∘UInt8.toNat)=id:=by funext b;simp
 rw[this];simp
theorem iu.qB{hp:af Obj}{μ:Mu}{d:am}{b:T}(a:qB d=D b):iu hp μ b d/\b.scalar=true:=by
 unfold TI.qB at a;split at a;simp at a;subst a;exact⟨.ej _,rfl⟩;simp at a;subst a;exact⟨.int _ _,rfl⟩;rename_i f;rw[Ta]at a;simp at a;subst a;refine⟨?_,rfl⟩;have:=iu.str (hp:=hp) (μ:=μ) (f.data.toList.map UInt8.toNat) (by intro g c;simp at c;obtain⟨e,_,rfl⟩:=c;exact e.toNat_lt);rwa[Be]at this;simp at a;subst a;exact⟨.mf,rfl⟩;simp at a;subst a;exact⟨.pz,rfl⟩;simp at a;subst a;exact⟨.qf _ _,rfl⟩;simp at a;subst a;exact⟨.mw,rfl⟩;simp at a;subst a;exact⟨.mH,rfl⟩
 grind
theorem jc.wv{hp:af Obj}{μ:Mu}{b:List am}{e:List T}(j:iK TI.qB b=D e):jc hp μ e b/\∀f∈e,f.scalar=true:=by
 have⟨hl,h⟩:=vn.1 j;refine⟨⟨hl.symm,λa f d=>?_⟩,λf d=>?_⟩;have i:a<b.length:=by
  grind
 have⟨k,c,g⟩:=h a b[a] V;rw[d]at c;grind [iu.qB,List.getD];obtain⟨a,i,rfl⟩:=List.getElem_of_mem d;have l:a<b.length:=G;have⟨k,c,g⟩:=h a b[a] V;simp[i]at c;subst c;exact(iu.qB (hp:=hp) (μ:=μ) g).2
theorem iu.Bg{e:af Obj}{f:Mu}{a:List T}{b:af am}(d:jc e f a b.toList)(g:∀c∈a,c.scalar):iu e f (.eQ a) (.agg b):=
 .eQ a b (iD d.1.symm) g λi c h=>by simpa[cC,List.getD]using d.2 i c h
def iu.CD{d:af Obj}{e:Mu}{a:am}{b:T}(c:CD a=D b):iu d e b a:=by
 unfold TI.CD at c
 grind [iu.Bg,jc.wv,ed,iu.qB]
def yB.unfold{e:ab}{c:Ty}(a:yB P e c):∃b d f,P.info? e=D b/\P.underlying e=D d/\b.zero=D f/\iK qB f.cells.toList=D c.zero/\
 Dl P d=D c.u/\wV d f/\c.zero.length=b.size/\b.size=c.size/\b.bytes=c.bytes/\
 (c.cmp->P.stoodInHeld e=false/\P.eqGuardType P.depth e=false/\Qk d=true):=by
 have⟨p,a⟩:=a.is;unfold dZ at a;have⟨b,h,a⟩:=ed.1 a;have⟨d,i,a⟩:=ed.1 a;have⟨f,j,a⟩:=ed.1 a;have⟨r,k,a⟩:=ed.1 a;have⟨q,l,a⟩:=ed.1 a;have⟨m,a⟩:=fh.1 a;have⟨n,a⟩:=fh.1 a;have⟨o,a⟩:=fh.1 a;simp at a;rw[<-a];refine⟨b,d,f,h,i,j,k,l,m,?_,rfl,rfl,?_⟩;rw[kG]at n;simp_all;intro g;simp[]at g;rw[g]at o
 grind
def yB.run_sizeOf{a:ab}{b:Ty}(d:yB P a b)(c:World):(sizeOf a).run P c= .ok b.size c:=by have⟨h,g,i,e,_,_,_,_,_,_,f,_⟩:=d.unfold;simp[sizeOf,typeInfo,e,f]
def yB.run_typeInfo{c:ab}{b:Ty}(e:yB P c b)(d:World):∃a,(typeInfo c).run P d= .ok a d/\a.bytes=b.bytes/\a.size=b.size:=by have⟨a,i,j,f,_,_,_,_,_,_,g,h,_⟩:=e.unfold;exact⟨a,by simp[typeInfo,f],h,g⟩
def ahA:TypeDesc->Bool
 | .struct _| .array _ _=>true
 |_=>false
def DZ{b:TypeDesc}{c:Ty}(a:Dl P b=D c.u):c.isAgg=ahA b:=by unfold Ty.isAgg;cases b<;>simp only[Dl]at a<;>first|(injection a with a;rw[<-a];rfl)|(split at a<;>simp at a;rw[<-a];rfl)
def yB.w8{a:ab}{b:Ty}(e:yB P a b)(c:World):(isAgg a).run P c= .ok b.isAgg c:=by have⟨h,d,i,_,f,_,_,g,_⟩:=e.unfold;rw[DZ g];simp[isAgg,Sem.run_bind,run_underlying f,Result.andThen_ok];cases d<;>rfl
def yB.zero{s:ab}{a:Ty}(e:yB P s a)(t:World):∃b,(zeroValue s).run P t= .ok b t/\(∀hp μ,iu hp μ a.kV b)/\(∀hp μ,jc hp μ a.zero b.cells.toList)/\
 (∀z∈a.zero,z.scalar=true)/\a.zero.length=a.size/\a.kV.cells=a.zero/\a.kV.iW/\b.cells.size=a.size:=by
 have⟨K,n,b,u,E,v,f,o,g,F,H,I,_⟩:=e.unfold;have h:=(jc.wv (hp:= #[]) (μ:=⟨λ_=>none,λ_=>False⟩) f).2;have k:a.zero.length=b.cells.size:=by
  have:=(jc.wv (hp:= #[]) (μ:=⟨λ_=>none,λ_=>False⟩) f).1.1;omega
 refine⟨b,by simp[zeroValue,typeInfo,u,v],?_,λhp μ=>(jc.wv f).1,h,G,?_⟩;intro hp μ;have d:=(jc.wv (hp:=hp) (μ:=μ) f).1;unfold Ty.kV;rw[DZ o];cases n with
 |struct C=>cases b with
  |agg m=>exact iu.Bg d h
  |_=>simp[wV]at g
 |array L B=>cases b with
  |agg m=>exact iu.Bg d h
  |_=>simp[wV]at g
 |_=>
  have i:b.cells= #[b]:=by cases b<;>simp[wV]at g<;>rfl
  rw[i]at d;obtain⟨hl,_⟩:=d;simp at hl
  match l:a.zero,hl with
  | [c],_=>
   have d:=(jc.wv (hp:=hp) (μ:=μ) f).1;rw[i,l]at d;have⟨A,m,q,x,_⟩:=d.om;simp at q;show iu hp μ c b;rw[q.1];exact x
 have p:=DZ o;have w:(a.isAgg/\a.kV= .eQ a.zero)\/(a.isAgg=false/\∃c,a.zero=[c]/\a.kV=c/\c.scalar=true):=by
  cases j:a.isAgg;right;refine⟨rfl,?_⟩;have i:b.cells= #[b]:=by
   rw[j]at p;cases n<;>simp[ahA]at p<;>cases b<;>simp[wV]at g<;>rfl
  rw[i]at k;simp at k
  match l:a.zero,k with
  | [c],_=>exact⟨c,rfl,by unfold Ty.kV;rw[j,l];rfl,h c c5⟩
  left;exact⟨rfl,by unfold Ty.kV;rw[j]⟩
 rcases w with⟨_,e⟩|⟨_,c,y,e,r⟩;rw[e];exact⟨rfl,rfl,G⟩;rw[e,y];refine⟨?_,?_,G⟩;cases c<;>simp[T.scalar]at r<;>rfl;cases c<;>simp[T.scalar]at r<;>rfl
structure jP(P:ai)(cx:Ctx):Prop where
 ty:∀t ty,cx.ty t=D ty->yB P t ty
def mh(d:af Obj)(g:Mu)(e:Nat)(c:Env)(f:af am):Prop:=
 ∀a b,c.get e a=D b->iu d g b (f.getD a Go.undef)
def mh.ext{b c:af Obj}{f g:Mu}{d:Nat}{a:Env}{e:af am}(h:mh b f d a e)(l:Ext b f c g):mh c g d a e:=
 λj k i=>(h j k i).ext l
def iV{k:Nat}{c:af Obj}{e:Mu}{n:H}{j:Nat}{g:Env}{f:Act}(q:St cx k c e n)(p:mh c e j g f.tmps){d:ah}{a:T}
 (b:iG cx j g d=D a):iu c e a (f.eval d):=by
 cases d with
 |tmp r=>exact p r a b
 |const s=>exact iu.CD b
 |global m=>
  have⟨l,o,i⟩:=ed.1 b;simp at i;subst i;exact q.CO m l o
 |func h=>
  have:T.func h []=a:=by grind [iG]
  subst this;exact .func h [] #[] rfl λu a t=>by grind
def zJ{i:Nat}{c:af Obj}{e:Mu}{j:H}{h:Nat}{g:Env}{f:Act}(o:St cx i c e j)(n:mh c e h g f.tmps){b:List ah}{d:List T}
 (a:tM cx h g b=D d):jc c e d (b.map f.eval):=by
 induction b generalizing d with
 |nil=>simp_all[tM,jc.nil]
 |cons p b m=>
  unfold tM at a;rw[kv]at a;have⟨r,k,a⟩:=ed.1 a;have⟨q,l,a⟩:=ed.1 a;simp at a;subst a;exact jc.cons (iV o n k) (m l)
end
end
section
section inv
variable {hp:af Obj}{μ:Mu}{c:am}
def iu.tU{b:Bool}(h:iu hp μ (.ej b) c):c= .bool b:=by cases h;rfl
def iu.kS{b:ak}{d:Int}(h:iu hp μ (.int b d) c):c= .int b d:=by cases h;rfl
def iu.mW{b:List Nat}(h:iu hp μ (.str b) c):c= .string (bytesOf b)/\∀d∈b,d<256:=by cases h;grind
def iu.tT(h:iu hp μ .mf c):c= .pointer none:=by cases h;rfl
def iu.sZ{f d g i:Nat}(h:iu hp μ (.eZ f d g i) c):∃b a,c= .pointer (some a)/\μ f=D b/\d<=b.ep/\(d=b.ep->a=⟨b.jR,g*b.sz+i,none⟩):=by cases h with|eZ _ _ _ _ b a k l j=>grind
def iu.nS{f:List T}(h:iu hp μ (.kA f) c):∃d off b i fz,c= .pointer (some ⟨d,off,none⟩)/\¬pV μ d/\hp[d]? =D (.cells b i fz)/\
 off+f.length<=b.size/\(∀g∈f,yR g)/\∀(j:Nat) g,f[j]? =D g->iu hp μ g (b.getD (off+j) Go.undef):=by
 cases h with|kA _ d off b i fz m l n k hr=>exact⟨d,off,b,i,fz,rfl,m,l,n,k,hr⟩
def iu.wz{j g o f:Nat}{i:Bool}(h:iu hp μ (.arr j g o f i) c):∃b a d,c= .slice a f d/\μ j=D b/\g<=b.ep/\f<=d/\
 (g=b.ep->(i->d=f)/\(i=false->o+d=b.cap)/\(d≠0->a=D ⟨b.jR,o*b.sz,none⟩)):=by
 cases h with|arr _ _ _ _ _ b a d k l hl h=>grind
def iu.D1(h:iu hp μ .jb c):∃a b,c= .slice a 0 b:=by cases h;simp
def iu.xE{b:Bool}(h:iu hp μ (.em [] b) c):∃a,c= .slice a 0 0:=by cases h;simp
def iu.xF{j:T}{b:List T}{m:Bool}(h:iu hp μ (.em (j::b) m) c):∃g off i k f l fz,c= .slice (some ⟨g,off,none⟩) (b.length+1) i/\¬pV μ g/\
 hp[g]? =D (.cells f l fz)/\b.length+1<=i/\(m->i=b.length+1)/\(∀d∈j::b,d.cells.length=k)/\off+(ir (j::b)).length<=f.size/\
 (∀d∈ir (j::b),yR d)/\∀(n:Nat) d,(ir (j::b))[n]? =D d->iu hp μ d (f.getD (off+n) Go.undef):=by
 cases h with|em _ _ _ g off i k f l fz s r hl q u t p hr=>exact⟨g,off,i,k,f,l,fz,rfl,s,r,hl,q,u,t,p,hr⟩
def iu.vz{f:aj}{d:List T}(h:iu hp μ (.func f d) c):∃b,c= .func (.func f) #[] b/\jc hp μ d b.toList:=by cases h with|func _ _ b g hr=>exact⟨b,rfl,by grind,λj k i=>by simp_all⟩
def iu.xH(h:iu hp μ .mw c):c= .nilFunc:=by cases h;rfl
def iu.xG(h:iu hp μ .mH c):c= .nilIface:=by cases h;rfl
def iu.AK{b:ab}{f:T}(h:iu hp μ (.iface b f) c):∃d,c= .iface b d:=by cases h;simp
def iu.Qq{f:Nat}(h:iu hp μ (.map f) c):∃b d,c= .map (some d)/\μ f=D b/\(b.ep=0->d=b.jR):=by cases h with|map _ b d g h=>grind
def iu.VM(h:iu hp μ .pz c):c= .map none:=by cases h;rfl
def iu.s7{d:List T}(h:iu hp μ (.eQ d) c):∃b,c= .agg b/\jc hp μ d b.toList/\∀f∈d,f.scalar=true:=by cases h with|eQ _ b i g hr=>exact⟨b,rfl,⟨by grind,λk f j=>by simp_all⟩,g⟩
def iu.D0{d:List T}(h:iu hp μ (.tuple d) c):∃b,c= .tuple b/\jc hp μ d b.toList:=by cases h with|tuple _ b f hr=>exact⟨b,rfl,by grind,λi j g=>by simp_all⟩
end inv
section
variable {P:ai}{cx:Ctx}{base:Nat}{w:World}{μ:Mu}{h:H}{M:Nat}{e:Env}{a:Act}{o:Oper}
def BX(μ g:Mu)(d f:Nat):Prop:=d<=f/\(∀b,g b≠none->μ b≠none\/(d<=b/\b<f))/\∀b,d<=b->b<f->g b≠none
def BX.refl(μ:Mu)(b:Nat):BX μ μ b b:=⟨az _,λ_ h=> .inl h,λf g d=>absurd d G⟩
def BX.trans{hp s t:af Obj}{μ i j:Mu}{k g l:Nat}(h:BX μ i k g)(d:BX i j g l)(x:Ext s i t j):BX μ j k l:=by
 have v:=h.1;have z:=d.1;refine⟨aU h.1 d.1,λb f=>?_,λb f q=>?_⟩;rcases d.2.1 b f with x|x;rcases h.2.1 b x with y|y
 grind
 omega;omega;by_cases r:b<g;have⟨m,n⟩:=Option.ne_none_iff_exists'.1 (h.2.2 b f r);have⟨u,p,_⟩:=x.mu b m n;rw[p];simp;exact d.2.2 b G q
def j8(cx:Ctx)(base:Nat)(w:World)(μ:Mu)(i:Nat)(g:Result Next)(j:T)(f:H):Prop:=
 ∃c b d,(g= .ok (.value c) b\/(g= .ok .skip b/\c=Go.undef))/\iu b.heap d j c/\St cx base b.heap d f/\sM w μ b d/\BX μ d i f.size
def j8.pure{b:Result Next}{d:T}{c:am}(g:St cx base w.heap μ h)(hr:b= .ok (.value c) w)(f:iu w.heap μ d c):j8 cx base w μ h.size b d h:=
 ⟨c,w,μ,.inl hr,f,g,sM.refl _ _,BX.refl _ _⟩
theorem iM{h d:H}{b:aa T}{f:T}:val h b=be f d↔b=D f/\d=h:=by
 unfold val;rcases b with _|g
 simp;simp;grind
def Et{h:H}{b:aa T}{f:aj}{d:List T}:val h b≠some (.call f d):=by unfold val;cases b<;>simp
theorem ER{d:ah}(g:St cx base w.heap μ h)(l:mh w.heap μ M e a.tmps)(b:o.op= .move d\/o.op= .assign d){i:T}{f:H}
 (j:Hj d cx M e h=be i f):j8 cx base w μ h.size ((execOp a.eval o).run P w) i f:=by
 obtain⟨k,rfl⟩:=iM.1 j;refine j8.pure g ?_ (iV g l k);rcases b with b|b<;>simp[execOp,b]
theorem Mt{c n p:ah}(d:St cx base w.heap μ h)(i:mh w.heap μ M e a.tmps)(l:o.op= .pick c n p){m:T}{j:H}
 (b:Jb c n p cx M e h=be m j):j8 cx base w μ h.size ((execOp a.eval o).run P w) m j:=by
 obtain⟨f,q,b⟩:=ed.1 b;have r:=iV d i q;cases f<;>simp at b;rename_i f;have k:=r.tU;cases f;obtain⟨g,rfl⟩:=iM.1 b;exact j8.pure d (by simp[execOp,l,k,asBool]) (iV d i g);obtain⟨g,rfl⟩:=iM.1 b;exact j8.pure d (by simp[execOp,l,k,asBool]) (iV d i g)
theorem E9{l:ah}(g:St cx base w.heap μ h)(p:mh w.heap μ M e a.tmps)(i:o.op= .nilCheck l){k:T}{j:H}
 (f:uR l cx M e h=be k j):j8 cx base w μ h.size ((execOp a.eval o).run P w) k j:=by
 have⟨m,n,f⟩:=ed.1 f;have d:=iV g p n;cases m<;>simp at f;obtain⟨rfl,rfl⟩:=f;have⟨q,r,b,_⟩:=d.sZ;exact j8.pure g (by simp[execOp,i,b]) (b▸d);obtain⟨rfl,rfl⟩:=f;have⟨t,off,s,v,fz,b,_⟩:=d.nS;exact j8.pure g (by simp[execOp,i,b]) (b▸d);obtain⟨rfl,rfl⟩:=f;have⟨u,b,_⟩:=d.vz;exact j8.pure g (by simp[execOp,i,b]) (b▸d)
theorem Kj(j9:jP P cx){d:ab}{g:ah}(p:St cx base w.heap μ h)(B:mh w.heap μ M e a.tmps)(x:o.op= .makeInterface d g){f:T}{k:H}
 (b:D9 d g cx M e h=be f k):j8 cx base w μ h.size ((execOp a.eval o).run P w) f k:=by
 have⟨q,y,b⟩:=ed.1 b;have⟨I,j,K,C,s,E,F,l,_⟩:=(j9.ty d q y).unfold;have A:∀{i:H},(Z (iG cx M e g) λa=>iT a.iW (val h (some (.iface d a))))=be f i->(∀n,j≠ .interface n)->j8 cx base w μ h.size ((execOp a.eval o).run P w) f i:=by
  intro i b v;have⟨r,t,b⟩:=ed.1 b;have⟨_,b⟩:=fh.1 b;obtain⟨m,rfl⟩:=iM.1 b;simp at m;subst m;refine j8.pure (c:= .iface d (a.eval g)) p ?_ (.iface d r _ (iV p B t));simp only[execOp,x,Instr.makeInterface,Sem.run_bind,run_underlying s,Result.andThen_ok];cases j<;>first|rfl|exact absurd rfl (v _)
 cases z:q.u<;>rw[z]at b l<;>first|(exact A b (by rintro n rfl;simp[Dl]at l))|grind
theorem My{j:Fn}{first g:af ah}(m:St cx base w.heap μ h)(s:mh w.heap μ M e a.tmps)(q:o.op= .makeFunc j first g){f:T}{k:H}
 (b:Hl j first g cx M e h=be f k):j8 cx base w μ h.size ((execOp a.eval o).run P w) f k:=by
 unfold Hl at b;split at b;rename_i i;split at b;rename_i t;obtain⟨n,p,b⟩:=ed.1 b;obtain⟨d,rfl⟩:=iM.1 b;simp at d;subst d;have l:=zJ m s p;refine j8.pure (c:= .func (.func i) #[] (g.map a.eval)) m ?_ (.func i n _ (iD l.1.symm) λr f d=>?_);have:first= #[]:=by grind
 simp[execOp,q,Instr.makeFunc,this];have:=l.2 r f d;simp_all
 grind
 grind
theorem Hm{j:ah}{f:Nat}(g:St cx base w.heap μ h)(t:mh w.heap μ M e a.tmps)(q:o.op= .extract j f){i:T}{d:H}
 (b:xJ j f cx M e h=be i d):j8 cx base w μ h.size ((execOp a.eval o).run P w) i d:=by
 have⟨k,m,b⟩:=ed.1 b;have n:=iV g t m;cases k<;>simp at b;obtain⟨s,rfl⟩:=iM.1 b;have⟨u,r,l⟩:=n.D0;have⟨c,v,p⟩:=l.get s;exact j8.pure g (by simp[execOp,q,r,Instr.extract];simp_all) p
end
end
section
section
variable {P:ai}{cx:Ctx}{base:Nat}{w:World}{μ:Mu}{h:H}{M:Nat}{e:Env}{a:Act}{o:Oper}{hp:af Obj}
def yj{i j g:T}{f:ak->Int->Int->aa T}(h:AS i j f=D g):∃b c d,i= .int b c/\j= .int b d/\f b c d=D g:=by
 unfold AS at h;split at h;rename_i b c;split at h;rename_i m d;obtain⟨k,l⟩:=fh.1 h;rw[BH]at k;grind
 grind
 grind
def zd{j k i:T}{f:ak->Int->Nat->aa T}(h:Dv j k f=D i):∃c d g b,j= .int c d/\k= .int g (.ofNat b)/\f c d (min b c.bits)=D i:=by
 unfold Dv at h;split at h;rename_i c d;split at h;rename_i g b;cases b with
 |ofNat b=>grind
 |negSucc b=>grind
 grind
 grind
def KH{j k i:T}{l:Int->Int->Bool}{m:List Nat->List Nat->Bool}(h:Pe j k l m=D i):
 (∃b c d,j= .int b c/\k= .int b d/\i= .ej (l c d))\/(∃f g,j= .str f/\k= .str g/\i= .ej (m f g)):=by
 unfold Pe at h;split at h;rename_i b c;split at h;rename_i q d;obtain⟨n,p⟩:=fh.1 h;rw[BH]at n;subst n;rw[u7]at p;grind
 grind
 rename_i f;split at h;rename_i g;rw[u7]at h;grind
 grind
 grind
def qZ(b:List Nat):(bytesOf b).toList=b.map UInt8.ofNat:=by rw[ByteArray.toList_eq];rfl
def mE(b:List Nat):(bytesOf b).size=b.length:=by simp[bytesOf,ByteArray.size]
theorem ofNat_inj{b c:Nat}(d:b<256)(f:c<256)(h:UInt8.ofNat b=UInt8.ofNat c):b=c:=by have:=cd UInt8.toNat h;rwa[kO d,kO f]at this
theorem Im{c b:List Nat}(g:∀d∈c,d<256)(ht:∀d∈b,d<256)(h:c.map UInt8.ofNat=b.map UInt8.ofNat):c=b:=by
 induction c generalizing b with
 |nil=>simp_all
 |cons d c j=>cases b with
  |nil=>grind
  |cons k b=>
   simp[aR,cr]at h;rw[ofNat_inj (g d V) (ht k V) h.1,j (λf i=>g f c5) (λf i=>ht f c5) h.2]
def CS{b c:List Nat}(f:∀d∈b,d<256)(ht:∀d∈c,d<256):((bytesOf b).toList==(bytesOf c).toList)=YV b c:=by
 rw[BL,qZ,qZ,bI,beq_iff_eq,beq_iff_eq]
 grind [Im]
def GZ(b:Nat)(d:List Nat)(c:Nat)(f:List Nat):Xz (b::d) (c::f)=(decide (b<c)||(b==c&&Xz d f)):=by
 show @Bool.rec (λ_=>Bool) (@Bool.rec (λ_=>Bool) false (Xz d f) (aq b c)) true (au b c)=_;have g:au b c=decide (b<c):=by rw[bI,aP];simp
 have i:aq b c=(b==c):=by rw[bI,Nat.beq_eq];simp
 rw[g,i];cases decide (b<c)<;>cases (b==c)<;>rfl
def CH{d c:List Nat}(i:∀b∈d,b<256)(ht:∀b∈c,b<256):Op.bytesLess (bytesOf d).toList (bytesOf c).toList=Xz d c:=by
 rw[qZ,qZ];induction d generalizing c with
 |nil=>cases c<;>rfl
 |cons b d p=>cases c with
  |nil=>rfl
  |cons f c=>
   have l:=i b V;have m:=ht f V;rw[GZ];simp[aR,Op.bytesLess];rw[p (λg n=>i g c5) (λg n=>ht g c5)];have j:(decide (UInt8.ofNat b<UInt8.ofNat f))=decide (b<f):=by
    rw[bI,decide_eq_true_iff,decide_eq_true_iff,UInt8.lt_iff_toNat_lt,kO l,kO m]
   have k:(UInt8.ofNat b==UInt8.ofNat f)=(b==f):=by
    rw[bI,beq_iff_eq,beq_iff_eq]
    grind [ofNat_inj]
   rw[j,k]
def I4(c b:List Nat):(Xz c b||YV c b)= !Xz b c:=by
 induction c generalizing b with
 |nil=>cases b<;>rfl
 |cons f c d=>cases b with
  |nil=>rfl
  |cons g b=>
   rw[GZ,GZ,BL,List.cons_beq_cons,<-BL];have:=d b
   grind
def HS(b c:List Nat):bytesOf (b++c)=bytesOf b++bytesOf c:=by apply ByteArray.ext;simp[bytesOf,ByteArray.data_append]
def M7{p:BinOp}{i q l:T}{y A:am}(x:ab)(W:p≠ .eql)(Y:p≠ .neq)(u:iu hp μ i y)(v:iu hp μ q A)(b:binop p i q=D l):
 ∃j,(binOp p x y A).run P w= .ok j w/\iu hp μ l j:=by
 have iy:∀{t:ak->Int->Int->aa T},AS i q t=D l->
  (∀k d c,t k d c=D l->∃j,(binOp p x (.int k d) (.int k c)).run P w= .ok j w/\iu hp μ l j)->∃j,(binOp p x y A).run P w= .ok j w/\iu hp μ l j:=by
  intro t L U;obtain⟨k,d,c,rfl,rfl,m⟩:=yj L;rw[u.kS,v.kS];exact U k d c m
 have z:∀{t:Int->Int->Bool} {K:List Nat->List Nat->Bool},Pe i q t K=D l->
  (∀k d c,(binOp p x (.int k d) (.int k c)).run P w= .ok (.bool (t d c)) w)->
  (∀f g,(∀i∈f,i<256)->(∀i∈g,i<256)->(binOp p x (.string (bytesOf f)) (.string (bytesOf g))).run P w= .ok (.bool (K f g)) w)->∃j,(binOp p x y A).run P w= .ok j w/\iu hp μ l j:=by
  intro t K L B m;rcases KH L with⟨k,d,c,rfl,rfl,rfl⟩|⟨f,g,rfl,rfl,rfl⟩
  rw[u.kS,v.kS];exact⟨_,B k d c,.ej _⟩;have⟨F,C⟩:=u.mW;have⟨I,E⟩:=v.mW;rw[F,I];exact⟨_,m f g C E,.ej _⟩
 cases p with
 |eql=>exact absurd rfl W
 |neq=>exact absurd rfl Y
 |add=>
  have b:ZA i q=D l:=b;by_cases O:∃f,i= .str f
  .obtain⟨f,rfl⟩:=O;by_cases Q:∃g,q= .str g;obtain⟨g,rfl⟩:=Q;have b:(Z (Ep f g) λN=>iT (ar (m7 N) 4294967296) (some (T.str N)))=D l:=b;have⟨N,B,b⟩:=ed.1 b;have⟨hl,b⟩:=fh.1 b;simp at B b;subst B;subst b;have hl:=bG hl;rw[kG,aY]at hl;have⟨F,C⟩:=u.mW;have⟨I,E⟩:=v.mW;rw[F,I];refine⟨.string (bytesOf (f++g)),?_,.str _ (by intro j n;rcases List.mem_append.1 n with k|k;exact C j k;exact E j k)⟩;rw[HS];have S:¬(((bytesOf f).size+(bytesOf g).size:Nat):Int)>IntKind.i64.max:=by
    rw[mE,mE];have:IntKind.i64.max=9223372036854775807:=dR;rw[this];omega
   simp only[binOp,Op.stringOp,S,if_false,Sem.run_pure]
   .exfalso;unfold ZA at b;cases q<;>first|(simp at b;done)|exact Q ⟨_,rfl⟩
  have b:AS i q (λk a R=>rk k (a+R))=D l:=by
   unfold ZA at b;cases i<;>first|exact b|exact absurd ⟨_,rfl⟩ O
  refine iy b λk d c h=>?_;rw[Cf]at h;simp at h;subst h;exact⟨_,by simp[binOp,Op.intArith],.int _ _⟩
 |sub=>
  refine iy b λk d c h=>?_;rw[Cf]at h;simp at h;subst h;exact⟨_,by simp[binOp,Op.intArith],.int _ _⟩
 |mul=>
  refine iy b λk d c h=>?_;rw[Cf]at h;simp at h;subst h;exact⟨_,by simp[binOp,Op.intArith],.int _ _⟩
 |quo=>
  refine iy b λk d c h=>?_;cases n:XA c 0;rw[n]at h;have M:¬c=0:=by rw[BM]at n;simpa using n
  simp only[Cf]at h;simp at h;subst h;exact⟨_,by simp[binOp,Op.intDiv,M],.int _ _⟩;rw[n]at h;simp at h
 |rem=>
  refine iy b λk d c h=>?_;cases n:XA c 0;rw[n]at h;have M:¬c=0:=by rw[BM]at n;grind
  simp only[rn]at h;simp at h;subst h;exact⟨_,by simp[binOp,Op.intDiv,M],.int _ _⟩;rw[n]at h;grind
 |and=>
  refine iy b λk d c h=>?_;rw[rn]at h;cases h;exact⟨_,by simp[binOp,Op.intBits],.int _ _⟩
 |or=>
  refine iy b λk d c h=>?_;rw[rn]at h;cases h;exact⟨_,by simp[binOp,Op.intBits],.int _ _⟩
 |xor=>
  refine iy b λk d c h=>?_;rw[rn]at h;cases h;exact⟨_,by simp[binOp,Op.intBits],.int _ _⟩
 |shl=>
  have b:Dv i q (λk a c=>Br k (k.wrap (a*2^c)))=D l:=b;obtain⟨k,d,ae,c,rfl,rfl,m⟩:=zd b;rw[u.kS,v.kS];rw[rn]at m;cases m;have X:¬((c:Nat):Int)<0:=G;exact⟨_,by rfl,.int _ _⟩
 |shr=>
  have b:Dv i q (λk a c=>Br k (a.fdiv (2^c)))=D l:=b;obtain⟨k,d,ae,c,rfl,rfl,m⟩:=zd b;rw[u.kS,v.kS];rw[rn]at m;cases m;have X:¬((c:Nat):Int)<0:=G;exact⟨_,by rfl,.int _ _⟩
 |lss=>exact z b (λk d c=>by simp[binOp,Op.intCmp,BD]) (λf g r s=>by simp only[binOp,Op.stringOp,CH r s,Sem.run_pure])
 |leq=>exact z b (λk d c=>by simp only[binOp,Op.intCmp,BD,ne_eq,not_true,if_false,Sem.run_pure];congr 2;rw[bI];simp) (λf g r s=>by simp only[binOp,Op.stringOp,CH r s,CS r s,Sem.run_pure,I4])
 |gtr=>exact z b (λk d c=>by simp[binOp,Op.intCmp,BD]) (λf g r s=>by simp only[binOp,Op.stringOp,CH r s,CS r s,Sem.run_pure,I4,Bool.not_not])
 |geq=>exact z b (λk d c=>by simp only[binOp,Op.intCmp,BD,ne_eq,not_true,if_false,Sem.run_pure];congr 2;rw[bI];simp) (λf g r s=>by simp only[binOp,Op.stringOp,CH r s,Sem.run_pure])
 |_=>grind [binop]
def Iu{b:BinOp}{i:ab}{j k:ah}{c d:am}(f:b≠ .eql)(g:b≠ .neq):(eqGuard b i j k c d).run P w= .ok () w:=by cases b<;>first|(exact absurd rfl f)|(exact absurd rfl g)|(simp[eqGuard])
def OM{c:BinOp}{k t:ab}{m n:ah}(g:c≠ .eql)(i:c≠ .neq)(d:St cx base w.heap μ h)(j:mh w.heap μ M e a.tmps)(p:o.op= .binOp c k m n t){l:T}{f:H}
 (b:SN c m n cx M e h=be l f):j8 cx base w μ h.size ((execOp a.eval o).run P w) l f:=by
 have⟨u,hp,b⟩:=ed.1 b;have⟨v,q,b⟩:=ed.1 b;obtain⟨r,rfl⟩:=iM.1 b;have⟨x,s,hr⟩:=M7 (P:=P) (w:=w) k g i (iV d j hp) (iV d j q) r;refine j8.pure d ?_ hr;simp[execOp,p,Sem.run_bind,Iu g i,Result.andThen_ok,s]
theorem SH{d:UnOp}{r:ab}{m:ah}(f:St cx base w.heap μ h)(q:mh w.heap μ M e a.tmps)(j:o.op= .unOp d r m){l:T}{g:H}
 (c:hUn d m cx M e h=be l g):j8 cx base w μ h.size ((execOp a.eval o).run P w) l g:=by
 obtain⟨k,hp,c⟩:=ed.1 c;obtain⟨b,rfl⟩:=iM.1 c;have i:=iV f q hp;cases d with
 |neg=>
  cases k<;>simp[unop]at b;subst b;exact j8.pure f (by simp[execOp,j,i.kS,Op.unary,Op.intArith]) (.int _ _)
 |not=>
  cases k<;>simp[unop]at b;rename_i n;have p:=i.tU;cases n<;>simp at b<;>subst b<;>exact j8.pure f (by simp[execOp,j,p,Op.unary]) (.ej _)
 |_=>simp[unop]at b
end
end
section
section
variable {P:ai}{cx:Ctx}{base:Nat}{w:World}{μ:Mu}{h:H}{M:Nat}{e:Env}{a:Act}{o:Oper}{hp:af Obj}
def lN{c:ab}{d:Ty}(h:yB P c d):∃b,P.underlying c=D b/\Dl P b=D d.u:=by
 have⟨i,b,j,_,f,_,_,g,_⟩:=h.unfold
 grind
def Ap{b:TypeDesc}{c:ak}(h:Dl P b=D (.int c)):b= .int c:=by cases b<;>simp[Dl]at h<;>first|(split at h<;>simp at h;done)|(simp at h;done)|grind
def TE{b:TypeDesc}(h:Dl P b=D .ej):b= .bool:=by cases b<;>simp[Dl]at h<;>first|rfl|(split at h<;>simp at h;done)|(simp at h;done)
def uC{b:TypeDesc}(h:Dl P b=D .str):b= .string:=by cases b<;>simp[Dl]at h<;>first|rfl|(split at h<;>simp at h;done)|(simp at h;done)
def nJ{b:TypeDesc}{e:ab}(h:Dl P b=D (.slice e)):b= .slice e:=by cases b<;>simp[Dl]at h<;>first|(split at h<;>simp at h;done)|(simp at h;done)|grind
def uN{b:TypeDesc}{c:Nat}{e:ab}(h:Dl P b=D (.array c e)):b= .array c e:=by cases b<;>simp[Dl]at h<;>first|(split at h<;>simp at h;done)|(simp at h;done)|grind
def XI{b:TypeDesc}{e:ab}(h:Dl P b=D (.eZ e)):b= .pointer e:=by cases b<;>simp[Dl]at h<;>first|(split at h<;>simp at h;done)|(simp at h;done)|grind
def TD{b:TypeDesc}(h:Dl P b=D .func):∃c d f,b= .func c d f:=by cases b<;>simp[Dl]at h<;>first|(split at h<;>simp at h;done)|(simp at h;done)|simp
def Rp{b:TypeDesc}(h:Dl P b=D .iface):∃c,b= .interface c:=by cases b<;>simp[Dl]at h<;>first|(split at h<;>simp at h;done)|(simp at h;done)|simp
def uX{d:TypeDesc}{g:List (Nat×ab)}(h:Dl P d=D (.struct g)):
 ∃c,d= .struct c/\g=c.toList.map (λb=>(b.offset,b.type))/\∀b∈c.toList,∃f,P.info? b.type=D f/\f.size≠0:=by
 cases d<;>simp only[Dl]at h<;>try (simp at h;done)
 rename_i c;split at h;rename_i j;simp only[ay,U.struct.injEq]at h;refine⟨c,rfl,h.symm,λb k=>?_⟩;have:=List.all_eq_true.1 j b k;rcases i:P.info? b.type with _|f
 rw[i]at this;grind;rw[i]at this;grind
 grind
def bytes_beq{b c:List Nat}(f:∀d∈b,d<256)(ht:∀d∈c,d<256):(bytesOf b==bytesOf c)=YV b c:=by rw[beq_toListBytes,CS f ht]
def yl{l:ab}{p:TypeDesc}{t:U}{j g:T}{n s:am}{m:Bool}(d:P.underlying l=D p)(k:Dl P p=D t)(i:iu hp μ j n)(f:iu hp μ g s)
 (b:rL t j g=D m) (I:Nat):(Op.equalIn (I+1) l n s).run P w= .ok m w:=by
 unfold rL at b;split at b;have:=Ap k;subst this;cases j<;>simp at b;cases g<;>simp at b;obtain⟨q,r⟩:=fh.1 b;rw[BH]at q;subst q;simp at r;subst r;rw[i.kS,f.kS];simp[Op.equalIn,run_underlying d,BM];have:=TE k;subst this;cases j<;>simp at b;cases g<;>simp at b;rename_i K L;rw[i.tU,f.tU];cases K<;>cases L<;>simp at b<;>subst b<;>simp[Op.equalIn,run_underlying d];have:=uC k;subst this;cases j<;>simp at b;cases g<;>simp at b;subst b;obtain⟨E,y⟩:=i.mW;obtain⟨F,z⟩:=f.mW;rw[E,F];simp[Op.equalIn,run_underlying d,bytes_beq y z];have:=XI k;subst this;cases j<;>simp at b;rw[i.tT];cases g<;>simp at b<;>subst b;rw[f.tT];simp[Op.equalIn,run_underlying d];obtain⟨u,v,c,_⟩:=f.sZ;rw[c];simp[Op.equalIn,run_underlying d];obtain⟨A,off,x,l,fz,c,_⟩:=f.nS;rw[c];simp[Op.equalIn,run_underlying d];obtain⟨u,v,c,_⟩:=i.sZ;cases g<;>simp at b;subst b;rw[f.tT,c];simp[Op.equalIn,run_underlying d];obtain⟨A,off,x,l,fz,c,_⟩:=i.nS;cases g<;>simp at b;subst b;rw[f.tT,c];simp[Op.equalIn,run_underlying d];obtain⟨N,O,Q,rfl⟩:=TD k;cases j<;>simp at b;obtain⟨B,c,_⟩:=i.vz;cases g<;>simp at b;subst b;rw[f.xH,c];simp[Op.equalIn,run_underlying d];rw[i.xH];cases g<;>simp at b<;>subst b;obtain⟨B,c,_⟩:=f.vz;rw[c];simp[Op.equalIn,run_underlying d];rw[f.xH];simp[Op.equalIn,run_underlying d];obtain⟨M,rfl⟩:=Rp k;cases j<;>simp at b;rw[i.xG];cases g<;>simp at b<;>subst b;rw[f.xG];simp[Op.equalIn,run_underlying d];obtain⟨C,c⟩:=f.AK;rw[c];simp[Op.equalIn,run_underlying d];obtain⟨C,c⟩:=i.AK;cases g<;>simp at b;subst b;rw[f.xG,c];simp[Op.equalIn,run_underlying d]
 grind
def A9(b:Nat×ab)(d:List (Nat×ab))(c:Nat)(j:T)(g:List T)(k:T)(f:List T):eqFields cx (b::d) c (j::g) (k::f)=
 iT (aq b.1 c) (Z (cx.ty b.2) λi=>iT i.u.plain (Z (rL i.u j k) λl=> @Bool.rec (λ_=>aa Bool) (some false) (eqFields cx d (c+1) g f) l)):=rfl
def run_part_plain{g:ab}{b:Ty}(h:yB P g b)(hp:b.u.plain){d:af am}{f:Nat}{c:am}(j:d[f]? =D c):(part g d f).run P w= .ok c w:=by
 have i:b.isAgg=false:=by
  unfold Ty.isAgg;cases k:b.u<;>simp[k,U.plain]at hp<;>rfl
 simp[part,h.w8,i,j]
def HA(j9:jP P cx)(t:Nat):∀(m:List Field) (c:Nat) (g i:List T) (j l:af am) (f:Bool),
 jc hp μ g (j.toList.drop c)->jc hp μ i (l.toList.drop c)->(∀d∈m,d.name≠ "_")->eqFields cx (m.map λd=>(d.offset,d.type)) c g i=D f->
 (Op.eqFields (t+1) j l m).run P w= .ok f w:=by
 intro m;induction m with
 |nil=>
  intro c g i j l f _ _ _ b;have:f:=by simpa[eqFields]using b.symm
  subst this;simp[Op.eqFields]
 |cons d m U=>
  intro c g i j l f r s q b;rw[aR]at b;rcases g with _|⟨X,g⟩
  simp[eqFields]at b;cases i with
   |nil=>simp[eqFields]at b
   |cons Y i=>
    rw[A9]at b;have⟨z,b⟩:=fh.1 b;have⟨ae,A,b⟩:=ed.1 b;have⟨p,b⟩:=fh.1 b;have⟨W,B,b⟩:=ed.1 b;have O:d.offset=c:=aJ z;have⟨u,C,R⟩:=r.get (k:=0) (v:=X) V;have⟨x,F,S⟩:=s.get (k:=0) (v:=Y) V;have E:j[c]? =D u:=iD C;have K:l[c]? =D x:=iD F;have n:=j9.ty _ _ A;have⟨Z,I,Q⟩:=lN n;have L:=yl (P:=P) (w:=w) I Q R S B t;have N:d.name≠ "_" :=q d V;simp[Op.eqFields,N,ne_eq,not_false_eq_true,Sem.run_bind,O,run_part_plain n p E,run_part_plain n p K,Result.andThen_ok,L];cases W;have:f=false:=iD b.symm;subst this;simp;simp;refine U (c+1) g i j l f ?_ ?_ (λy M=>q y (by simp[M])) b;have:=r.drop 1;simpa[du,Nat.add_comm]using this;have:=s.drop 1;simpa[du,Nat.add_comm]using this
def Iv{e:ab}{l:Ty}(m:yB P e l)(n:l.u.plain)(r:Nat):∀(g d:List T) (f:Nat) (i j:af am) (c:Bool),
 jc hp μ g (i.toList.drop f)->jc hp μ d (j.toList.drop f)->CT l.u g d=D c->(Op.eqItems (r+1) e 1 i j (List.range' f g.length)).run P w= .ok c w:=by
 intro g;induction g with
 |nil=>
  intro d f i j c _ _ b;have:c:=by
   cases d;have b:some true=D c:=b;simpa using b.symm;simp[CT]at b
  subst this;simp[Op.eqItems]
 |cons s g N=>
  intro d f i j c p q b;rcases d with _|⟨t,d⟩
  simp[CT]at b;have b:(Z (rL l.u s t) λQ=> @Bool.rec (λ_=>aa Bool) (some false) (CT l.u g d) Q)=D c:=b;have⟨O,z,b⟩:=ed.1 b;have⟨x,A,L⟩:=p.get (k:=0) (v:=s) V;have⟨y,C,M⟩:=q.get (k:=0) (v:=t) V;have B:i[f]? =D x:=iD A;have F:j[f]? =D y:=iD C;have⟨R,E,K⟩:=lN m;have I:=yl (P:=P) (w:=w) E K L M z r;rw[aZ,List.range'_succ];simp[Op.eqItems,Sem.run_bind,Nat.mul_one,run_part_plain m n B,run_part_plain m n F,Result.andThen_ok,I];cases O;have:c=false:=iD b.symm;subst this;simp;simp;refine N d (f+1) i j c ?_ ?_ b;have:=p.drop 1;simpa[du,Nat.add_comm]using this;have:=q.drop 1;simpa[du,Nat.add_comm]using this
theorem MJ{f:BinOp}{g:ab}{b c:ah}(d:(Region.isConst b||Region.isConst c)):(eqGuard f g b c .nilIface .nilIface).run P w= .ok () w:=by unfold eqGuard;cases b<;>cases c<;>simp[Region.isConst]at d<;>simp
def Jc(j9:jP P cx){neg:Bool}{F:BinOp}{t u:ab}{E y:ah}(f:F=(if neg then BinOp.neq else BinOp.eql))(s:St cx base w.heap μ h)(r:mh w.heap μ M e a.tmps)
 (cb:o.op= .binOp F t E y u) {v:T} {aN:H} (B:hEq neg t E y cx M e h=be v aN):j8 cx base w μ h.size ((execOp a.eval o).run P w) v aN:=by
 obtain⟨ee,c4,B⟩:=ed.1 B;obtain⟨I,hp,B⟩:=ed.1 B;obtain⟨x,U,B⟩:=ed.1 B;obtain⟨bp,B⟩:=fh.1 B;obtain⟨A,b,B⟩:=ed.1 B;obtain⟨bu,rfl⟩:=iM.1 B;have q:=iV s r hp;have j:=iV s r U;have c1:=j9.ty _ _ c4;have b7:v= .ej (if neg then !A else A):=by
  rw[u7]at bu;cases neg<;>simpa using bu.symm
 subst b7;have bA:(eqGuard F t E y (a.eval E) (a.eval y)).run P w= .ok () w/\(binOp F t (a.eval E) (a.eval y)).run P w= .ok (.bool (if neg then !A else A)) w:=by
  obtain⟨i,d,z,_,S,_,_,O,_,_,_,_,aX⟩:=c1.unfold;unfold Nq at b;split at b;rename_i dm ap;rw[ap]at O;obtain⟨aA,rfl,b8,_⟩:=uX O;cases I<;>simp at b;cases x<;>simp at b;obtain⟨an,b⟩:=fh.1 b;obtain⟨R,N,av⟩:=aX an;obtain⟨p,g,Y,_⟩:=q.s7;obtain⟨C,c,bT,_⟩:=j.s7;rw[g,c];refine⟨run_eqGuard_agg w F t E y p C N,?_⟩;have a8:P.fieldsOf t=aA:=by simp[Program.fieldsOf,S]
  have m:(Op.equalIn 10000 t (.agg p) (.agg C)).run P w= .ok A w:=by
   rw[run_equalIn_struct w 9999 t p C (a8▸S) R,a8];rw[b8]at b;refine HA j9 9998 aA.toList 0 _ _ p C A (iD Y) c5 ?_ b;intro Z b6;have:=List.all_eq_true.1 av Z b6
   grind
  cases neg;simp at f;subst f;rw[run_eql_struct,m];rfl;simp at f;subst f;rw[run_neq_struct,m];rfl;rename_i n e ap;rw[ap]at O;have bZ:=uN O;subst bZ;cases I<;>simp at b;cases x<;>simp at b;obtain⟨an,b⟩:=fh.1 b;obtain⟨ec,cX,b⟩:=ed.1 b;obtain⟨cv,b⟩:=fh.1 b;obtain⟨cL,b⟩:=fh.1 b;obtain⟨ca,b⟩:=fh.1 b;obtain⟨R,N,av⟩:=aX an;obtain⟨p,g,Y,_⟩:=q.s7;obtain⟨C,c,bT,_⟩:=j.s7;rw[g,c];refine⟨run_eqGuard_agg w F t E y p C N,?_⟩;have bs:=j9.ty _ _ cX;have m:(Op.equalIn 10000 t (.agg p) (.agg C)).run P w= .ok A w:=by
   obtain⟨eb,dk,ef,bn,_,_,_,_,_,_,ea,_⟩:=bs.unfold;rw[run_equalIn_array w 9999 p C S bn,List.range_eq_range'];have cp:P.cellsOf e=1:=by
    have:=aJ cL;simp[Program.cellsOf,bn,dw,Option.getD_some];omega
   have b9:=aJ ca;rw[cp,<-b9];exact Iv bs cv 9998 _ _ 0 p C A (iD Y) c5 b
  cases neg;simp at f;subst f;rw[run_eql_struct,m];rfl;simp at f;subst f;rw[run_neq_struct,m];rfl
  .have m:=yl (P:=P) (w:=w) S O q j b 9999;have bi:∀k l:am,(k≠ .nilIface\/l≠ .nilIface)->((∀de,k≠ .agg de)\/∀di,l≠ .agg di)->(eqGuard F t E y k l).run P w= .ok () w:=by
    intro k l aE dn;cases neg with
    |false=>
     simp at f;subst f;cases k<;>cases l<;>first|(simp[eqGuard];done)|(simp at aE;done)|grind
    |true=>
     simp at f;subst f;cases k<;>cases l<;>first|(simp[eqGuard];done)|(simp at aE;done)|grind
   have ds:∀k l:am,(∀W c6 X c7,(k,l)≠(.int W c6,.int X c7))->(∀c9 dd,(k,l)≠(.string c9,.string dd))->(∀ae K al L,(k,l)≠(.float ae K,.float al L))->(∀ae K R al L N,(k,l)≠(.complex ae K R,.complex al L N))->
    (Op.equalIn 10000 t k l).run P w= .ok A w->(binOp F t k l).run P w= .ok (.bool (if neg then !A else A)) w:=by
    intro k l bC bH bN bS a7;cases neg;simp at f;subst f;cases k<;>cases l<;>first|(exact absurd rfl (bC _ _ _ _))|(exact absurd rfl (bH _ _))|(exact absurd rfl (bN _ _ _ _))|(exact absurd rfl (bS _ _ _ _ _ _))|(simp[binOp,Op.equal,Op.maxDepth,a7])
    simp at f;subst f;cases k<;>cases l<;>first|(exact absurd rfl (bC _ _ _ _))|(exact absurd rfl (bH _ _))|(exact absurd rfl (bN _ _ _ _))|(exact absurd rfl (bS _ _ _ _ _ _))|(simp[binOp,Op.equal,Op.maxDepth,a7])
   unfold rL at b;split at b;cases I<;>simp at b;cases x<;>simp at b;obtain⟨W,X⟩:=fh.1 b;rw[BH]at W;subst W;simp at X;subst X;rw[q.kS,j.kS];refine⟨bi _ _ (.inl V) (.inl V),?_⟩;cases neg<;>simp at f<;>subst f<;>simp[binOp,Op.intCmp,BM,bne];cases I<;>simp at b;cases x<;>simp at b;rw[q.tU,j.tU]at m|-
   grind
   cases I<;>simp at b;cases x<;>simp at b;subst b;obtain⟨g,K⟩:=q.mW;obtain⟨c,L⟩:=j.mW;rw[g,c];refine⟨bi _ _ (.inl V) (.inl V),?_⟩;cases neg<;>simp at f<;>subst f<;>simp[binOp,Op.stringOp,CS K L];cases I<;>simp at b;have g:=q.tT;rw[g]at m|-;have c:∃Q,a.eval y= .pointer Q:=by
    cases x<;>simp at b;exact⟨_,j.tT⟩;obtain⟨_,Q,U,_⟩:=j.sZ;grind;obtain⟨_,_,_,_,_,U,_⟩:=j.nS;grind
   obtain⟨Q,c⟩:=c;rw[c]at m|-
   grind
   obtain⟨_,Q,g,_⟩:=q.sZ;cases x<;>simp at b;have c:=j.tT;rw[g,c]at m|-
   grind
   obtain⟨_,_,_,_,_,g,_⟩:=q.nS;cases x<;>simp at b;have c:=j.tT;rw[g,c]at m|-
   grind
   cases I<;>simp at b;obtain⟨p,g,_⟩:=q.vz;cases x<;>simp at b;have c:=j.xH;rw[g,c]at m|-
   grind
   have g:=q.xH;have c:(∃Z bW p,a.eval y= .func Z bW p)\/a.eval y= .nilFunc:=by
    cases x<;>simp at b;obtain⟨p,U,_⟩:=j.vz;grind;exact .inr j.xH
   grind
   cases I<;>simp at b;have g:=q.xG;cases x<;>simp at b;have c:=j.xG;rw[g,c]at m|-;have bp:(Region.isConst E||Region.isConst y):=bp
   grind [MJ]
   obtain⟨bX,c⟩:=j.AK;rw[g,c]at m|-
   grind
   obtain⟨bX,g⟩:=q.AK;cases x<;>simp at b;have c:=j.xG;rw[g,c]at m|-
   grind
   grind
 refine j8.pure s ?_ (.ej _);simp[execOp,cb,Sem.run_bind,bA.1,Result.andThen_ok,bA.2]
end
end
section
section
variable {P:ai}{cx:Ctx}{base:Nat}{w:World}{μ:Mu}{h:H}{M:Nat}{e:Env}{a:Act}{o:Oper}{hp:af Obj}
def mD(b off c:Nat):(⟨b,off,none⟩:Addr).add c=⟨b,off+c,none⟩:=by unfold Addr.add;split<;>simp_all
theorem nU(c:T)(b:List T):ir (c::b)=c.cells++ir b:=by simp[ir]
def pG(a b:List T):ir (a++b)=ir a++ir b:=by simp[ir]
def jg{sz:Nat}{b:List T}(d:∀c∈b,c.cells.length=sz):(ir b).length=b.length*sz:=by
 induction b with
 |nil=>simp[ir]
 |cons g b f=>
  rw[nU,aY,f (λc i=>d c c5),d g V,aZ,cD];omega
def sJ{d:Nat}{b:List T}(g:∀f∈b,f.cells.length=d)(c:Nat):(ir b).drop (c*d)=ir (b.drop c):=by
 induction c generalizing b with
 |zero=>simp
 |succ c k=>cases b with
  |nil=>simp[ir]
  |cons i b=>
   have j:=g i V;rw[nU,cD,Nat.add_comm,<-du];have:(i.cells++ir b).drop d=ir b:=by rw[<-j];simp
   rw[this,k (λf l=>g f c5)];rfl
def uU{g:Nat}{b:List T}(f:∀d∈b,d.cells.length=g)(c:Nat):(ir b).take (c*g)=ir (b.take c):=by
 induction c generalizing b with
 |zero=>simp[ir]
 |succ c j=>cases b with
  |nil=>grind
  |cons k b=>
   have i:=f k V;rw[nU,dD,nU,<-j (λd l=>f d c5),cD,List.take_append,i]
   grind
structure wF(hp:af Obj)(μ:Mu)(jR off:Nat)(cs:List T):Prop where
 row:∃arr t fz,hp[jR]? =D (.cells arr t fz)/\off+cs.length<=arr.size/\∀(k:Nat) v,cs[k]? =D v->iu hp μ v (arr.getD (off+k) Go.undef)
 scalar:∀v∈cs,v.scalar
def wF.cell{g off:Nat}{c:List T}(n:wF w.heap μ g off c){b:Nat}{d:T}(m:c[b]? =D d):∃i,w.cell? ⟨g,off+b,none⟩=D i/\iu w.heap μ d i:=by
 have⟨f,r,fz,j,p,k⟩:=n.row;have q:b<c.length:=by
  grind
 have l:off+b<f.size:=G;refine⟨f[off+b],by simp[World.cell?,j,l],?_⟩;have:=k b d m;simp_all
def wF.take{d off:Nat}{f:List T}(g:wF hp μ d off f)(m:Nat):wF hp μ d off (f.take m):=by
 have⟨i,n,fz,j,p,k⟩:=g.row;refine⟨⟨i,n,fz,j,by grind,λl c b=>k l c ?_⟩,λc b=>g.scalar c (bV b)⟩;rw[cP]at b
 grind
def wF.drop{g off:Nat}{d:List T}(i:wF hp μ g off d)(c:Nat)(q:c<=d.length):wF hp μ g (off+c) (d.drop c):=by have⟨j,n,fz,k,p,l⟩:=i.row;refine⟨⟨j,n,fz,k,by grind,λm f b=>?_⟩,λf b=>i.scalar f (bQ b)⟩;rw[cu]at b;have:=l (c+m) f b;rwa[<-db]at this
def wF.run_loadCells{d off:Nat}{b:List T}(n:wF w.heap μ d off b):∃i:List am,(loadCells ⟨d,off,none⟩ b.length).run P w= .ok i.toArray w/\jc w.heap μ b i:=by
 have⟨c,t,fz,k,p,l⟩:=n.row;refine⟨(c.toList.drop off).take b.length,?_,?_⟩;have hl:((c.toList.drop off).take b.length).length=b.length:=by grind
 have:=Go.run_loadCells_list (P:=P) w ⟨d,off,none⟩ ((c.toList.drop off).take b.length) (λs j f=>by
  rw[mD];rw[cP]at f;split at f;rw[cu]at f;simp[World.cell?,k]
  grind
  grind)
 rwa[hl]at this;refine⟨by grind,λg j m=>?_⟩;have q:g<b.length:=by
  grind
 have:=l g j m;have r:off+g<c.size:=G;simp_all
def Cc{s:ab}{c:Ty}{l off:Nat}{f:List T}{k:T}(m:yB P s c)(j:wF w.heap μ l off f)(b:lj c f=D k):
 ∃d,(loadVar s ⟨l,off,none⟩).run P w= .ok d w/\iu w.heap μ k d:=by
 unfold lj at b;cases i:c.isAgg;rw[i]at b;have b:oS f 0=D k:=b;rw[mV]at b;obtain⟨d,p,hr⟩:=j.cell b;refine⟨d,?_,hr⟩;have p:w.cell? ⟨l,off,none⟩=D d:=G;simp[loadVar,m.w8,i,p];rw[i]at b;have b:(Z (takeN c.size f) λj=>some (T.eQ j))=D k:=b;obtain⟨y,g,n⟩:=ed.1 b;rw[qh]at g;split at g;rename_i x;simp at g n;subst g;subst n;have r:=j.take c.size;obtain⟨t,q,v⟩:=wF.run_loadCells (P:=P) r;have u:(f.take c.size).length=c.size:=by grind
 rw[u]at q;refine⟨.agg t.toArray,?_,iu.Bg G r.scalar⟩;simp[loadVar,m.w8,i,m.run_sizeOf,q]
 grind
def St.rowAt(L:St cx base hp μ h){j m c:Nat}{b:Loc}{d:T}(A:μ j=D b)(f:h.elem j m c=D d):wF hp μ b.jR (c*b.sz) d.cells/\d.cells.length=b.sz:=by
 have⟨u,C,K⟩:=L.box j b A;unfold H.elem at f;rw[C]at f;obtain⟨R,v,S,O,r,g⟩:=u;have f:iT (aq v m) (@Bool.rec (λ_=>aa T) (oS g c) none r)=D d:=f;have⟨_,f⟩:=fh.1 f;cases r with
 |true=>grind
 |false=>
  have f:g[c]? =D d:=by rw[<-mV];exact f
  have i:=K.plain rfl;have⟨t,M,x,y,z⟩:=i.row;have q:d∈g:=aD f;have p:=i.size d q;have F:c<g.length:=by
   grind
  have Q:=jg i.size;refine⟨⟨⟨t,M,(0,0),x,?_,λs l k=>?_⟩,λl k=>i.scalar l ?_⟩,p⟩
  .rw[p,y];have:c+1<=b.cap:=by have:=i.room;grind
   calc c*b.sz+b.sz=(c+1)*b.sz:=by rw[cD]
    _<=b.cap*b.sz:=bD _ this
  have I:s<d.cells.length:=by
   grind
  have E:(ir g)[c*b.sz+s]? =D l:=by
   have n:=sJ i.size c;have:g.drop c=d::g.drop (c+1):=by
    rw[aL F]
    grind
   rw[this,nU]at n;rw[<-cu,n,cH I];exact k
  have⟨N,B,hr⟩:=z.get E;rw[cP]at B;simp_all;exact List.mem_flatMap.2 ⟨d,q,k⟩
def St.YY(s:St cx base hp μ h){d f g:Nat}{c:Loc}{i:T}(n:μ d=D c)(b:h.elem d f g=D i):f=c.ep:=by
 have⟨j,p,q⟩:=s.box d c n;unfold H.elem at b;rw[p]at b;obtain⟨u,l,v,t,r,k⟩:=j;have b:iT (aq l f) (@Bool.rec (λ_=>aa T) (oS k g) none r)=D i:=b;have⟨m,_⟩:=fh.1 b;have:=aJ m;have:=q.ep
 grind
def G6{q:ab}{r:Ty}{i f:T}{j:am}(n:yB P q r)(p:St cx base w.heap μ h)(l:iu w.heap μ i j)(b:h.load r i=D f):
 ∃g c,j= .pointer (some g)/\(loadVar q g).run P w= .ok c w/\iu w.heap μ f c:=by
 unfold H.load at b;cases i<;>simp at b;rename_i K O W C;replace b:=ed.1 b;obtain⟨X,m,b⟩:=b;replace b:=ed.1 b;obtain⟨N,d,b⟩:=b;obtain⟨I,g,y,k,_,Q⟩:=l.sZ;have R:=p.YY k m;obtain⟨E,S⟩:=p.rowAt k m;rw[nV]at d;split at d;rename_i x;simp at d;subst d;obtain⟨c,t,u⟩:=Cc n (E.drop C x) b
 grind
 grind
 rename_i M;obtain⟨L,off,s,F,fz,y,U,v,z,A,hr⟩:=l.nS;obtain⟨c,t,u⟩:=Cc n ⟨⟨s,F,fz,v,z,hr⟩,(λf B=>(A f B).1)⟩ b
 grind
theorem Mw(j9:jP P cx){f:ab}{i:ah}(c:St cx base w.heap μ h)(q:mh w.heap μ M e a.tmps)(l:o.op= .load f i){g:T}{d:H}
 (b:Mx f i cx M e h=be g d):j8 cx base w μ h.size ((execOp a.eval o).run P w) g d:=by
 obtain⟨u,n,b⟩:=ed.1 b;obtain⟨t,hp,b⟩:=ed.1 b;obtain⟨p,rfl⟩:=iM.1 b;have⟨r,s,m,j,k⟩:=G6 (j9.ty _ _ n) c (iV c q hp) p;exact j8.pure c (by simp[execOp,l,Instr.loadAt,m,Instr.sureAddr,j]) k
def A8(j9:jP P cx){l:ab}{f:Nat}{g:Nat×ab}(b:AL cx l f=D g):∃d c,P.underlying l=D (.struct d)/\d[f]? =D c/\c.offset=g.1/\c.type=g.2/\
 ∃k,P.info? c.type=D k/\k.size≠0:=by
 obtain⟨s,q,b⟩:=ed.1 b;have⟨t,m,j⟩:=lN (j9.ty _ _ q);cases r:s.u<;>rw[r]at b j<;>simp at b;obtain⟨d,rfl,p,n⟩:=uX j;subst p;rw[br]at b;rcases i:d.toList[f]? with _|c
 rw[i]at b;grind;rw[i]at b;simp at b;refine⟨d,c,m,by grind,by rw[<-b],by rw[<-b],n c (aD i)⟩
theorem Ea(j9:jP P cx){t:ab}{n:ah}{p:Nat}(m:St cx base w.heap μ h)(Z:mh w.heap μ M e a.tmps)(S:o.op= .fieldAddr t n p){c:T}{q:H}
 (b:sI t n p cx M e h=be c q):j8 cx base w μ h.size ((execOp a.eval o).run P w) c q:=by
 replace b:=ed.1 b;obtain⟨l,O,b⟩:=b;replace b:=ed.1 b;obtain⟨Y,hp,b⟩:=b;obtain⟨ap,av,A,B,C,aA,i,E,F⟩:=A8 j9 O;have r:=iV m Z hp;have s:∀d:Addr,a.eval n= .pointer (some d)->(execOp a.eval o).run P w= .ok (.value (.pointer (some (d.add l.1)))) w:=by
  intro d f;simp[execOp,S,Instr.fieldAt,run_underlying A,B,f,Instr.sureAddr,fieldPlace,sizeOf,typeInfo,E,F,C]
 cases Y<;>simp at b;rename_i x z W X;obtain⟨rfl,rfl⟩:=b;obtain⟨u,d,f,K,N,I⟩:=r.sZ;refine j8.pure m (s d f) (.eZ x z W (X+l.1) u _ K N λL=>?_);rw[I L,mD,db];rename_i al;replace b:=ed.1 b;obtain⟨an,g,b⟩:=b;simp at b;obtain⟨rfl,rfl⟩:=b;obtain⟨y,off,v,ae,fz,f,R,Q,aN,U,hr⟩:=r.nS;rw[nV]at g;split at g;rename_i aE;simp at g;subst g;refine j8.pure m (s _ f) ?_;rw[mD];refine .kA _ y (off+l.1) v ae fz R Q c5 (λc j=>U c (bQ j)) λk c j=>?_;rw[cu]at j;have:=hr _ c j;rwa[<-db]at this
 grind
def EC{r:ab}{c:Ty}{f:List T}{g:af am}{off:Nat}{k:T}(l:yB P r c)(p:jc hp μ f (g.toList.drop off))(s:∀m∈f,m.scalar)(b:lj c f=D k):
 ∃d,(part r g off).run P w= .ok d w/\iu hp μ k d:=by
 unfold lj at b;cases j:c.isAgg;rw[j]at b;have b:oS f 0=D k:=b;rw[mV]at b;obtain⟨d,q,hr⟩:=p.get b;refine⟨d,?_,hr⟩;have q:g[off]? =D d:=by grind
 simp[part,l.w8,j,q];rw[j]at b;have b:(Z (takeN c.size f) λu=>some (T.eQ u))=D k:=b;obtain⟨x,i,n⟩:=ed.1 b;rw[qh]at i;split at i;rename_i v;simp at i n;subst i;subst n;refine⟨.agg (g.extract off (off+c.size)),by simp[part,l.w8,j,l.run_sizeOf],iu.Bg ?_ λm t=>s m (bV t)⟩;have:=p.take c.size;rw[Array.toList_extract]
 grind
 grind
theorem Kk(j9:jP P cx){j:ab}{d:ah}{f:Nat}(i:St cx base w.heap μ h)(F:mh w.heap μ M e a.tmps)(x:o.op= .field j d f){k:T}{g:H}
 (b:Eb j d f cx M e h=be k g):j8 cx base w μ h.size ((execOp a.eval o).run P w) k g:=by
 obtain⟨l,v,b⟩:=ed.1 b;obtain⟨Q,A,b⟩:=ed.1 b;obtain⟨E,hp,b⟩:=ed.1 b;have⟨N,O,m,n,p,q,_⟩:=A8 j9 v;have s:=iV i F hp;cases E<;>simp at b;obtain⟨K,c,b⟩:=ed.1 b;obtain⟨B,rfl⟩:=iM.1 b;have⟨L,y,r,z⟩:=s.s7;rw[nV]at c;split at c;simp at c;subst c;have⟨I,t,u⟩:=EC (P:=P) (w:=w) (j9.ty _ _ A) (r.drop l.1) (λd C=>z d (bQ C)) B;refine j8.pure i ?_ u;simp[execOp,x,Instr.field,run_underlying m,n,y,asAgg,p,q,t]
 grind
def qg{c:T}{g:Nat}(d:tq c=D g):∃f,c= .int f (.ofNat g):=by
 unfold tq at d;cases c<;>simp at d;rename_i f b;cases b with
 |ofNat b=>simp_all
 |negSucc b=>grind
theorem Ki(j9:jP P cx){C:ab}{p F:ah}(m:St cx base w.heap μ h)(B:mh w.heap μ M e a.tmps)(x:o.op= .index C p F){E:T}{t:H}
 (b:D8 C p F cx M e h=be E t):j8 cx base w μ h.size ((execOp a.eval o).run P w) E t:=by
 replace b:=ed.1 b;obtain⟨av,al,b⟩:=b;replace b:=ed.1 b;obtain⟨A,hp,b⟩:=b;replace b:=ed.1 b;obtain⟨q,Y,b⟩:=b;replace b:=ed.1 b;obtain⟨f,U,b⟩:=b;obtain⟨k,W⟩:=qg U;obtain⟨d,v,s⟩:=lN (j9.ty _ _ al);have l:=iV m B hp;have z:=(W▸iV m B Y).kS;cases an:av.u<;>rw[an]at b s<;>simp at b
 
 have:=uC s;subst this;cases A<;>simp at b;rename_i g;replace b:=ed.1 b;obtain⟨c,a7,b⟩:=b;obtain⟨j,rfl⟩:=iM.1 b;simp at j;subst j;obtain⟨r,I⟩:=l.mW;refine j8.pure (c:= .int .u8 (c:Int)) m ?_ (.int _ _);have a8:f<g.length:=by
  grind
 have R:g[f]=c:=by grind
 have Q:c<256:=I c (by rw[<-R];simp);have S:(bytesOf g)[f]? =D (UInt8.ofNat c):=by
  have Z:f<(bytesOf g).size:=by rw[mE];omega
  rw[getElem?_pos (bytesOf g) f Z];congr 1;show(bytesOf g).data[f]=_
  grind [bytesOf]
 simp[execOp,x,Instr.index,z,asIntOf,run_underlying v,r,S,kO Q];rename_i n aX;have:=uN s;subst this;cases A<;>simp at b;rename_i aA;replace b:=ed.1 b;obtain⟨ap,y,b⟩:=b;replace b:=fh.1 b;obtain⟨L,b⟩:=b;replace b:=ed.1 b;obtain⟨aE,i,b⟩:=b;obtain⟨j,rfl⟩:=iM.1 b;obtain⟨aN,r,K,ae⟩:=l.s7;rw[nV]at i;split at i;simp at i;subst i;obtain⟨c,N,O⟩:=EC (P:=P) (w:=w) (j9.ty _ _ y) (K.drop (f*ap.size)) (λp l=>ae p (bQ l)) j;refine j8.pure m ?_ O;rw[aP]at L;have X:¬n<=f:=G;simp[execOp,x,Instr.index,z,asIntOf,run_underlying v,r,X,(j9.ty _ _ y).run_sizeOf,N]
 grind
end
end
section
section
variable {P:ai}{cx:Ctx}{base:Nat}{w:World}{μ:Mu}{h:H}{M:Nat}{e:Env}{a:Act}{o:Oper}{hp:af Obj}
def St.PN(k:St cx base hp μ h){c:Nat}{b:Loc}{d:jI}(j:μ c=D b)(f:h.get c=D d):d.sz=b.sz/\d.ep=b.ep:=by have⟨l,i,g⟩:=k.box c b j;rw[i]at f;simp at f;subst f;exact⟨g.sz,g.ep⟩
def flat_get{d:Nat}{es:List T}(g:∀v∈es,v.cells.length=d){i k:Nat}{v z:T}(j:es[i]? =D v)(m:v.cells[k]? =D z):(ir es)[i*d+k]? =D z:=by
 have c:i<es.length:=by
  grind
 have f:k<v.cells.length:=by
  grind
 have b:=sJ g i;have l:es[i]=v:=by rw[aF c]at j;grind
 rw[aL c,l,nU]at b;rw[<-cu,b,cH f];exact m
def Rr{f:T}{d:List T}{j off c g:Nat}{i:af am}{r:ab}{fz:Nat×Nat}{b:T}(y:¬pV μ j)(u:hp[j]? =D (.cells i r fz))
 (k:∀b∈f::d,b.cells.length=c) (z:off+(ir (f::d)).length<=i.size) (s:∀b∈ir (f::d),yR b)
 (hr:∀(m:Nat) b,(ir (f::d))[m]? =D b->iu hp μ b (i.getD (off+m) Go.undef)) (q:(f::d)[g]? =D b):
 iu hp μ (.kA b.cells) (.pointer (some ⟨j,off+g*c,none⟩)):=by
 have p:=aD q;have v:g<(f::d).length:=by
  grind
 have t:=jg k;have x:=k b p;refine .kA b.cells j (off+g*c) i r fz y u ?_ (λn l=>s n (List.mem_flatMap.2 ⟨b,p,l⟩)) λm n l=>?_
 .rw[x];have:g*c+c<=(ir (f::d)).length:=by
   rw[t]
   calc g*c+c=(g+1)*c:=by rw[cD]
    _<=(f::d).length*c:=bD _ v
  omega
 have:=hr _ n (flat_get k q l);rwa[<-db]at this
theorem D7(j9:jP P cx){t:ab}{x y:ah}(i:St cx base w.heap μ h)(r:mh w.heap μ M e a.tmps)(aE:o.op= .indexAddr t x y){s:T}{L:H}
 (b:sH t x y cx M e h=be s L):j8 cx base w μ h.size ((execOp a.eval o).run P w) s L:=by
 replace b:=ed.1 b;obtain⟨c6,cX,b⟩:=b;replace b:=ed.1 b;obtain⟨p,hp,b⟩:=b;replace b:=ed.1 b;obtain⟨q,aN,b⟩:=b;replace b:=ed.1 b;obtain⟨f,ca,b⟩:=b;obtain⟨k,cb⟩:=qg ca;obtain⟨d,al,a8⟩:=lN (j9.ty _ _ cX);have U:=iV i r hp;have bi:=(cb▸iV i r aN).kS;cases c1:c6.u<;>rw[c1]at b a8<;>simp at b;rename_i bX;have:=nJ a8;subst this;replace b:=ed.1 b;obtain⟨m,a7,b⟩:=b;have R:=(j9.ty _ _ a7).run_sizeOf w;unfold my at b;cases p<;>simp at b;rename_i E bZ;replace b:=ed.1 b;obtain⟨z,bN,b⟩:=b;replace b:=fh.1 b;obtain⟨hl,b⟩:=b;simp at b;obtain⟨rfl,rfl⟩:=b;have hl:=aJ hl;rcases E with _|⟨ec,E⟩
 grind
 obtain⟨bp,off,dd,c4,bn,bS,fz,K,aA,ap,dn,dm,bH,bC,b8,hr⟩:=U.xF;have cL:c4=m.size:=bH z (aD bN)▸hl;have ea:f<E.length+1:=by
  grind
 have eb:¬((E.length:Int)+1<=(f:Int)):=G;refine j8.pure i ?_ (Rr aA ap bH bC b8 hr bN);rw[<-mD,cL];have I:¬E.length+1<=f:=G;simp[execOp,aE,Instr.indexAt,bi,asIntOf,run_underlying al,K,R,I];rename_i A B X l bZ;replace b:=fh.1 b;obtain⟨hl,b⟩:=b;replace b:=ed.1 b;obtain⟨bs,ae,b⟩:=b;replace b:=fh.1 b;obtain⟨Z,b⟩:=b;replace b:=fh.1 b;obtain⟨bu,b⟩:=b;simp at b;obtain⟨rfl,rfl⟩:=b;rw[aP]at hl;have Z:=aJ Z;have bu:=aJ bu;obtain⟨g,v,bW,K,C,O,dk,b9⟩:=U.wz;obtain⟨Y,b6⟩:=i.PN C ae;obtain⟨c7,c9,bT⟩:=b9 G;have cp:bW≠0:=G;rw[bT cp]at K;refine j8.pure (c:= .pointer (some ⟨g.jR,(X+f)*g.sz,none⟩)) i ?_ (.eZ A B (X+f) 0 g _ C O λ_=>by simp);have I:¬l<=f:=G;have b7:(⟨g.jR,X*g.sz,none⟩:Addr).add (f*m.size)=⟨g.jR,(X+f)*g.sz,none⟩:=by
  rw[mD,<-Z,Y,cI]
 simp[execOp,aE,Instr.indexAt,bi,asIntOf,run_underlying al,K,R,I,b7];rename_i n bX;have:=uN a8;subst this;replace b:=ed.1 b;obtain⟨m,a7,b⟩:=b;have R:=(j9.ty _ _ a7).run_sizeOf w;unfold pB at b;replace b:=fh.1 b;obtain⟨hl,b⟩:=b;rw[aP]at hl;have I:¬n<=f:=G;have aX:∀v:Addr,a.eval x= .pointer (some v)->(execOp a.eval o).run P w= .ok (.value (.pointer (some (v.add (f*m.size))))) w:=by
  intro v aN;simp[execOp,aE,Instr.indexAt,bi,asIntOf,run_underlying al,aN,Instr.sureAddr,R,I]
 cases p<;>simp at b;rename_i A B W j;replace b:=ed.1 b;obtain⟨bs,ae,b⟩:=b;obtain⟨g,v,Q,C,O,bA⟩:=U.sZ;obtain⟨Y,b6⟩:=i.PN C ae;cases F:aq bs.sz m.size;rw[F]at b;have b:some (ni.val (T.eZ A B W (j+f*m.size)) h)=be s L:=b;simp[ay,ni.val.injEq]at b;obtain⟨rfl,rfl⟩:=b;refine j8.pure i (aX v Q) (.eZ A B W (j+f*m.size) g _ C O λan=>?_);rw[bA an,mD,db];rw[F]at b;have b:iT (aq j 0) (some (ni.val (T.eZ A B (W+f) 0) h))=be s L:=b;replace b:=fh.1 b;obtain⟨av,b⟩:=b;have av:=aJ av;subst av;simp[ay,ni.val.injEq]at b;obtain⟨rfl,rfl⟩:=b;have F:=aJ F;refine j8.pure i (aX v Q) (.eZ A B (W+f) 0 g _ C O λan=>?_);rw[bA an,mD,<-F,Y,cI];simp;rename_i de;replace b:=ed.1 b;obtain⟨di,N,b⟩:=b;simp at b;obtain⟨rfl,rfl⟩:=b;obtain⟨bp,off,bn,bS,fz,Q,aA,ap,bC,cv,hr⟩:=U.nS;rw[nV]at N;split at N;rename_i ds;simp at N;subst N;refine j8.pure i (aX _ Q) ?_;rw[mD];refine .kA _ bp (off+f*m.size) bn bS fz aA ap c5 (λs S=>cv s (bQ S)) λk s S=>?_;rw[cu]at S;have:=hr _ s S;rwa[<-db]at this
 grind
end
end
section
section
variable {P:ai}{cx:Ctx}{base:Nat}{w:World}{μ:Mu}{h:H}{M:Nat}{e:Env}{a:Act}{o:Oper}{hp:af Obj}
theorem ES(j9:jP P cx){q j:ab}{s:ah}(g:St cx base w.heap μ h)(A:mh w.heap μ M e a.tmps)(n:o.op= .convert q j s){r:T}{k:H}{c:T}
 (d:∃i,cx.ty q=D i) (hp:iG cx M e s=D c) (b:conv cx j c=D r) (x:k=h):j8 cx base w μ h.size ((execOp a.eval o).run P w) r k:=by
 subst x;obtain⟨E,d⟩:=d;have⟨C,m,_⟩:=lN (j9.ty _ _ d);obtain⟨i,y,b⟩:=ed.1 b;have⟨B,l,f⟩:=lN (j9.ty _ _ y);have p:=iV g A hp;cases z:i.u<;>rw[z]at b f<;>simp at b;have:=Ap f;subst this;cases c<;>simp at b;subst b;exact j8.pure g (by simp[execOp,n,convert,run_underlying m,run_underlying l,p.kS,Conv.intToInt]) (.int _ _);have:=uC f;subst this;cases c<;>simp at b;subst b;have⟨v,t⟩:=p.mW;exact j8.pure g (by simp[execOp,n,convert,run_underlying m,run_underlying l,v]) (.str _ t)
def yd{g:aa ah}{c:aa Nat}(p:St cx base w.heap μ h)(n:mh w.heap μ M e a.tmps)(b:kQ cx M e g=D c):
 (g=none/\c=none)\/∃d i f,g=D d/\c=D f/\a.eval d= .int i (f:Nat):=by
 rcases g with _|d;left;simp[kQ]at b;grind;right;have b:(Z (iG cx M e d) λj=>Z (tq j) λc=>some (some c))=D c:=b;obtain⟨j,m,b⟩:=ed.1 b;obtain⟨f,l,b⟩:=ed.1 b;simp at b;subst b;have⟨i,k⟩:=qg l;exact⟨d,i,f,rfl,rfl,(k▸iV p n m).kS⟩
def run_sliceBound{d:am}{j:ak}{b:Nat}(i:d= .int j (b:Nat)){c:Nat}(k:b<=c)(f:BoundsCode):(Instr.sliceBound d c f).run P w= .ok b w:=by subst i;have g:0<=((b:Nat):Int)/\((b:Nat):Int)<=(c:Int):=⟨G,G⟩;simp only[Instr.sliceBound,asIntOf,Sem.run_bind,Sem.run_pure,Result.andThen_ok,g,and_self,if_true];simp
def ug{isS:Bool}{len cap:Nat}{q p r:aa ah}{l d m:aa Nat}
 (n:(q=none/\l=none)\/∃c i b,q=D c/\l=D b/\a.eval c= .int i (b:Nat)) (t:(p=none/\d=none)\/∃c i b,p=D c/\d=D b/\a.eval c= .int i (b:Nat))
 (B:(r=none/\m=none)\/∃c i b,r=D c/\m=D b/\a.eval c= .int i (b:Nat)) (C:∀b,m=D b->b<=cap/\d=D b) (hl:ja l 0<=ja d len) (u:ja d len<=len) (K:len<=cap):
 (Instr.sliceBounds isS len cap (q.map a.eval) (p.map a.eval) (r.map a.eval)).run P w= .ok (ja l 0,ja d len,ja m cap) w:=by
 rcases B with⟨rfl,rfl⟩|⟨M,L,F,rfl,rfl,s⟩;rcases t with⟨rfl,rfl⟩|⟨I,E,k,rfl,rfl,g⟩;rcases n with⟨rfl,rfl⟩|⟨A,z,j,rfl,rfl,f⟩;rfl;have hl:j<=len:=hl;simp[Instr.sliceBounds,ja,run_sliceBound f hl];have u:k<=len:=u;have v:k<=cap:=G;rcases n with⟨rfl,rfl⟩|⟨A,z,j,rfl,rfl,f⟩
 simp[Instr.sliceBounds,ja,run_sliceBound g v];have hl:j<=k:=hl;simp[Instr.sliceBounds,ja,run_sliceBound g v,run_sliceBound f hl];have⟨x,y⟩:=C F rfl;rcases t with⟨rfl,rfl⟩|⟨I,E,k,rfl,rfl,g⟩
 grind
 simp at y;subst y;rcases n with⟨rfl,rfl⟩|⟨A,z,j,rfl,rfl,f⟩
 simp[Instr.sliceBounds,ja,run_sliceBound g (az _),run_sliceBound s x];have hl:j<=k:=hl;simp[Instr.sliceBounds,ja,run_sliceBound g (az _),run_sliceBound s x,run_sliceBound f hl]
def IM(b:Nat):ja none b=b:=rfl
def CY{j:Type}{d g:List j}{c b:Nat}(l:c<=b)(f:Pb d c b=D g):b<=d.length/\g=(d.drop c).take (b-c):=by
 unfold Pb at f;have⟨m,i,k⟩:=ed.1 f;rw[nV]at i
 grind [qh]
def Hu{c:Nat}{b:List T}(f:∀d∈b,d.cells.length=c)(g i:Nat):ir ((b.drop g).take i)=((ir b).drop (g*c)).take (i*c):=by rw[sJ f,uU (λd j=>f d (bQ j))]
def La{g:T}{f:List T}{m off i:Nat}{l:af am}{t:ab}{fz:Nat×Nat}{b d:Nat}{p:T}{k:List T}{full:Bool}{cap:Nat}(A:¬pV μ m)(x:hp[m]? =D (.cells l t fz))
 (r:∀c∈g::f,c.cells.length=i) (I:off+(ir (g::f)).length<=l.size) (B:∀c∈ir (g::f),yR c)
 (hr:∀(n:Nat) c,(ir (g::f))[n]? =D c->iu hp μ c (l.getD (off+n) Go.undef)) (F:b<=d) (E:d<=(g::f).length) (s:p::k=((g::f).drop b).take (d-b))
 (C:d-b<=cap) (u:full->cap=d-b):iu hp μ (.em (p::k) full) (.slice (some ⟨m,off+b*i,none⟩) (d-b) cap):=by
 have y:k.length+1=d-b:=by
  have:=cd List.length s
  grind
 have v:=jg r;have q:=Hu r b (d-b);rw[<-s]at q;have z:∀c∈p::k,c∈g::f:=λc j=>bQ (bV (s▸j));rw[<-y];refine .em p k full m (off+b*i) cap i l t fz A x G (λn=>by rw[u n];omega) (λc j=>r c (z c j)) ?_ ?_ ?_;rw[q];simp[List.length_take,List.length_drop];have:b*i+(d-b)*i<=(ir (g::f)).length:=by
  rw[v,<-cI];simp_all[bD]
 omega;intro c j;rw[q]at j
 grind
 grind
def Fe(d:List Nat)(b c:Nat):(bytesOf d).extract b c=bytesOf ((d.drop b).take (c-b)):=by apply ByteArray.ext;have:((bytesOf d).extract b c).data.toList=((bytesOf d).data.toList.drop b).take (c-b):=Lib.extract_data _ _ _;apply cQ;rw[this];simp[bytesOf,List.map_take,List.map_drop]
def Le(j9:jP P cx){t:ab}{x:ah}{R I S:aa ah}(U:St cx base w.heap μ h)(bu:o.op= .slice t x R I S){d:Nat}{y:ab}(bi:P.underlying t=D (.array d y)){u:T}
 (bN:iu w.heap μ u (a.eval x)) {g f l:aa Nat}
 (bW:(R=none/\g=none)\/∃m q c,R=D m/\g=D c/\a.eval m= .int q (c:Nat)) (bX:(I=none/\f=none)\/∃m q c,I=D m/\f=D c/\a.eval m= .int q (c:Nat))
 (bZ:(S=none/\l=none)\/∃m q c,S=D m/\l=D c/\a.eval m= .int q (c:Nat)) (cp:zO f l) (k:jy cx h (.array d y) u) {v:T}
 (b:sh (asSlice (.array d y) u) g f l=D v):j8 cx base w μ h.size ((execOp a.eval o).run P w) v h:=by
 unfold jy at k;simp only at k;rcases L:cx.ty y with _|ap
 rw[L]at k;grind;rw[L]at k;have bH:=(j9.ty _ _ L).run_sizeOf w;have hp:∃n r al j,u= .eZ n r al j:=by cases u<;>first|exact⟨_,_,_,_,rfl⟩|(simp at k)
 obtain⟨n,r,al,j,rfl⟩:=hp;simp only at k;rcases F:h.get n with _|W;rw[F]at k;grind;rw[F]at k;obtain⟨b6,aE,cL,ca,cv,aA⟩:=W;simp only[aC,cK]at k;obtain⟨⟨⟨⟨⟨⟨M,an⟩,N⟩,O⟩,bS⟩,bT⟩,Q⟩:=k;have M:=aJ M;have an:=aJ an;have N:=aJ N;have O:=aJ O;have Q:=aJ Q;rw[kG]at Q;subst N O bS bT;have⟨i,b7,bC,s,Y,a7⟩:=bN.sZ;have⟨W,E,C⟩:=U.box n i s;rw[F]at E;cases E;have b8:aE=i.ep:=C.ep;have av:b6=i.sz:=C.sz;have b9:i.cap=aA.length:=(C.plain rfl).wP rfl;have X:=a7 G;simp at X;subst X;have b:za n r 0 d false (ja g 0) (ja f d) l=D v:=b;unfold za at b;obtain⟨K,b⟩:=fh.1 b;obtain⟨z,b⟩:=fh.1 b;have K:=bG K;have z:=bG z;simp only[jv,fj,Nat.add_eq,dc,Nat.sub_eq]at b;have ae:(∀c,l=D c->c=ja f d)->
  (execOp a.eval o).run P w= .ok (.value (.slice (some (if ja l d=ja g 0 then⟨i.jR,0,none⟩else(⟨i.jR,0,none⟩:Addr).add (ja g 0*ap.size))) (ja f d-ja g 0) (ja l d-ja g 0))) w:=by
  intro aX;have s:=ug (P:=P) (w:=w) (isS:=false) (len:=d) (cap:=d) bW bX bZ (by
   intro c bp;have p:=aX c bp;rcases f with _|q
   simp_all[zO];have p:c=q:=p;subst p;have cb:c<=d:=z
   grind) K z (az _)
  simp[execOp,bu,Instr.sliceAt,run_underlying bi,bC,Instr.sureAddr,s,bH]
 have a8:∀B:Nat,(⟨i.jR,0,none⟩:Addr).add (B*ap.size)=⟨i.jR,B*i.sz,none⟩:=by
  intro B;rw[mD,<-M,av];simp
 rcases Z:l with _|c;subst Z;have A:=ae V;have b:some (T.arr n r (ja g 0) (ja f d-ja g 0) false)=D v:=b;cases b;refine j8.pure U A (.arr _ _ _ _ _ i _ _ s Y ?_ λbn=>⟨V,λ_=>?_,λbs=>?_⟩)
 grind [ja]
 grind [ja]
 grind
 subst Z;have b:iT (aq c (ja f d)) (some (T.arr n r (ja g 0) (ja f d-ja g 0) true))=D v:=b;obtain⟨p,b⟩:=fh.1 b;have p:=aJ p;cases b;have A:=ae c5;have bA:ja (some c) d=ja f d:=p;rw[bA]at A;refine j8.pure U A (.arr _ _ _ _ _ i _ _ s Y (az _) λbn=>⟨λ_=>rfl,V,λbs=>?_⟩);have aN:¬ja f d=ja g 0:=G;rw[aw aN,a8]
theorem Kh(j9:jP P cx){t:ab}{x:ah}{ds dd cp:aa ah}(v:St cx base w.heap μ h)(r:mh w.heap μ M e a.tmps)(bZ:o.op= .slice t x ds dd cp){s:T}{bN:H}
 (j:Hi t x ds dd cp cx M e h=be s bN):j8 cx base w μ h.size ((execOp a.eval o).run P w) s bN:=by
 replace j:=ed.1 j;obtain⟨ea,eE,j⟩:=j;replace j:=ed.1 j;obtain⟨p,hp,j⟩:=j;replace j:=fh.1 j;obtain⟨m,j⟩:=j;replace j:=ed.1 j;obtain⟨g,er,j⟩:=j;replace j:=ed.1 j;obtain⟨i,eo,j⟩:=j;replace j:=ed.1 j;obtain⟨L,ey,j⟩:=j;replace j:=fh.1 j;obtain⟨dm,j⟩:=j;obtain⟨f,rfl⟩:=iM.1 j;have cv:=yd v r er;have cL:=yd v r eo;have bH:=yd v r ey;obtain⟨d,bT,a8⟩:=lN (j9.ty _ _ eE);have ap:=iV v r hp;by_cases ee:∃n bi,ea.u= .array n bi;obtain⟨n,bi,b9⟩:=ee;rw[b9]at m a8 f;have:=uN a8;subst this;exact Le j9 v bZ bT ap cv cL bH dm m f;unfold jy at m;cases b9:ea.u<;>rw[b9]at m a8 f<;>(try simp at m)
 
 have:=uC a8;subst this;replace f:sh p g i L=D s:=f;cases p<;>simp at m;rename_i ae;obtain⟨N,eb⟩:=ap.mW;unfold sh at f;rcases K:L with _|k
 subst K;have f:iT (ar (ja g 0) (ja i (m7 ae))) (Z (Pb ae (ja g 0) (ja i (m7 ae))) λr=>some (T.str r))=D s:=f;rw[kG]at f;replace f:=fh.1 f;obtain⟨A,f⟩:=f;have A:=bG A;replace f:=ed.1 f;obtain⟨q,b7,f⟩:=f;obtain⟨bs,rfl⟩:=CY A b7;simp at f;subst f;have eu:cp=none:=by rcases bH with⟨R,_⟩|⟨_,_,_,_,R,_⟩;exact R;simp at R
 subst eu;have I:=ug (P:=P) (w:=w) (isS:=false) (len:=ae.length) (cap:=ae.length) cv cL bH V A bs (az _);simp only[Option.map_none]at I;refine j8.pure (c:= .string ((bytesOf ae).extract (ja g 0) (ja i ae.length))) v ?_ ?_;simp[execOp,bZ,Instr.sliceAt,Instr.slice,run_underlying bT,N,mE,I];rw[Fe];exact .str _ λc an=>eb c (bQ (bV an));rw[K]at f;simp at f;rename_i bi;have:=nJ a8;subst this;replace f:sh p g i L=D s:=f;rcases b8:cx.ty bi with _|aA
 rw[b8]at m;simp at m;rw[b8]at m;have eD:=(j9.ty _ _ b8).run_sizeOf w;have eA:∀k,L=D k->i.isSome=true:=by
  intro k bA;subst bA;rcases i with _|R
  simp[zO]at dm;rfl
 have X:∀(E:aa Addr) (len cap:Nat),a.eval x= .slice E len cap->len<=cap->ja g 0<=ja i len->ja i len<=len->(∀k,L=D k->k=ja i len)->
  (execOp a.eval o).run P w= .ok (.value (.slice (if ja L cap=ja g 0 then E else E.map (·.add (ja g 0*aA.size))) (ja i len-ja g 0) (ja L cap-ja g 0))) w:=by
  intro E len cap Q an al W aX;have I:=ug (P:=P) (w:=w) (isS:=true) (len:=len) (cap:=cap) cv cL bH (by
   intro k bA;have bC:=eA k bA;have B:=aX k bA;rcases i with _|R
   simp at bC;have B:k=R:=B;subst B;have W:k<=len:=W;exact⟨G,rfl⟩) al W an
  simp[execOp,bZ,Instr.sliceAt,Instr.slice,run_underlying bT,Q,I,eD]
 unfold sh at f;cases p<;>simp at m;rename_i l full;have f:sg l full (ja g 0) (ja i l.length) L=D s:=by rw[<-kG];exact f
 unfold sg at f;replace f:=fh.1 f;obtain⟨A,f⟩:=f;have A:=bG A;replace f:=ed.1 f;obtain⟨q,b7,f⟩:=f;obtain⟨bs,Y⟩:=CY A b7;rcases l with _|⟨S,l⟩
 obtain⟨E,N⟩:=ap.xE;have eC:q=[]:=by rw[Y];simp
 rw[eC]at f;have c9:ja i 0=0:=iD bs;have di:ja g 0=0:=by simp only[cW]at A;omega
 rcases K:L with _|k;subst K;have f:some (T.em [] false)=D s:=f;simp at f;subst f;have:=X E 0 0 N (az _) G G V;refine j8.pure v this ?_;rw[di,c9,IM];exact .qf _ _;subst K;have f:iT (aq k (ja i 0)) (some (T.em [] false))=D s:=f;replace f:=fh.1 f;obtain⟨B,f⟩:=f;have B:=aJ B;simp at f;subst f;have:=X E 0 0 N (az _) G G (by intro R a7;simp at a7;omega);refine j8.pure v this ?_;have et:ja (some k) 0=0:=by show k=0;omega
 rw[di,c9,et];exact .qf _ _;obtain⟨eI,off,cap,eF,eH,eK,fz,N,dk,c7,de,eh,ca,bC,an,hr⟩:=ap.xF;have dn:eF=aA.size:=by
  have m:aq (m7 S.cells) aA.size:=m;have:=aJ m;rw[kG]at this;rw[<-this];exact(ca S V).symm
 have bu:ja i (l.length+1)<=l.length+1:=iD bs;have bp:ja g 0<=ja i (l.length+1):=iD A;rcases K:L with _|k
 subst K;have z:=X _ _ _ N de bp bu V;rcases q with _|⟨y,cX⟩
 have f:some T.jb=D s:=f;simp at f;subst f;have cb:ja i (l.length+1)-ja g 0=0:=by
  have:=cd List.length Y;simp only[cW,List.length_take,List.length_drop,aZ]at this;omega
 rw[cb]at z;exact j8.pure v z (.jb _ _);have f:some (T.em (y::cX) (@Bool.rec (λ_=>Bool) false (aq (ja i (S::l).length) (m7 (S::l))) full))=D s:=f;have eB:ja g 0<ja i (l.length+1):=by
  have:=cd List.length Y;simp only[aZ,List.length_take,List.length_drop]at this;omega
 have O:¬cap=ja g 0:=G;simp only[IM,O,if_false,dw,mD]at z;refine j8.pure v z ?_;simp only[ay]at f;rw[<-f,<-dn];have:=La (full:= @Bool.rec (λ_=>Bool) false (aq (ja i (S::l).length) (m7 (S::l))) full) (cap:=cap-ja g 0) dk c7 ca bC an hr bp (iD bu) Y G (by
  intro I;cases full;simp at I;have I:aq (ja i (S::l).length) (m7 (S::l))=true:=I;have:=aJ I;rw[kG]at this;simp only[aZ]at this;rw[eh rfl,this])
 exact this;subst K;have f:iT (aq k (ja i (S::l).length)) (@List.rec T (λ_=>aa T) (some (T.em [] false)) (λ_ _ _=>some (T.em q true)) q)=D s:=f;replace f:=fh.1 f;obtain⟨B,f⟩:=f;have B:=aJ B;simp only[aZ]at B;have z:=X _ _ _ N de bp bu (by intro R a7;simp at a7;omega);have b6:ja (some k) cap=ja i (l.length+1):=B;rw[b6]at z;rcases q with _|⟨y,cX⟩
 have f:some (T.em [] false)=D s:=f;simp at f;subst f;have cb:ja i (l.length+1)-ja g 0=0:=by
  have:=cd List.length Y;simp only[cW,List.length_take,List.length_drop,aZ]at this;omega
 rw[cb]at z;exact j8.pure v z (.qf _ _);have f:some (T.em (y::cX) true)=D s:=f;have eB:ja g 0<ja i (l.length+1):=by
  have:=cd List.length Y;simp only[aZ,List.length_take,List.length_drop]at this;omega
 have O:¬ja i (l.length+1)=ja g 0:=G;simp only[O,if_false,dw,mD]at z;refine j8.pure v z ?_;simp only[ay]at f;rw[<-f,<-dn];exact La dk c7 ca bC an hr bp (iD bu) Y (az _) (λ_=>rfl)
 
 obtain⟨E,cap,N⟩:=ap.D1;have f:iT (aq (ja g 0) 0) (iT (aq (ja i 0) 0) (@Option.rec Nat (λ_=>aa T) (some T.jb) (λk=>iT (aq k 0) (some (T.em [] false))) L))=D s:=f;replace f:=fh.1 f;obtain⟨al,f⟩:=f;replace f:=fh.1 f;obtain⟨W,f⟩:=f;have al:=aJ al;have W:=aJ W;rcases K:L with _|k;subst K;have f:some T.jb=D s:=f;simp at f;subst f;have:=X E 0 cap N (aB _) G G V;rw[al,W]at this;exact j8.pure v this (.jb _ _);subst K;have f:iT (aq k 0) (some (T.em [] false))=D s:=f;replace f:=fh.1 f;obtain⟨aX,f⟩:=f;have aX:=aJ aX;simp at f;subst f;subst aX;have:=X E 0 cap N (aB _) G G (by intro R a7;simp at a7;omega);rw[al,W]at this;exact j8.pure v this (.qf _ _);rename_i b aE av C full;obtain⟨U,E,F,N,I,bW,c4,bS⟩:=ap.wz;have f:za b aE av C full (ja g 0) (ja i C) L=D s:=f;unfold za at f;replace f:=fh.1 f;obtain⟨A,f⟩:=f;replace f:=fh.1 f;obtain⟨bn,f⟩:=f;have A:=bG A;have bn:=bG bn;simp only[jv,fj]at f;have ef:U.sz=aA.size:=by
  rcases bX:bN.get b with _|ec;rw[bX]at m;simp at m;rw[bX]at m;have m:aq ec.sz aA.size:=m;rw[<-aJ m];exact(v.PN I bX).1.symm
 have c1:∀c:Nat,F≠0->aE=U.ep->E.map (·.add (c*aA.size))=D ⟨U.jR,(av+c)*U.sz,none⟩:=by
  intro c O Q;rw[(bS Q).2.2 O,<-ef];simp[mD,cI]
 rcases K:L with _|k;subst K;have z:=X E C F N c4 A bn V;have f:(@Bool.rec (λ_=>aa T) (some (T.arr b aE (av+ja g 0) (ja i C-ja g 0) false)) (iT (aq (ja i C) C) (some (T.arr b aE (av+ja g 0) (ja i C-ja g 0) true))) full)=D s:=f;cases full;simp at f;subst f;refine j8.pure v z (.arr _ _ _ _ _ U _ _ I bW ?_ λQ=>⟨V,λ_=>?_,λO=>?_⟩);show ja i C-ja g 0<=F-ja g 0;omega;have:=(bS Q).2.1 rfl;show av+ja g 0+(F-ja g 0)=U.cap;omega;have O:F-ja g 0≠0:=O;have aN:¬ja none F=ja g 0:=by show¬F=ja g 0;omega
 rw[aw aN];exact c1 _ G Q;replace f:=fh.1 f;obtain⟨c6,f⟩:=f;have c6:=aJ c6;simp at f;subst f;refine j8.pure v z (.arr _ _ _ _ _ U _ _ I bW ?_ λQ=>⟨λ_=>?_,V,λO=>?_⟩);show ja i C-ja g 0<=F-ja g 0;omega;have:=(bS Q).1 rfl;show F-ja g 0=ja i C-ja g 0;omega;have O:F-ja g 0≠0:=O;have aN:¬ja none F=ja g 0:=by show¬F=ja g 0;omega
 rw[aw aN];exact c1 _ G Q;subst K;have f:iT (aq k (ja i C)) (some (T.arr b aE (av+ja g 0) (ja i C-ja g 0) true))=D s:=f;replace f:=fh.1 f;obtain⟨B,f⟩:=f;have B:=aJ B;simp at f;subst f;have z:=X E C F N c4 A bn c5;have b6:ja (some k) F=ja i C:=B;rw[b6]at z;refine j8.pure v z (.arr _ _ _ _ _ U _ _ I bW (az _) λQ=>⟨λ_=>rfl,V,λO=>?_⟩);have aN:¬ja i C=ja g 0:=G;rw[aw aN]
 grind
 grind
end
end
section
section
variable {P:ai}{cx:Ctx}{base:Nat}{w:World}{μ:Mu}{h h':H}{M:Nat}{e:Env}{a:Act}{o:Oper}{hp hp':af Obj}
def St.fN(g:St cx base hp μ h){b:Nat}{c:Loc}(f:μ b=D c):b<h.size:=by
 have⟨i,d,_⟩:=g.box b c f;rw[H.get_eq]at d
 grind
def St.Vx(c:St cx base hp μ h):μ h.size=none:=by rcases b:μ h.size with _|d;rfl;exact absurd (c.fN b) (Nat.lt_irrefl _)
def uu(μ:Mu)(d:Nat)(c:Loc):Mu:=⟨λb=>if b=d then some c else μ b,μ.qy⟩
theorem kx(μ:Mu)(c:Nat)(b:Loc):uu μ c b c=D b:=by simp[uu]
theorem jO(μ:Mu){c b:Nat}(d:Loc)(h:b≠c):uu μ c d b=μ b:=by simp[uu,h]
def H.cons(h:H)(b:jI):H:=⟨h.size+1,h.low,b::h.iv⟩
def H.mL(b:Nat->T)(h:H)(c:jI):h.new b c=D (b h.size,h.cons c):=H.Vy b h c
def H.wM(c:h.iv.length=h.size)(b:jI):(h.cons b).get h.size=D b:=by rw[H.get_eq];simp[H.cons]
theorem H.pF{b:Nat}(f:b<h.size)(c:jI):(h.cons c).get b=h.get b:=by
 rw[H.get_eq,H.get_eq];have d:b<(h.cons c).size:=by show b<h.size+1;omega
 rw[ax d,ax f];show(c::h.iv)[h.size+1-1-b]? =_;have:h.size+1-1-b=(h.size-1-b)+1:=G;rw[this];simp
def St.new(d:St cx base hp μ h)(n:Obj)(l:Loc)(m:jI)(z:l.jR=hp.size)(F:Ext hp μ (hp.push n) (uu μ h.size l)->uA (hp.push n) (uu μ h.size l) l m):
 St cx base (hp.push n) (uu μ h.size l) (h.cons m)/\Ext hp μ (hp.push n) (uu μ h.size l)/\BX μ (uu μ h.size l) h.size (h.cons m).size:=by
 have E:=d.Vx;have p:Ext hp μ (hp.push n) (uu μ h.size l):=by
  refine⟨V,λr C t=>⟨?_,?_⟩,λb k c=>?_,rfl,λr C _=>?_⟩
  rotate_right
  rw[dE];grind;rw[dE];grind;rintro(⟨b,k,c,rfl⟩|hr);by_cases i:b=h.size;subst i;rw[kx]at c;grind;rw[jO _ _ i]at c;exact t (.inl ⟨b,k,c,rfl⟩);exact t (.inr hr);have:b≠h.size:=by rintro rfl;rw[E]at c;grind
  exact⟨k,by rw[jO _ _ this];exact c,.inl rfl⟩
 refine⟨⟨?_,?_,?_,?_,?_,?_,?_,?_⟩,p,?_⟩;show(m::h.iv).length=h.size+1;simp[d.wf];simp;have:=d.fit;omega;intro b k c;by_cases i:b=h.size;subst i;rw[kx]at c;simp at c;subst c;exact⟨m,H.wM d.wf m,F p⟩;rw[jO _ _ i]at c;have⟨I,j,g⟩:=d.box b k c;refine⟨I,by rw[H.pF (d.fN c)];exact j,g.ext p ?_⟩;have:=d.lt c;rw[dE];grind;intro b s u v j g A;by_cases c:b=h.size<;>by_cases q:s=h.size;omega;subst c;rw[kx]at j;simp at j;subst j;rw[jO _ _ q]at g;have:=d.lt g;omega;subst q;rw[kx]at g;simp at g;subst g;rw[jO _ _ c]at j;have:=d.lt j;omega;rw[jO _ _ c]at j;rw[jO _ _ q]at g;exact d.inj b s u v j g A;intro b k c;by_cases i:b=h.size;subst i;rw[kx]at c;simp at c;subst c;rw[z];exact d.fit;rw[jO _ _ i]at c;exact d.low b k c;intro b k c hr;by_cases i:b=h.size;subst i;rw[kx]at c;simp at c;subst c;have:=d.uv _ hr;omega;rw[jO _ _ i]at c;exact d.apart b k c hr;intro r hr;have:=d.uv r hr
 grind
 intro y x B;exact(d.CO y x B).ext p;refine⟨by show h.size<=h.size+1;omega,λb c=>?_,λb j g=>?_⟩;by_cases i:b=h.size;right;exact⟨G,by show b<h.size+1;omega⟩
 grind [jO]
 have:b=h.size:=by have g:b<h.size+1:=g;omega
 subst this;rw[kx];simp
def Fl{c:Nat}{d:jI}(f:h.put c d=D h')(k:h.iv.length=h.size):
 h'.size=h.size/\h'.iv.length=h'.size/\h'.get c=D d/\∀b,b≠c->h'.get b=h.get b:=by
 obtain⟨g,i,rfl⟩:=H.zG.1 f;refine⟨rfl,by grind,?_,λb j=>?_⟩;rw[H.get_eq];grind;rw[H.get_eq,H.get_eq]
 grind
def St.change(d:St cx base hp μ h){f:Nat}{i L':Loc}{B:jI}(p:μ f=D i)(K:h.put f B=D h')(A:hp.size<=hp'.size)(x:∀n,n<hp.size->n≠i.jR->hp'[n]? =hp[n]?)
 (M:L'=i\/(i.ep<L'.ep/\(L'.jR=i.jR\/hp.size<=L'.jR))) (N:Ext hp μ hp' (uu μ f L')->uA hp' (uu μ f L') L' B):
 St cx base hp' (uu μ f L') h'/\Ext hp μ hp' (uu μ f L')/\BX μ (uu μ f L') h.size h'.size:=by
 have⟨p1,p2,p3,p4⟩:=Fl K d.wf;have q:L'.jR=i.jR\/hp.size<=L'.jR:=by
  grind
 have u:Ext hp μ hp' (uu μ f L'):=by
  refine⟨A,λn v t=>⟨x n v λk=>t (.inl ⟨f,i,p,k.symm⟩),?_⟩,λc m b=>?_,rfl,λn v hr=>x n v λk=>d.apart f i p (k▸hr)⟩;rintro(⟨c,m,b,rfl⟩|hr);by_cases g:c=f;subst g;rw[kx]at b;simp at b;subst b;rcases q with k|k
  exact t (.inl ⟨c,i,p,k.symm⟩);omega;rw[jO _ _ g]at b;exact t (.inl ⟨c,m,b,rfl⟩);exact t (.inr hr);by_cases g:c=f;subst g;rw[p]at b;grind [kx];exact⟨m,by rw[jO _ _ g];exact b,.inl rfl⟩
 refine⟨⟨p2,iH d.fit,?_,?_,?_,?_,λn hr=>bO (d.uv n hr) A,?_⟩,u,⟨G,λc b=>?_,λc j l=>by omega⟩⟩;intro c m b;by_cases g:c=f;subst g;rw[kx]at b;grind;rw[jO _ _ g]at b;have⟨L,j,l⟩:=d.box c m b;refine⟨L,p4 c g▸j,l.ext u (x _ (d.lt b) λk=>g (d.inj c f m i b p k))⟩;intro c r y z j l F;by_cases b:c=f<;>by_cases s:r=f;omega;subst b;rw[kx]at j;simp at j;subst j;rw[jO _ _ s]at l;rcases q with k|k
 exact absurd (d.inj r c z i l p G) s;have:=d.lt l;omega;subst s;rw[kx]at l;simp at l;subst l;rw[jO _ _ b]at j;rcases q with k|k
 exact absurd (d.inj c r y i j p G) b;have:=d.lt j;omega;rw[jO _ _ b]at j;rw[jO _ _ s]at l;exact d.inj c r y z j l F;intro c m b;by_cases g:c=f;subst g;rw[kx]at b;simp at b;subst b;rcases q with k|k
 rw[k];exact d.low _ _ p;have:=d.fit;omega;rw[jO _ _ g]at b;exact d.low c m b;intro c m b hr;by_cases g:c=f;subst g;rw[kx]at b;simp at b;subst b;rcases q with k|k
 exact d.apart c i p (k▸hr);have:=d.uv _ hr;omega;rw[jO _ _ g]at b;exact d.apart c m b hr;intro E C I;exact(d.CO E C I).ext u
 grind [jO]
end
end
section
section
variable {P:ai}{cx:Ctx}{base:Nat}{w:World}{μ:Mu}{h h':H}{M:Nat}{e:Env}{a:Act}{o:Oper}{hp hp':af Obj}
theorem kl{b:aa (T×H)}{c:T}{h':H}:km b=be c h'↔b=D (c,h'):=by
 unfold km;rcases b with _|d
 simp;obtain⟨g,f⟩:=d;simp
def AF(r:St cx base w.heap μ h)(b:ab){arr:af am}{cap sz:Nat}{ex:Bool}{es:List T}(k:arr.size=cap*sz)(n:es.length<=cap)(l:ex->cap=es.length)
 (q:∀d∈es,d.cells.length=sz) (p:∀d∈ir es,d.scalar) (j:jc w.heap μ (ir es) (arr.toList.take (ir es).length)):
 ∃c,St cx base (w.heap.push (.cells arr b)) c (h.cons (ny sz ex es))/\sM w μ {w with heap:=w.heap.push (.cells arr b)} c/\BX μ c h.size (h.cons (ny sz ex es)).size/\
  c h.size=D ⟨0,w.heap.size,cap,sz⟩:=by
 have⟨f,g,i⟩:=r.new (.cells arr b) ⟨0,w.heap.size,cap,sz⟩ (ny sz ex es) rfl (by
  intro m;refine⟨rfl,rfl,λ_=>⟨⟨arr,b,V,k,j.ext m⟩,n,l,q,p⟩,λs=>by grind [ny]⟩)
 exact⟨_,f,⟨g,rfl,rfl,rfl⟩,i,kx _ _ _⟩
def Ca{b:T}(h:b.scalar):b.cells=[b]:=by cases b<;>first|rfl|grind [T.scalar]
def CP{b:List T}(h:∀c∈b,c.scalar):ir b=b:=by
 induction b with
 |nil=>rfl
 |cons c b g=>
  have f:=Ca (h c V);have d:=g λi j=>h i c5;unfold ir at d|-;rw[aV,f,d];rfl
theorem Km(j9:jP P cx){g:ab}(x:St cx base w.heap μ h)(t:o.op= .alloc g){i:T}
 (b:Ho g cx M e h=be i h'):j8 cx base w μ h.size ((execOp a.eval o).run P w) i h':=by
 obtain⟨c,y,b⟩:=ed.1 b;have⟨f,u,_,z,k,B,v,A,C⟩:=(j9.ty _ _ y).zero w;cases s:AJ cx c;rw[s]at b;have b:km (h.new (λj=>T.eZ j 0 0 0) (ny c.size true [c.kV]))=be i h':=b;rw[kl,H.mL]at b;simp[ay,aI]at b;obtain⟨rfl,rfl⟩:=b;have⟨r,l,m,n,p⟩:=AF x g (arr:=f.cells) (cap:=1) (sz:=c.size) (ex:=true) (es:=[c.kV]) G V V
  (by intro q d;simp at d;subst d;rw[v];omega) (by intro q d;simp[ir]at d;rw[v]at d;grind)
  (by
    have:ir [c.kV]=c.zero:=by grind [ir]
    rw[this];have hl:f.cells.toList.take c.zero.length=f.cells.toList:=by grind [bR]
    rw[hl];grind)
 refine⟨.pointer (some ⟨w.heap.size,0,none⟩),_,r,.inl ?_,.eZ _ 0 0 0 _ _ p (az _) (λ_=>by simp),l,m,n⟩;simp[execOp,t,Instr.alloc,u,newVar,newRow];rw[s]at b;have b:km (h.new (λj=>T.eZ j 0 0 0) (ny 1 true c.zero))=be i h':=b;rw[kl,H.mL]at b;simp[ay,aI]at b;obtain⟨rfl,rfl⟩:=b;have⟨r,l,m,n,p⟩:=AF x g (arr:=f.cells) (cap:=c.zero.length) (sz:=1) (ex:=true) (es:=c.zero) G (az _) (λ_=>rfl)
  (by intro q d;rw[Ca (k q d)];rfl) (by rw[CP k];omega)
  (by
    rw[CP k];have hl:f.cells.toList.take c.zero.length=f.cells.toList:=by grind [bR]
    rw[hl];grind)
 refine⟨.pointer (some ⟨w.heap.size,0,none⟩),_,r,.inl ?_,.eZ _ 0 0 0 _ _ p (az _) (λ_=>by simp),l,m,n⟩;simp[execOp,t,Instr.alloc,u,newVar,newRow]
theorem OL{i:ab}{d:ah}(g:St cx base w.heap μ h)(s:mh w.heap μ M e a.tmps)(m:o.op= .box i d){j:T}
 (b:SK d cx M e h=be j h'):j8 cx base w μ h.size ((execOp a.eval o).run P w) j h':=by
 obtain⟨c,hp,b⟩:=ed.1 b;obtain⟨k,b⟩:=fh.1 b;rw[kl,H.mL]at b;simp only[ay,aI]at b;obtain⟨rfl,rfl⟩:=b;have⟨f,u,_⟩:=(iV g s hp).cells k;have l:=f.1;have⟨t,n,p,q,r⟩:=AF g i (arr:=(a.eval d).cells) (cap:=1) (sz:=c.cells.length) (ex:=true) (es:=[c]) c5 V V
  V (by grind [ir])
  (by
    have:ir [c]=c.cells:=by simp[ir]
    rw[this,l,aM];exact f)
 rw[kG];refine⟨.pointer (some ⟨w.heap.size,0,none⟩),_,t,.inl ?_,.eZ _ 0 0 0 _ _ r (az _) (λ_=>by simp),n,p,q⟩;simp[execOp,m,Instr.box,newVar,newRow]
def X6(b c:List T):over b c=if c.length<=b.length then some (c++b.drop c.length)else none:=by
 induction c generalizing b with
 |nil=>rfl
 |cons i c f=>cases b with
  |nil=>rfl
  |cons j b=>
   show(Z (over b c) λg=>some (i::g))=_;rw[f];by_cases d:c.length<=b.length<;>simp[d]
def wY(b:List T)(c:Nat)(d:List T):mJ b c d=if c+d.length<=b.length then some (b.take c++d++b.drop (c+d.length))else none:=by
 induction c generalizing b with
 |zero=>show over b d=_;rw[X6];simp
 |succ c j=>cases b with
  |nil=>show none=_;simp
  |cons f b=>
   show(Z (mJ b c d) λk=>some (f::k))=_;rw[j];have g:c+1+d.length=(c+d.length)+1:=G;by_cases i:c+d.length<=b.length;rw[ax i,ax c5,g];simp;simp_all[aw]
def rf{b d f:List T}{c:Nat}(g:mJ b c d=D f):c+d.length<=b.length/\f=b.take c++d++b.drop (c+d.length):=by
 rw[wY]at g
 grind
def Ou{d g f:List T}{j:Nat}(i:mJ d j g=D f){c:T->Prop}(k:∀b∈d,c b)(l:∀b∈g,c b):∀b∈f,c b:=by
 obtain⟨_,rfl⟩:=rf i
 grind
def Jf{cells:af am}{c:am}{off:Nat}(k:off+c.cells.size<=cells.size):
 (c.cells.zipIdx.foldl (λd (b:am×Nat)=>d.setIfInBounds (off+b.2) b.1) cells).toList=cells.toList.take off++c.cells.toList++cells.toList.drop (off+c.cells.size):=by
 have g:c.cells.zipIdx.foldl (λd (b:am×Nat)=>d.setIfInBounds (off+b.2) b.1) cells=(c.cells.toList.zipIdx 0).foldl (λd (b:am×Nat)=>d.setIfInBounds (off+b.2) b.1) cells:=by
  rw[<-Array.foldl_toList,Array.toList_zipIdx]
 rw[g];have⟨j,f⟩:=Great.foldl_set off c.cells.toList 0 cells;apply dx;intro i;have:=f i;rw[<-dL]at this;rw[this]
 grind
def Hx(place:Nat->aa (Nat×Nat))(b:Nat×T)(d:List (Nat×T))(c:List T):
 oO place (b::d) c=Z (place b.1) λf=>iT (aq (m7 b.2.cells) f.2) (Z (mJ c f.1 b.2.cells) λg=>oO place d g):=rfl
def Tg(hp:af Obj)(μ:Mu)(g:List (Nat×T))(qs:List (Nat×am)):Prop:=
 g.length=qs.length/\∀(f:Nat) d b,g[f]? =D (d,b)->∃c,qs[f]? =D (d,c)/\iu hp μ b c/\b.iW=true
def Tg.om{b:Nat×T}{g:List (Nat×T)}{qs:List (Nat×am)}(h:Tg hp μ (b::g) qs):∃c i,qs=(b.1,c)::i/\iu hp μ b.2 c/\b.2.iW/\Tg hp μ g i:=by
 obtain⟨hl,f⟩:=h;rcases qs with _|⟨p,qs⟩
 grind
 have⟨c,d,hr,j⟩:=f 0 b.1 b.2 V;simp at d;subst d;exact⟨c,qs,rfl,hr,j,by grind,λl k m n=>iD (f (l+1) k m c5)⟩
def A1(v:St cx base w.heap μ h)(u:mh w.heap μ M e a.tmps){c:List (Nat×ah)}{l:List (Nat×T)}(i:partsOf cx M e c=D l):
 Tg w.heap μ l (c.map λk=>(k.1,a.eval k.2)):=by
 unfold partsOf at i;have⟨hl,n⟩:=vn.1 i;refine⟨by grind,λd s f q=>?_⟩;have x:d<c.length:=by
  grind
 have⟨y,g,b⟩:=n d c[d] V;rw[q]at g;simp at g;subst g;rcases p:c[d]with⟨t,j⟩;rw[p]at b;have b:(Z (iG cx M e j) λf=>iT f.iW (some (t,f)))=D (s,f):=b;have⟨z,r,b⟩:=ed.1 b;have⟨m,b⟩:=fh.1 b;simp at b;obtain⟨rfl,rfl⟩:=b;exact⟨a.eval j,by grind,iV v u r,m⟩
def yK{place place':Nat->aa (Nat×Nat)}(K:∀t f,place t=D f->place' t=D f):∀(k:List (Nat×T)) (qs:List (Nat×am)) (d g:List T) (cells:af am),
 Tg hp μ k qs->jc hp μ d cells.toList->(∀n∈d,n.scalar=true)->oO place k d=D g->
 ∃j,Instr.fill place' cells qs=D j/\jc hp μ g j.toList/\(∀n∈g,n.scalar=true)/\j.size=cells.size:=by
 intro k;induction k with
 |nil=>
  intro qs d g cells hp i m b;have:qs=[]:=bw hp.1.symm;subst this;have:g=d:=by grind [oO]
  subst this;exact⟨cells,rfl,i,m,rfl⟩
 |cons W k M=>
  intro qs d g cells z i m b;obtain⟨c,S,rfl,hr,E,A⟩:=z.om;rw[Hx]at b;have⟨f,L,b⟩:=ed.1 b;have⟨hl,b⟩:=fh.1 b;have⟨q,r,b⟩:=ed.1 b;have⟨p,v,_⟩:=hr.cells E;have I:=aJ hl;rw[kG]at I;have⟨U,C⟩:=rf r;have x:=i.1;have l:=p.1;simp only[cY]at x l;have F:f.1+c.cells.size<=cells.size:=G;have s:=Jf (cells:=cells) (c:=c) F;have y:jc hp μ q (c.cells.zipIdx.foldl (λd (u:am×Nat)=>d.setIfInBounds (f.1+u.2) u.1) cells).toList:=by
   rw[s,C,<-l];exact((i.take f.1).append p).append (l▸i.drop _)
  have⟨j,N,O,Q,R⟩:=M S q g _ A y (Ou r m v) b;refine⟨j,?_,O,Q,?_⟩;simp only[Instr.fill,K _ _ L];have B:¬(c.cells.size≠f.2||decide (f.1+c.cells.size>cells.size))=true:=by grind
  rw[aw B];exact N;rw[R];have:=cd List.length s
  grind
end
end
section
section
variable {P:ai}{cx:Ctx}{base:Nat}{w:World}{μ:Mu}{h h':H}{M:Nat}{e:Env}{a:Act}{o:Oper}{hp hp':af Obj}
def EO:∀(c:List Field),(∀f∈c,∃b,P.info? f.type=D b/\b.size≠0)->∃j,c.mapM (λf=>(P.info? f.type).map λb=>(f.offset,b.size))=D j/\
 ∀(d:Nat) f b,c[d]? =D f->P.info? f.type=D b->j[d]? =D (f.offset,b.size)
 | [],_=>⟨[],rfl,λd f b k=>by grind⟩
 |f::c,i=>by
  have⟨b,q,_⟩:=i f V;have⟨l,m,n⟩:=EO c λg p=>i g c5;refine⟨(f.offset,b.size)::l,by simp_all,λd g s k r=>?_⟩
  grind
def Cx(c:af (Nat×ah)):(c.map λ(d,f)=>(d,a.eval f)).toList=c.toList.map λb=>(b.1,a.eval b.2):=by simp
theorem Kl(j9:jP P cx){t:ab}{E:af (Nat×ah)}(W:St cx base w.heap μ h)(r:mh w.heap μ M e a.tmps)(ap:o.op= .build t E){l:T}
 (b:Ec t E cx M e h=be l h'):j8 cx base w μ h.size ((execOp a.eval o).run P w) l h':=by
 replace b:=ed.1 b;obtain⟨bp,a8,b⟩:=b;replace b:=ed.1 b;obtain⟨U,aE,b⟩:=b;have N:=A1 W r aE;obtain⟨bA,d,X,I,K,L,Z,x,_⟩:=(j9.ty _ _ a8).unfold;obtain⟨Q,R⟩:=jc.wv (hp:=w.heap) (μ:=μ) Z;have fin:∀(i:af am) (g:List T),P.built t (E.toList.map λS=>(S.1,a.eval S.2))=D i->jc w.heap μ g i.toList->(∀l∈g,l.scalar=true)->l= .eQ g->h'=h->
  j8 cx base w μ h.size ((execOp a.eval o).run P w) l h':=by
  rintro i g O ae aN rfl rfl;refine j8.pure W ?_ (iu.Bg ae aN);rw[<-Cx]at O;simp[execOp,ap,run_build w t _ i O,Result.andThen_ok]
 cases bi:bp.u<;>rw[bi]at b x<;>simp at b;rename_i n bs;have:=uN x;subst this;replace b:=ed.1 b;obtain⟨bC,aX,b⟩:=b;replace b:=ed.1 b;obtain⟨g,y,b⟩:=b;obtain⟨m,rfl⟩:=iM.1 b;simp at m;subst m;obtain⟨s,_,_,p,_,_,_,_,_,_,v,_⟩:=(j9.ty _ _ aX).unfold;obtain⟨i,A,B,C,_⟩:=yK (place':=λk=>some (k*s.size,s.size)) (by intro k q c;rw[v];exact c) U _ _ _ X.cells N Q R y;exact fin i g (by simp[Program.built,I,K,L,p];exact A) B C rfl rfl;rename_i bu;obtain⟨F,rfl,an,al⟩:=uX x;replace b:=ed.1 b;obtain⟨g,y,b⟩:=b;obtain⟨m,rfl⟩:=iM.1 b;simp at m;subst m;obtain⟨bn,av,aA⟩:=EO F.toList al;obtain⟨i,A,B,C,_⟩:=yK (place':=λk=>bn.toArray[k]?) (by
  intro k q c;obtain⟨f,j,c⟩:=ed.1 c;obtain⟨bH,a7,c⟩:=ed.1 c;simp at c;rw[an]at j;rw[br]at j;rcases z:F.toList[k]? with _|Y
  rw[z]at j;grind;rw[z]at j;simp at j;obtain⟨s,_,_,p,_,_,_,_,_,_,v,_⟩:=(j9.ty _ _ a7).unfold;rw[<-j]at p;have:=aA k Y s z p;rw[<-j]at c;simp[]at c;rw[<-c,<-v]
  grind) U _ _ _ X.cells N Q R y
 exact fin i g (by simp only[Program.built,I,K,L,av];exact A) B C rfl rfl
def MF{d:Nat}{b:List T}(g:∀f∈b,f.cells.length=d){c:Nat}(i:c<b.length)(f:T):ir (b.set c f)=(ir b).take (c*d)++f.cells++(ir b).drop (c*d+d):=by rw[uU g,<-cD,sJ g,List.set_eq_take_append_cons_drop,ax i,pG,nU,aQ]
def vD{c:T}(b:Nat):ir (List.replicate b c)=(List.replicate b c.cells).flatten:=by
 induction b with
 |zero=>rfl
 |succ b d=>rw[dF,nU,d,dF,List.flatten_cons]
def DC{b:af am}(c:Nat)(g:0<b.size):((Array.range (c*b.size)).map (b[· % b.size]!)).toList=(List.replicate c b.toList).flatten:=by
 induction c with
 |zero=>simp
 |succ c f=>
  have d:(Array.range ((c+1)*b.size)).toList=(Array.range (c*b.size)).toList++(List.range b.size).map (c*b.size+ ·):=by
   simp[Array.toList_range];rw[cD,List.range_add]
  rw[Array.toList_map,d,List.map_append,<-Array.toList_map,f,List.replicate_succ',List.flatten_append];congr 1;simp[List.flatten_cons,List.flatten_nil,bJ,List.map_map];apply List.ext_getElem;simp;simp_all[Nat.mod_eq_of_lt]
theorem jc.replicate{d:List T}{c:List am}(f:jc hp μ d c)(b:Nat):jc hp μ (List.replicate b d).flatten (List.replicate b c).flatten:=by
 induction b with
 |zero=>exact jc.nil
 |succ b g=>rw[dF,dF,List.flatten_cons,List.flatten_cons];exact f.append g
def Hw(b:Nat)(f:Nat)(c:T)(g:List (Nat×T))(d:List T):sK b ((f,c)::g) d=iT (aq (m7 c.cells) b) (Z (lQ d f c) λi=>sK b g i):=rfl
def Fa{b:Nat}(al:0<b):∀(m:List (Nat×T)) (qs:List (Nat×am)) (f g:List T) (cells:af am),
 Tg hp μ m qs->(∀d∈f,d.cells.length=b)->jc hp μ (ir f) cells.toList->(∀d∈ir f,d.scalar=true)->sK b m f=D g->
 ∃q,Instr.fill (λi=>some (i*b,b)) cells qs=D q/\jc hp μ (ir g) q.toList/\(∀d∈ir g,d.scalar=true)/\(∀d∈g,d.cells.length=b)/\g.length=f.length:=by
 intro m;induction m with
 |nil=>
  intro qs f g cells hp p l y j;have:qs=[]:=bw hp.1.symm;subst this;have:g=f:=by grind [sK]
  subst this;exact⟨cells,rfl,l,y,p,rfl⟩
 |cons X m Q=>
  intro qs f g cells B p l y j;obtain⟨c,Y,rfl,hr,I,C⟩:=B.om;obtain⟨i,d⟩:=X;rw[Hw]at j;obtain⟨hl,j⟩:=fh.1 j;obtain⟨ae,n,j⟩:=ed.1 j;have x:=aJ hl;rw[kG]at x;rw[mt]at n;split at n;rename_i v;simp at n;subst n;obtain⟨r,Z,_⟩:=hr.cells I;have s:=l.1;have t:=r.1;simp only[cY]at s t;have F:=jg p;have K:i*b+c.cells.size<=cells.size:=by
   rw[<-s,F,<-t,x,<-cD];exact bD _ v
  have M:=Jf (cells:=cells) (c:=c) K;have u:=MF p v d;have N:∀k∈f.set i d,k.cells.length=b:=by
   grind
  have A:jc hp μ (ir (f.set i d)) (c.cells.zipIdx.foldl (λz (k:am×Nat)=>z.setIfInBounds (i*b+k.2) k.1) cells).toList:=by
   rw[M,u];have:c.cells.size=b:=G;rw[this];exact((l.take _).append r).append (l.drop _)
  have L:∀k∈ir (f.set i d),k.scalar:=by
   intro k O;rw[u]at O
   grind
  obtain⟨q,R,S,U,W,an⟩:=Q Y _ g _ C N A L j;refine⟨q,?_,S,U,W,by grind⟩;simp only[Instr.fill];have E:¬(c.cells.size≠b||decide (i*b+c.cells.size>cells.size))=true:=by grind
  rw[aw E];exact R
  grind
theorem CM(j9:jP P cx){O:ab}{c:Nat}{z:af (Nat×ah)}(N:St cx base w.heap μ h)(r:mh w.heap μ M e a.tmps)(F:o.op= .buildSlice O c z){g:T}
 (b:qS O c z cx M e h=be g h'):j8 cx base w μ h.size ((execOp a.eval o).run P w) g h':=by
 replace b:=ed.1 b;obtain⟨bA,an,b⟩:=b;obtain⟨d,C,K⟩:=lN (j9.ty _ _ an);cases av:bA.u<;>rw[av]at b K<;>simp at b;rename_i B;have:=nJ K;subst this;replace b:=ed.1 b;obtain⟨f,n,b⟩:=b;replace b:=ed.1 b;obtain⟨bu,Z,b⟩:=b;replace b:=fh.1 b;obtain⟨I,b⟩:=b;replace b:=fh.1 b;obtain⟨l,b⟩:=b;replace b:=ed.1 b;obtain⟨es,E,b⟩:=b;rw[kl,H.mL]at b;simp[ay,aI]at b;obtain⟨rfl,rfl⟩:=b;have I:=bG I;have l:=bG l;have l:c*f.size<=65536:=l;rw[<-sR]at*
 have Q:=A1 N r Z;obtain⟨A,aE,bS,aX,bX,bW,q,bT,a7⟩:=(j9.ty _ _ n).zero w;have S:∃i:af am,(if c*f.size=0 then(pure #[]:Sem (af am))else do pure (<-zeroValue B).cells).run P w= .ok (if c*f.size=0 then #[]else A.cells) w/\
  ((Array.range (c*f.size)).map ((if c*f.size=0 then #[]else A.cells)[· % (if c*f.size=0 then #[]else A.cells).size]!))=i/\jc w.heap μ (ir (ao c f.kV)) i.toList:=by
  by_cases j:c*f.size=0;have W:c=0:=by
   grind [Nat.mul_eq_zero]
  subst W;refine⟨_,V,rfl,?_⟩;simp[ir,jc.nil];refine⟨_,by simp_all,rfl,?_⟩;rw[aw j,<-a7,DC c G,vD,q];exact(aX _ _).replicate c
 obtain⟨i,bN,p,aN⟩:=S;have ap:∀g∈ao c f.kV,g.cells.length=f.size:=by
  intro g k;rw[bU k,q];omega
 have al:∀g∈ir (ao c f.kV),g.scalar:=by
  intro g k;obtain⟨y,aA,k⟩:=List.mem_flatMap.1 k;rw[bU aA,q]at k
  grind
 rw[sR]at E;obtain⟨v,m,t,bs,L,bZ⟩:=Fa G bu _ _ es i Q ap aN al E;have U:es.length=c:=by grind
 have Y:v.size=c*f.size:=by
  have:=t.1;rw[jg L,U]at this
  grind
 obtain⟨bC,a8,bi,bn,bp⟩:=AF N B (arr:=v) (cap:=c) (sz:=f.size) (ex:=true) (es:=es) Y G G L bs (by
  rw[bR];exact t;have:=t.1;omega)
 refine⟨.slice (some ⟨w.heap.size,0,none⟩) c c,_,bC,.inl ?_,.arr _ 0 0 c false _ _ c bp (az _) (az _) (λ_=>⟨V,V,V⟩),a8,bi,bn⟩;have X:¬c*f.size>2^24:=G;have bH:Instr.fill (λs=>some (s*f.size,f.size)) i (z.map λ(s,x)=>(s,a.eval x)).toList=D v:=by rw[Cx];exact m
 by_cases j:c*f.size=0;have R:i= #[]:=by rw[<-p,j];simp
 rw[R]at m;have ae:Array.map (λ_=>(default:am)) (Array.range 0)= #[]:=V;simp[execOp,F,Instr.buildSlice,run_underlying C,(j9.ty _ _ n).run_sizeOf,j,ae,m,newRow];simp[j]at p;simp[execOp,F,Instr.buildSlice,run_underlying C,(j9.ty _ _ n).run_sizeOf,j,X,aE,p,m,newRow]
set_option maxRecDepth 20000 in
theorem D6(j9:jP P cx){X:ab}{Y z:ah}(y:St cx base w.heap μ h)(W:mh w.heap μ M e a.tmps)(K:o.op= .makeSlice X Y z){i:T}
 (b:sx X Y z cx M e h=be i h'):j8 cx base w μ h.size ((execOp a.eval o).run P w) i h':=by
 replace b:=ed.1 b;obtain⟨bs,aA,b⟩:=b;obtain⟨d,I,Q⟩:=lN (j9.ty _ _ aA);cases aE:bs.u<;>rw[aE]at b Q<;>simp at b;rename_i E;have:=nJ Q;subst this;replace b:=ed.1 b;obtain⟨f,r,b⟩:=b;replace b:=ed.1 b;obtain⟨p,hp,b⟩:=b;replace b:=ed.1 b;obtain⟨q,ap,b⟩:=b;replace b:=ed.1 b;obtain⟨g,hl,b⟩:=b;replace b:=ed.1 b;obtain⟨c,Z,b⟩:=b;replace b:=fh.1 b;obtain⟨L,b⟩:=b;replace b:=fh.1 b;obtain⟨F,b⟩:=b;replace b:=fh.1 b;obtain⟨m,b⟩:=b;replace b:=fh.1 b;obtain⟨n,b⟩:=b;rw[kl,H.mL]at b;simp only[ay,aI]at b;obtain⟨rfl,rfl⟩:=b;have L:=bG L;have F:=bG F;have m:=bG m;have n:c*f.bytes<=70368744177664:=bG n;obtain⟨bX,rfl⟩:=qg hl;obtain⟨bZ,rfl⟩:=qg Z;have R:=(iV y W hp).kS;have t:=(iV y W ap).kS;obtain⟨A,aN,bN,aX,bW,bT,x,bS,a7⟩:=(j9.ty _ _ r).zero w;obtain⟨b6,O,N,bC⟩:=(j9.ty _ _ r).run_typeInfo w;have bA:c<=70368744177664:=aU (Nat.le_mul_of_pos_right c G) n;have ae:∃k:af am,(if c*f.size=0 then(pure #[]:Sem (af am))else do pure (<-zeroValue E).cells).run P w= .ok (if c*f.size=0 then #[]else A.cells) w/\
  ((Array.range (c*f.size)).map ((if c*f.size=0 then #[]else A.cells)[· % (if c*f.size=0 then #[]else A.cells).size]!))=k/\jc w.heap μ (ir (ao c f.kV)) k.toList:=by
  by_cases j:c*f.size=0;have al:c=0:=by
   grind [Nat.mul_eq_zero]
  subst al;refine⟨_,V,rfl,?_⟩;simp[ir,jc.nil];refine⟨_,by simp_all,rfl,?_⟩;rw[aw j,<-a7,DC c G,vD,x];exact(aX _ _).replicate c
 obtain⟨k,bH,v,S⟩:=ae;have s:∀U,∀i∈ao U f.kV,i.cells.length=f.size:=by
  intro U i l;rw[bU l,x];omega
 have av:∀i∈ir (ao g f.kV),i.scalar:=by
  intro i l;obtain⟨z,t,l⟩:=List.mem_flatMap.1 l;rw[bU t,x]at l
  grind
 have an:k.size=c*f.size:=by
  have:=S.1;rw[jg (s c)]at this
  grind
 obtain⟨bu,a8,bi,bn,bp⟩:=AF y E (arr:=k) (cap:=c) (sz:=f.size) (ex:=aq g c) (es:=ao g f.kV) an c5 (by simp_all) (s g) av (by
  rw[jg (s g),List.length_replicate];have:=S.take (g*f.size);rw[uU (s c)]at this;rw[List.take_replicate,cM m]at this;omega)
 refine⟨.slice (some ⟨w.heap.size,0,none⟩) g c,_,bu,.inl ?_,.arr _ 0 0 g false _ _ c bp (az _) m (λ_=>⟨V,V,V⟩),a8,bi,bn⟩;have B:IntKind.i64.wrap (Int.ofNat c)=(c:Int):=IntWalk.i64_in (c:Int) ⟨G,G⟩;have C:IntKind.i64.wrap (Int.ofNat g)=(g:Int):=IntWalk.i64_in (g:Int) ⟨G,G⟩;have t1:¬((f.bytes:Int)*(c:Int)>2^48):=by
  have:((c*f.bytes:Nat):Int)<=70368744177664:=Int.ofNat_le.2 n;rw[Int.mul_comm];omega
 have t2:(decide ((c:Int)<0)||decide ((f.bytes:Int)*(c:Int)>2^48)||decide ((g:Int)<0)||decide ((g:Int)>(c:Int)))=false:=by
  grind
 by_cases j:c*f.size=0;simp only[j,if_true]at v;simp only[execOp,K,Instr.makeSlice,Sem.run_bind,run_underlying I,Result.andThen_ok,R,t,asInt,asIntOf,Sem.run_pure,O,N,B,C,t2,df,if_false,run_askRoom,(j9.ty _ _ r).run_sizeOf,cN,j,if_true,v,newRow,run_newObj];simp only[j,if_false]at v;simp only[execOp,K,Instr.makeSlice,Sem.run_bind,run_underlying I,Result.andThen_ok,R,t,asInt,asIntOf,Sem.run_pure,O,N,B,C,t2,df,if_false,run_askRoom,(j9.ty _ _ r).run_sizeOf,cN,j,aN,v,newRow,run_newObj]
end
end
section
section
variable {P:ai}{cx:Ctx}{base:Nat}{w:World}{μ:Mu}{h h':H}{M:Nat}{e:Env}{a:Act}{o:Oper}{hp hp':af Obj}
def St.Gd(l:St cx base hp μ h){d:Nat}{c:Loc}{b:jI}(i:μ d=D c)(j:h.get d=D b)(k:b.it=false):Df hp μ c b.exact b.gU/\b.ep=c.ep/\b.sz=c.sz:=by have⟨m,f,g⟩:=l.box d c i;rw[j]at f;simp at f;subst f;exact⟨g.plain k,g.ep,g.sz⟩
def Dh(p:St cx base w.heap μ h){f:Nat}{b:Loc}{k:jI}(n:μ f=D b)(u:h.get f=D k)(v:k.it=false){l arr':af am}{i:ab}(B:w.heap[b.jR]? =D (.cells l i (0,0)))
 {ep' O:Nat} {m:Bool} {c:List T} (r:ep'=b.ep\/ep'=b.ep+1) (z:h.put f ⟨k.sz,ep',O,m,false,c⟩=D h') (F:arr'.size=b.cap*b.sz) (A:c.length<=b.cap) (s:m->b.cap=c.length)
 (I:∀j∈c,j.cells.length=b.sz) (E:∀j∈ir c,j.scalar) (q:jc w.heap μ (ir c) (arr'.toList.take (ir c).length)):
 ∃g,St cx base (w.setRow b.jR arr').heap g h'/\sM w μ (w.setRow b.jR arr') g/\BX μ g h.size h'.size/\g f=D ⟨ep',b.jR,b.cap,b.sz⟩:=by
 have⟨Q,R,K⟩:=p.Gd n u v;have y:∀d,d<w.heap.size->d≠b.jR->(w.setRow b.jR arr').heap[d]? =w.heap[d]? :=λd _ x=>setRow_other w b.jR d arr' x;have C:=setRow_heap w b.jR l arr' i (0,0) B;have⟨L,M,N⟩:=p.change (L':=⟨ep',b.jR,b.cap,b.sz⟩) n z V y (by
  rcases r with rfl|rfl;simp;simp) (by
  intro t;refine⟨rfl,K,λ_=>⟨⟨arr',i,C,F,q.ext t⟩,A,s,I,E⟩,λS=>by grind⟩)
 exact⟨_,L,⟨M,rfl,rfl,rfl⟩,N,kx _ _ _⟩
def Ew{j:Type}(b d:List j){o c:Nat}(k:o+d.length<=c)(l:c<=b.length):(b.take o++d++b.drop (o+d.length)).take c=(b.take c).take o++d++(b.take c).drop (o+d.length):=by
 rw[List.take_append,List.take_append];have f:(b.take o).take c=(b.take c).take o:=by rw[List.take_take,List.take_take,Nat.min_comm]
 have g:(b.take o).length=o:=by grind
 have i:(b.take o++d).length=o+d.length:=by grind
 rw[f,g,i]
 grind [bR,List.drop_take]
def TS{b c:T}{g:Nat}{f:List T}(q:∀r∈f,r.scalar)(d:ly b g f=D c):
 g+f.length<=b.cells.length/\c.cells=b.cells.take g++f++b.cells.drop (g+f.length):=by
 by_cases k:∃i,b= .eQ i;obtain⟨i,rfl⟩:=k;have⟨s,l,j⟩:=ed.1 d;simp at j;subst j;exact rf l;have n:b.cells=[b]:=by cases b<;>first|rfl|grind
 have m:g=0/\f=[c]:=by
  unfold ly at d;cases b<;>first|(exact absurd ⟨_,rfl⟩ k)|(simp[]at d;split at d<;>simp at d;subst d;exact⟨rfl,rfl⟩)
 obtain⟨rfl,rfl⟩:=m;have p:=q c V;have:c.cells=[c]:=by cases c<;>simp[T.scalar]at p<;>rfl
 rw[n,this];simp
theorem Kg(j9:jP P cx){t:ab}{x n:ah}(F:St cx base w.heap μ h)(r:mh w.heap μ M e a.tmps)(bZ:o.op= .store t x n){k:T}
 (f:Hh t x n cx M e h=be k h'):j8 cx base w μ h.size ((execOp a.eval o).run P w) k h':=by
 replace f:=ed.1 f;obtain⟨c6,cb,f⟩:=f;replace f:=ed.1 f;obtain⟨p,hp,f⟩:=f;replace f:=ed.1 f;obtain⟨u,b7,f⟩:=f;replace f:=fh.1 f;obtain⟨bT,f⟩:=f;replace f:=ed.1 f;obtain⟨W,b,f⟩:=f;simp at f;obtain⟨rfl,rfl⟩:=f;have cp:=iV F r hp;obtain⟨a7,qs,c1⟩:=(iV F r b7).cells bT;have b6:∃y I c i,p= .eZ y I c i:=by
  unfold H.store at b;cases p<;>first|(exact⟨_,_,_,_,rfl⟩)|(simp at b)
 obtain⟨y,I,c,i,rfl⟩:=b6;unfold H.store at b;replace b:=fh.1 b;obtain⟨E,b⟩:=b;replace b:=ed.1 b;obtain⟨bn,Y,b⟩:=b;obtain⟨a8,K,bi,S,aX,d⟩:=bn;have b:iT (aq K I) (@Bool.rec (λ_=>aa H) (Z (oS d c) λl=>Z (ly l i u.cells) λm=>Z (lQ d c m) λz=>Z (iZ (Nat.succ bi)) λR=>h.put y ⟨a8,K,R,S,false,z⟩) none aX)=D W:=b;replace b:=fh.1 b;obtain⟨an,b⟩:=b;cases aX;have b:(Z (oS d c) λl=>Z (ly l i u.cells) λm=>Z (lQ d c m) λz=>Z (iZ (Nat.succ bi)) λR=>h.put y ⟨a8,K,R,S,false,z⟩)=D W:=b;replace b:=ed.1 b;obtain⟨l,A,b⟩:=b;replace b:=ed.1 b;obtain⟨m,bN,b⟩:=b;replace b:=ed.1 b;obtain⟨z,B,b⟩:=b;simp[jv,fj]at b;rw[mV]at A;have an:=aJ an;have E:=aJ E;rw[kG]at E;rw[mt]at B;split at B;rename_i C;simp at B;subst B;obtain⟨g,c9,b8,X,_,bu⟩:=cp.sZ;obtain⟨q,U,bp⟩:=F.Gd X Y rfl;simp[]at U bp;have bA:=bu G;subst bA;obtain⟨v,c4,av,aE,L⟩:=q.row;have s:=q.size;simp[]at s L;have bX:l∈d:=aD A;obtain⟨bW,ae⟩:=TS qs bN;have di:=s l bX;have bH:d[c]=l:=by rw[aF C]at A;simpa using A
 have N:=jg s;have ap:ir (d.set c m)=(ir d).take (c*g.sz+i)++u.cells++(ir d).drop (c*g.sz+i+u.cells.length):=by
  rw[MF s C,ae];have al:(ir d).drop (c*g.sz)=l.cells++(ir d).drop (c*g.sz+g.sz):=by
   rw[<-cD,sJ s,sJ s,aL C,bH,nU]
  have ht:(ir d).take (c*g.sz+i)=(ir d).take (c*g.sz)++l.cells.take i:=by
   rw[List.take_add,al,dg G]
  have bC:(ir d).drop (c*g.sz+i+u.cells.length)=l.cells.drop (i+u.cells.length)++(ir d).drop (c*g.sz+g.sz):=by
   rw[db,<-du,al,List.drop_append_of_le_length bW]
  rw[ht,bC];simp[aQ]
 have de:c*g.sz+i+u.cells.length<=(ir d).length:=by
  rw[N];have:(c+1)*g.sz<=d.length*g.sz:=bD _ C;rw[cD]at this;omega
 have dd:(ir d).length<=v.size:=by
  rw[N,aE];exact bD _ q.room
 have O:=a7.1;have aN:∀k∈d.set c m,k.cells.length=g.sz:=by
  intro k j;rcases cw j with Q|rfl
  exact s k Q;rw[ae];simp;omega
 have b9:∀k∈ir (d.set c m),k.scalar:=by
  intro k j;rw[ap]at j;rcases List.mem_append.1 j with j|j
  rcases List.mem_append.1 j with j|j;exact q.scalar k (bV j)
  grind
  exact q.scalar k (bQ j)
 have bS:(ir (d.set c m)).length=(ir d).length:=by
  rw[jg aN,N];simp
 have bs:jc w.heap μ (ir (d.set c m)) ((v.toList.take (c*g.sz+i)++(a.eval n).cells.toList++v.toList.drop (c*g.sz+i+(a.eval n).cells.toList.length)).toArray.toList.take (ir (d.set c m)).length):=by
  rw[bS,ap];rw[dG,Ew _ _ G G];rw[<-O];exact((L.take _).append a7).append (L.drop _)
 obtain⟨c7,cv,cL,cX,dk⟩:=Dh F X Y rfl av (.inl U) b (arr':=(v.toList.take (c*g.sz+i)++(a.eval n).cells.toList++v.toList.drop (c*g.sz+i+(a.eval n).cells.toList.length)).toArray)
  (by simp[List.size_toArray,aY,List.length_take,List.length_drop,cY]at O|-;rw[<-aE];omega) (iD q.room) (by intro Q;have:=q.wP Q;grind) aN b9 bs
 refine⟨Go.undef,_,c7,.inr ⟨?_,rfl⟩,.undef,cv,cL,cX⟩;have aA:=run_storeCells_at (P:=P) g.jR (c*g.sz+i) c4 (a.eval n).cells.toList 0 v w av G c1;simp[Nat.add_zero]at aA;have ca:(a.eval n).cells.size=c6.size:=by rw[<-E,O];simp
 simp[execOp,bZ,Instr.storeAt,Sem.run_bind,b8,Instr.sureAddr,Result.andThen_ok,storeVar,(j9.ty _ _ cb).run_sizeOf,ca,ne_eq,aA]
 grind
 simp at b
end
end
section
section
variable {P:ai}{cx:Ctx}{base:Nat}{w:World}{μ:Mu}{h h':H}{M:Nat}{e:Env}{a:Act}{o:Oper}{hp hp':af Obj}
def Qx{g:Nat}{c:List T}(d:fits g c){k:Nat}(i:∀b∈c,b.cells.length=k):∀b∈c,b.cells.length=g:=by rcases c with _|⟨j,c⟩;intro b f;simp at f;have d:aq (m7 j.cells) g:=d;have:=aJ d;rw[kG]at this;have l:=i j V;intro b f;rw[i b f];omega
structure E1(P:ai)(w:World)(μ:Mu)(c:am)(es:List T)(sz:Nat):Prop where
 NA:∀v∈es,v.cells.length=sz
 scalar:∀v∈ir es,v.scalar
 form:∃ad cap news,c= .slice ad es.length cap/\es.length<=cap/\jc w.heap μ (ir es) news/\(∀u∈news,u.oneCell'=true)/\
  ((ad=none/\es=[])\/∃x:Addr,ad=D x/\∀(j:Nat) u,news[j]? =D u->w.cell? (x.add j)=D u)
def jc.JW{b:List T}{c:List am}(d:jc hp μ b c)(l:∀v∈b,v.scalar):∀j∈c,j.oneCell'=true:=by intro j m;obtain⟨k,g,rfl⟩:=List.getElem_of_mem m;have i:k<b.length:=d.1▸g;have⟨n,f,hr⟩:=d.get (k:=k) (v:=b[k]) (by simp[i]);simp[g]at f;subst f;exact uZ hr (l _ (aH i))
def qR(s:St cx base w.heap μ h){F:T}{m:am}{es:List T}(x:iu w.heap μ F m)(c:h.jQ F=D es):∃A,E1 P w μ m es A:=by
 unfold H.jQ at c;cases F<;>simp at c
 
 rename_i al an;subst c;rcases al with _|⟨p,es⟩
 obtain⟨k,rfl⟩:=x.xE;refine⟨0,V,by simp[ir],k,0,[],rfl,az _,jc.nil,V,?_⟩;rcases k with _|y;exact .inl ⟨rfl,rfl⟩;exact .inr ⟨y,rfl,V⟩;obtain⟨I,off,C,A,q,U,fz,rfl,b7,O,bn,bX,bH,bC,aX,hr⟩:=x.xF;have E:∀f∈ir (p::es),f.scalar=true:=λf g=>(aX f g).1;have t:wF w.heap μ I off (ir (p::es)):=⟨⟨q,U,fz,O,bC,hr⟩,E⟩;have r:jc w.heap μ (ir (p::es)) ((q.toList.drop off).take (ir (p::es)).length):=by
  refine⟨dP,λz f g=>?_⟩;have bi:z<(ir (p::es)).length:=by
   rcases aW z (ir (p::es)).length with y|y;exact y;rw[bY y]at g;simp at g
  have:=hr z f g;have bu:off+z<q.size:=G;simpa[List.getD,cP,bi,cC,bu]using this
 refine⟨A,bH,E,some ⟨I,off,none⟩,C,_,rfl,bn,r,r.JW E,.inr ⟨_,rfl,λj u d=>?_⟩⟩;rw[mD];rw[cP]at d;split at d;rw[cu]at d;simp[World.cell?,O];simpa using d;simp at d;subst c;obtain⟨k,C,rfl⟩:=x.D1;refine⟨0,V,by simp[ir],k,C,[],rfl,aB _,jc.nil,V,?_⟩;rcases k with _|y
 exact .inl ⟨rfl,rfl⟩;exact .inr ⟨y,rfl,V⟩;rename_i b Y l i an;replace c:=ed.1 c;obtain⟨W,aN,c⟩:=c;obtain⟨A,ae,b9,bT,S,n⟩:=W;have c:iT (aq ae Y) (@Bool.rec (λ_=>aa (List T)) (Z (kZ l n) λt=>takeN i t) none S)=D es:=c;replace c:=fh.1 c;obtain⟨N,c⟩:=c;cases S;have c:(Z (kZ l n) λt=>takeN i t)=D es:=c;replace c:=ed.1 c;obtain⟨t,hr,c⟩:=c;rw[nV]at hr;split at hr;rename_i b6;simp at hr;subst hr;rw[qh]at c;split at c;rename_i bs;simp at c bs;subst c;obtain⟨B,k,K,rfl,aE,bW,a7,a8⟩:=x.wz;obtain⟨m,ap,av⟩:=s.Gd aE aN rfl;simp[]at ap av;have N:=aJ N;obtain⟨bN,bS,X⟩:=a8 G;obtain⟨q,U,bA,b8,r⟩:=m.row;have v:=m.size;simp[]at v r;have M:=Hu v l i;have Q:((n.drop l).take i).length=i:=dP;have bZ:=jg v;have L:jc w.heap μ (ir ((n.drop l).take i)) (((q.toList.take (ir n).length).drop (l*B.sz)).take (i*B.sz)):=by
  rw[M];exact(r.drop _).take _
 have R:∀f∈ir ((n.drop l).take i),f.scalar:=by
  intro f g;rw[M]at g;exact m.scalar f (bQ (bV g))
 refine⟨B.sz,λf g=>v f (bQ (bV g)),R,k,K,_,by rw[Q],by rw[Q];exact a7,L,L.JW R,?_⟩;by_cases aA:K=0;have bp:i=0:=G;subst bp;rcases k with _|y
 exact .inl ⟨rfl,V⟩;exact .inr ⟨y,rfl,V⟩;refine .inr ⟨_,X aA,λj u d=>?_⟩;rw[mD];rw[cP]at d;split at d;rw[cu,cP]at d;split at d;simp[World.cell?,bA];simpa using d;simp at d;simp at d;simp at c;simp at hr;simp at c
def E1.src{f:am}{c:List T}{d:Nat}(k:E1 P w μ f c d){l m:ab}(j:P.underlying l=D (.slice m)):∃b,Src P d l f c.length b w/\jc w.heap μ (ir c) b:=by
 obtain⟨s,g,b,rfl,t,i,n,p⟩:=k.form;refine⟨b,?_,i⟩;have hl:b.length=c.length*d:=by rw[<-i.1,jg k.NA]
 rcases p with⟨rfl,rfl⟩|⟨r,rfl,q⟩;have:b=[]:=bw (iD hl);subst this;exact Src.ofNil w j g;exact Src.ofSlice w j r c.length g b hl q n
def E1.first{f:am}{c:List T}{d:Nat}(j:E1 P w μ f c d):∃b,(Builtin.firstCells d c.length f).run P w.drew= .ok b.toArray w.drew/\jc w.heap μ (ir c) b:=by
 obtain⟨n,g,b,rfl,q,i,p,k⟩:=j.form;refine⟨b,?_,i⟩;have hl:b.length=c.length*d:=by rw[<-i.1,jg j.NA]
 rcases k with⟨rfl,rfl⟩|⟨m,rfl,l⟩;have:b=[]:=bw (iD hl);subst this;exact run_firstCells_none w.drew d 0 0 g;exact run_firstCells_some w.drew d c.length m c.length g b hl (iD l)
end
end
section
section
variable {P:ai}{cx:Ctx}{base:Nat}{w:World}{μ:Mu}{h h':H}{M:Nat}{e:Env}{a:Act}{o:Oper}{hp hp':af Obj}
structure ZG(P:ai)(w:World)(μ:Mu)(sz:Nat)(tx:ab)(x:am)(xs:List T)(news:List am):Prop where
 src:Src P sz tx x xs.length news w
 rel:jc w.heap μ (ir xs) news
 NA:∀v∈xs,v.cells.length=sz
 scalar:∀v∈ir xs,v.scalar
structure ZE(P:ai)(w:World)(μ:Mu)(sz:Nat)(c:am)(es:List T)(olds:List am):Prop where
 first:(Builtin.firstCells sz es.length c).run P w.drew= .ok olds.toArray w.drew
 rel:jc w.heap μ (ir es) olds
 NA:∀v∈es,v.cells.length=sz
 scalar:∀v∈ir es,v.scalar
def uW(c:af am)(b:Nat):(Builtin.zeroCells c b).size=b*c.size:=by simp[Builtin.zeroCells]
def yI{d f:List T}{c:T->Prop}(i:∀b∈ir d,c b)(j:∀b∈ir f,c b):∀b∈ir (d++f),c b:=by
 intro b g;rw[pG]at g
 grind
def Hq{g f:List am}{i:af am}{b c d:Nat}(j:g.length+f.length=c*d)(k:i.size=d)(l:c<=b):
 ((g++f).toArray++Builtin.zeroCells i (b-c)).size=b*d:=by
 simp[Array.size_append,List.size_toArray,aY,uW,j,k];rw[<-cI]
 grind
def Lh(j9:jP P cx){n p ty' i:ab}{d:Ty}(A:P.underlying n=D (.slice i))(C:cx.ty i=D d){j:aa Addr}{g:Nat}{b c:List T}{m l:List am}{q:am}
 (K:ZE P w μ d.size (.slice j b.length g) b m) (I:ZG P w μ d.size p q c l) (t:g<b.length+c.length) (R:1<=d.bytes) (B:(b.length+c.length)*d.bytes<=70368744177664):
 ∃(f:am) (k:Nat),b.length+c.length<=k/\f.cells.size=d.size/\(Builtin.append_ #[n,p] ty' #[.slice j b.length g,q]).run P w=
  .ok (.slice (some ⟨w.heap.size,0,none⟩) (b.length+c.length) k) {w with drawn:=w.drawn+1,heap:=w.heap.push (.cells ((m++l).toArray++Builtin.zeroCells f.cells (k-(b.length+c.length))) i)}:=by
 have⟨F,L,f,u,M,v,x,N,O,Q,y,z,_⟩:=(j9.ty _ _ C).unfold;have E:f.cells.size=d.size:=by
  have:=(jc.wv (hp:= #[]) (μ:=⟨λ_=>none,λ_=>False⟩) x).1.1
  grind
 have S:b.length+c.length<=70368744177664:=aU (Nat.le_mul_of_pos_right _ G) B;have r:=K.first;have s:=I.src;rw[<-y]at r s;have:=run_append_grow_src w n p ty' i F f A u v j b.length g m r q c.length l s t G (z▸growslice_fits t G);exact⟨f,_,grownCap_ge w _ _ _,E,this⟩
def Ff(j9:jP P cx)(R:St cx base w.heap μ h){x y ty' n:ab}{d:Ty}(B:P.underlying x=D (.slice n))(I:cx.ty n=D d){ad:aa Addr}{cap:Nat}{es c:List T}{s r:List am}{z:am}
 (i:ZE P w μ d.size (.slice ad es.length cap) es s) (g:ZG P w μ d.size y z c r) (C:cap<es.length+c.length) {f:T} (b:h.jK d.size d.bytes es c=D (f,h')):
 ∃t m j,(Builtin.append_ #[x,y] ty' #[.slice ad es.length cap,z]).run P w= .ok t m/\iu m.heap j f t/\St cx base m.heap j h'/\sM w μ m j/\BX μ j h.size h'.size:=by
 unfold H.jK at b;simp only[qt,fj,jv,kG]at b;obtain⟨p,b⟩:=fh.1 b;obtain⟨l,b⟩:=fh.1 b;obtain⟨_,b⟩:=fh.1 b;obtain⟨_,b⟩:=fh.1 b;rw[H.mL]at b;simp only[ay,aI]at b;obtain⟨rfl,rfl⟩:=b;have p:=bG p;have l:(es++c).length*d.bytes<=70368744177664:=bG l;rw[aY]at l;have⟨U,q,u,L,F⟩:=Lh j9 B I (ty':=ty') i g C p l;have v:∀f∈es++c,f.cells.length=d.size:=by
  intro f K;rcases List.mem_append.1 K with k|k
  exact i.NA f k;exact g.NA f k
 have E:s.length+r.length=(es.length+c.length)*d.size:=by
  rw[<-i.rel.1,<-g.rel.1,jg i.NA,jg g.NA,cI]
 have A:jc w.heap μ (ir (es++c)) (((s++r).toArray++Builtin.zeroCells U.cells (q-(es.length+c.length))).toList.take (ir (es++c)).length):=by
  rw[jg v,aY,Array.toList_append,dG,dg c5,bR c5,pG];exact i.rel.append g.rel
 have S:St cx base ({w with drawn:=w.drawn+1}:World).heap μ h:=R;have⟨j,M,N,O,Q⟩:=AF S n (cap:=q) (sz:=d.size) (ex:=false) (es:=es++c) (Hq E L u) c5 V v (yI i.scalar g.scalar) A;rw[aY];exact⟨_,_,j,F,.arr _ 0 0 _ false _ _ q Q (az _) u (λ_=>⟨V,V,V⟩),M,⟨N.ext,rfl,rfl,rfl⟩,O⟩
def TV(j9:jP P cx){n q ty' l:ab}{c:Ty}(v:P.underlying n=D (.slice l))(z:cx.ty l=D c){d b j k:Nat}{g:List am}{r:am}
 (i:Src P c.size q r k g w) (x:b+k<=j) {f:af am} {p:ab} (y:w.heap[d]? =D (.cells f p (0,0))) (N:b*c.size+g.length<=f.size):
 (Builtin.append_ #[n,q] ty' #[.slice (some ⟨d,0,none⟩) b j,r]).run P w= .ok (.slice (some ⟨d,0,none⟩) (b+k) j) (w.setRow d (f.toList.take (b*c.size)++g++f.toList.drop (b*c.size+g.length)).toArray):=by
 have⟨O,A,Q,s,C,E,F,I,K,L,t,M,_⟩:=(j9.ty _ _ z).unfold;have m:=run_storeCells_at (P:=P) d (b*c.size) p g 0 f w y G i.one;simp[Nat.add_zero]at m;have u:(⟨d,0,none⟩:Addr).add (b*c.size)=⟨d,b*c.size,none⟩:=by rw[mD];simp
 rcases i.kind with⟨B,hk⟩|hk<;>simp[Builtin.append_,run_underlying v,run_underlying hk,sizeOf,typeInfo,s,t,i.len,x,i.cells,u,m]
def TW(j9:jP P cx){i k ty' g:ab}{j:Ty}(p:P.underlying i=D (.slice g))(r:cx.ty g=D j){b:aa Addr}{f c:Nat}{l:am}(d:Src P j.size k l 0 [] w)(q:f<=c):
 (Builtin.append_ #[i,k] ty' #[.slice b f c,l]).run P w= .ok (.slice b f c) w:=by
 have⟨C,s,E,m,u,v,x,y,z,A,n,B,_⟩:=(j9.ty _ _ r).unfold;rcases d.kind with⟨t,hk⟩|hk<;>cases b<;>simp[Builtin.append_,run_underlying p,run_underlying hk,sizeOf,typeInfo,m,n,d.len,q,d.cells,storeCells]
def HW(j9:jP P cx)(s:St cx base w.heap μ h){t cL ty' O:ab}{d:Ty}(bW:P.underlying t=D (.slice O))(cp:cx.ty O=D d){E an b:Nat}{f:List T}{m:List am}{F x:am}
 (eh:iu w.heap μ (.arr E an 0 b false) F) (v:ZG P w μ d.size cL x f m) (ee:f≠ []) {l:T} (c:h.oL d.size d.bytes E an b f=D (l,h')):
 ∃bu ae L,(Builtin.append_ #[t,cL] ty' #[F,x]).run P w= .ok bu ae/\iu ae.heap L l bu/\St cx base ae.heap L h'/\sM w μ ae L/\BX μ L h.size h'.size:=by
 unfold H.oL at c;replace c:=ed.1 c;obtain⟨c1,bT,c⟩:=c;obtain⟨bs,ep',cX,ey,cv,g⟩:=c1;have c:(Z (takeN b g) λM=>Z (Ep M f) λbH=>Z (iZ (m7 bH)) λn=>iT (ar 1 d.bytes)<|iT (aq ep' an) (iT (aq bs d.size) (iT (ar (Nat.mul n d.bytes) 70368744177664) (iT (fits d.size f) (@Bool.rec (λ_=>aa (T×H))
  (Z (iZ (Nat.succ ep')) λbC=>Z (iZ (Nat.succ cX)) λeu=>Z (h.put E ⟨bs,bC,eu,false,false,bH⟩) λh'=>some (.arr E bC 0 n false,h')) none cv)))))=D (l,h'):=c
 replace c:=ed.1 c;obtain⟨M,R,c⟩:=c;simp only[qt,fj,jv,kG]at c;replace c:=fh.1 c;obtain⟨aA,c⟩:=c;replace c:=fh.1 c;obtain⟨bX,c⟩:=c;replace c:=fh.1 c;obtain⟨cb,c⟩:=c;replace c:=fh.1 c;obtain⟨W,c⟩:=c;replace c:=fh.1 c;obtain⟨_,c⟩:=c;cases cv;have c:(Z (h.put E ⟨bs,ep'+1,cX+1,false,false,M++f⟩) λh'=>some (T.arr E (ep'+1) 0 (M++f).length false,h'))=D (l,h'):=c;replace c:=ed.1 c;obtain⟨eA,b6,c⟩:=c;simp only[ay,aI]at c;obtain⟨rfl,rfl⟩:=c;have aA:=bG aA;have bX:=aJ bX;have cb:=aJ cb;have W:(M++f).length*d.bytes<=70368744177664:=bG W;rw[aY]at W;rw[qh]at R;split at R;rename_i ea;simp at R;subst R;obtain⟨A,al,r,rfl,av,eC,eB,dk⟩:=eh.wz;obtain⟨F,c6,c7⟩:=s.Gd av bT rfl;simp only[]at c6 c7;obtain⟨_,c4,bA⟩:=dk G;have de:r=A.cap:=iH (c4 rfl);obtain⟨q,eF,a7,ca,bN⟩:=F.row;have N:=F.size;simp only[]at N bN;have C:A.sz=d.size:=G;have p:(g.take b).length=b:=dP;have a8:∀l∈g.take b,l.cells.length=d.size:=λl I=>C▸N l (bV I);have b8:∀l∈ir (g.take b),l.scalar:=by
  intro l I;rw[<-uU N]at I;exact F.scalar l (bV I)
 have X:∀l∈g.take b++f,l.cells.length=A.sz:=by
  intro l I;rw[C];rcases List.mem_append.1 I with k|k
  exact a8 l k;exact v.NA l k
 have b9:=yI b8 v.scalar;have dn:=jg N;have bZ:m.length=f.length*d.size:=by rw[<-v.rel.1,jg v.NA]
 have Q:jc w.heap μ (ir (g.take b)) (q.toList.take (b*A.sz)):=by
  have:=bN.take (b*A.sz);rw[uU N,List.take_take,cM (dn▸bD _ ea)]at this;exact this
 have eE:0<f.length:=List.length_pos_iff.2 ee;by_cases b7:b+f.length<=r
 
 have di:r≠0:=G;have bS:=bA di;simp only[Nat.zero_mul]at bS;subst bS;have dd:b*d.size+m.length<=q.size:=by
  rw[ca,bZ,C,<-cI];exact bD _ G
 have U:=TV (ty':=ty') j9 bW cp v.src b7 a7 dd;have aE:(ir (g.take b++f)).length=b*d.size+m.length:=by
  rw[jg X,aY,p,bZ,C,cI]
 have ap:jc w.heap μ (ir (g.take b++f)) ((q.toList.take (b*d.size)++m++q.toList.drop (b*d.size+m.length)).toArray.toList.take (ir (g.take b++f)).length):=by
  have ht:(q.toList.take (b*d.size)++m).take (b*d.size+m.length)=q.toList.take (b*d.size)++m:=bR dP;rw[aE,dG,dg dP,ht,pG];rw[C]at Q;exact Q.append v.rel
 obtain⟨L,bi,bn,bp,er⟩:=Dh s av bT rfl a7 (ep':=ep'+1) (.inr G) b6 (arr':=(q.toList.take (b*d.size)++m++q.toList.drop (b*d.size+m.length)).toArray)
  (by simp only[List.size_toArray,aY,List.length_take,List.length_drop,cY];rw[<-ca];omega) (by simp[p];omega) V X b9 ap
 refine⟨_,_,L,U,?_,bi,bn,bp⟩;have aN:(g.take b++f).length=b+f.length:=by rw[aY,p]
 rw[aN];exact .arr _ _ 0 _ false _ _ r er (az _) b7 (λ_=>⟨V,by simp[de],V⟩)
 
 have K:∃B,ZE P w μ d.size (.slice al b r) (g.take b) B:=by
  refine⟨q.toList.take (b*A.sz),?_,Q,a8,b8⟩;rw[p];have ec:(q.toList.take (b*A.sz)).length=b*d.size:=by rw[<-Q.1,jg a8,p]
  by_cases c9:r=0;have ds:b=0:=G;subst ds;simp only[Nat.zero_mul,List.take_zero];rcases al with _|y
  exact run_firstCells_none w.drew d.size 0 0 r;exact run_firstCells_some w.drew d.size 0 y 0 r [] V V;rw[bA c9];refine run_firstCells_some w.drew d.size b _ b r _ ec (λj u S=>?_);rw[mD];rw[cP]at S;split at S;show World.cell? w _=_;simp only[World.cell?,a7];simpa using S;simp at S
 obtain⟨B,K⟩:=K;have ef:((g.take b).length+f.length)*d.bytes<=70368744177664:=by rw[<-p]at*;exact W
 have et:ZE P w μ d.size (.slice al (g.take b).length r) (g.take b) B:=by rw[p];exact K
 obtain⟨z,Y,aX,eo,U⟩:=Lh j9 bW cp (ty':=ty') et v (by rw[p];omega) aA ef;rw[p]at U aX;have eb:B.length+m.length=(b+f.length)*d.size:=by
  rw[<-K.rel.1,<-v.rel.1,jg K.NA,jg v.NA,p,cI]
 have aE:(ir (g.take b++f)).length=(b+f.length)*d.size:=by
  rw[jg X,aY,p,C]
 have ap:jc w.heap μ (ir (g.take b++f)) (((B++m).toArray++Builtin.zeroCells z.cells (Y-(b+f.length))).toList.take (ir (g.take b++f)).length):=by
  have ht:(B++m).take ((b+f.length)*d.size)=B++m:=bR dP;rw[aE,Array.toList_append,dG,dg dP,ht,pG];exact K.rel.append v.rel
 have aN:(g.take b++f).length=b+f.length:=by rw[aY,p]
 obtain⟨bi,bn,bp⟩:=s.change (L':=⟨ep'+1,w.heap.size,Y,A.sz⟩) (hp':=w.heap.push (.cells ((B++m).toArray++Builtin.zeroCells z.cells (Y-(b+f.length))) O)) av b6 V
  (by intro i eD _;rw[dE];grind) (.inr ⟨by grind,.inr (az _)⟩) (by
  intro dm;refine⟨rfl,G,λ_=>⟨⟨_,O,V,?_,ap.ext dm⟩,by grind,V,X,b9⟩,λk=>by grind⟩;rw[Hq eb eo aX,C])
 refine⟨_,_,_,U,?_,bi,⟨bn,rfl,rfl,rfl⟩,bp⟩;rw[aN];exact .arr _ _ 0 _ false _ _ Y (kx _ _ _) (az _) aX (λ_=>⟨V,V,V⟩)
 grind
 simp at c
end
end
section
section
variable {P:ai}{cx:Ctx}{base:Nat}{w:World}{μ:Mu}{h h':H}{M:Nat}{e:Env}{a:Act}{o:Oper}{hp hp':af Obj}{p:T}
def uy(cx:Ctx)(base:Nat)(w:World)(μ:Mu)(f:Nat)(g:Result am)(i:T)(h':H):Prop:=
 ∃d b c,g= .ok d b/\iu b.heap c i d/\St cx base b.heap c h'/\sM w μ b c/\BX μ c f h'.size
def uy.pure{b:Result am}{d:T}{c:am}(g:St cx base w.heap μ h)(hr:b= .ok c w)(f:iu w.heap μ d c):uy cx base w μ h.size b d h:=
 ⟨c,w,μ,hr,f,g,sM.refl _ _,BX.refl _ _⟩
def yn(j9:jP P cx){f:ab}{g:Ty}(b:rM cx f=D g):∃c,P.underlying f=D (.slice c)/\cx.ty c=D g:=by have⟨k,i,b⟩:=ed.1 b;have⟨l,m,d⟩:=lN (j9.ty _ _ i);cases j:k.u<;>rw[j]at b d<;>simp at b;have:=nJ d;grind
def CF(b:List Nat):iK (λc=>some (T.int .u8 (.ofNat c))) b=D (b.map λc=>T.int .u8 (.ofNat c)):=by
 induction b with
 |nil=>rfl
 |cons f b d=>rw[kv,d];rfl
def uV(b:List Nat):ir (b.map λc=>T.int .u8 (.ofNat c))=b.map λc=>T.int .u8 (.ofNat c):=by
 induction b with
 |nil=>rfl
 |cons f b d=>rw[aR,nU,d];rfl
def Oq(j9:jP P cx)(S:St cx base w.heap μ h){C:ab}{m:T}{f:am}{j:List T}{i:Nat}(z:iu w.heap μ m f)(b:oz cx h C m=D j)(q:fits i j):
 ∃s,ZG P w μ i C f j s:=by
 obtain⟨U,O,b⟩:=ed.1 b;obtain⟨W,n,r⟩:=lN (j9.ty _ _ O);cases Q:U.u<;>rw[Q]at b r<;>simp at b;have:=uC r;subst this;have K:∃d,m= .str d:=by cases m<;>first|exact⟨_,rfl⟩|(simp at b)
 obtain⟨d,rfl⟩:=K;have b:iK (λf=>some (T.int .u8 (.ofNat f))) d=D j:=b;rw[CF]at b;cases b;obtain⟨rfl,I⟩:=z.mW;rcases d with _|⟨g,d⟩;have A:bytesOf []=ByteArray.empty:=rfl;refine⟨[],⟨⟨.inr n,λZ=>by rfl,?_,?_,V,V⟩,jc.nil,V,by simp[ir]⟩⟩;simp[Builtin.firstCells,A];simp[Builtin.firstCells,A];have N:i=1:=by
  have q:aq 1 i:=q;simp_all
 subst N;have x:=Src.ofString w n (bytesOf (g::d));have v:(bytesOf (g::d)).size=((g::d).map λf=>T.int .u8 (.ofNat f)).length:=by rw[mE];simp
 rw[v]at x;refine⟨_,x,?_,by intro E c;simp only[List.mem_map]at c;obtain⟨_,_,rfl⟩:=c;rfl,by rw[uV];intro E c;simp only[List.mem_map]at c;obtain⟨_,_,rfl⟩:=c;rfl⟩;rw[uV];refine⟨by rw[byteCells_length,v],λB E c=>?_⟩;rw[br]at c;rcases k:(g::d)[B]? with _|t
 rw[k]at c;grind;rw[k]at c;simp at c;subst c;have L:t<256:=I t (aD k);have:(byteCells (bytesOf (g::d)))[B]? =D (.int .u8 (t:Int)):=by
  simp only[byteCells,bytesOf,br,dG,k,dw,kO L]
 rw[List.getD,this];exact .int _ _;rename_i X;have:=nJ r;subst this;obtain⟨Y,l⟩:=qR (P:=P) S z b;have y:=Qx q l.NA;have R:E1 P w μ f j i:=⟨y,l.scalar,l.form⟩;obtain⟨s,M,F⟩:=R.src n;exact⟨s,M,F,y,l.scalar⟩
def ID(g:rI p){b:am}(hp:iu w.heap μ p b):∃f d c,b= .slice f d c/\d<=c:=by
 cases hp<;>simp[rI]at g
 grind
 grind
 grind
 grind
def Bf(j9:jP P cx)(i:St cx base w.heap μ h){I K ty':ab}{N j:T}{c A:am}(hp:iu w.heap μ p c)(a8:iu w.heap μ N A)(b:ju cx h I K p N=be j h'):
 uy cx base w μ h.size ((Builtin.append_ #[I,K] ty' #[c,A]).run P w) j h':=by
 obtain⟨f,bn,b⟩:=ed.1 b;obtain⟨k,bp,b⟩:=ed.1 b;obtain⟨ap,b⟩:=fh.1 b;rw[kl]at b;have⟨bT,C,E⟩:=yn j9 bn;have⟨bs,x⟩:=Oq (P:=P) j9 i a8 bp ap;rcases k with _|⟨n,k⟩
 have b:iT (rI p) (some (p,h))=D (j,h'):=b;have⟨bi,b⟩:=fh.1 b;simp[ay,aI]at b;obtain⟨rfl,rfl⟩:=b;have aX:bs=[]:=bw (by have:=x.src.newsLen;grind);subst aX;obtain⟨ad,g,q,rfl,M⟩:=ID bi hp;exact uy.pure i (TW (ty':=ty') j9 C E x.src M) hp;have a7:n::k≠ []:=V;have bZ:0<(n::k).length:=V;have L:∀{es:List T} {u:Nat},E1 P w μ c es u->(∀ad g q,c= .slice ad g q->q=g)->h.jK f.size f.bytes es (n::k)=D (j,h')->uy cx base w μ h.size ((Builtin.append_ #[I,K] ty' #[c,A]).run P w) j h':=by
  intro es u d ae aN;have aA:fits f.size es:=by
   simp_all[H.jK,kG,jv,fj,qt,fh]
  have v:E1 P w μ c es f.size:=⟨Qx aA d.NA,d.scalar,d.form⟩;have⟨ad,cap,b7,F,M,_⟩:=v.form;have⟨b8,bu,bA⟩:=v.first;subst F;have:=ae _ _ _ rfl;have⟨S,bC,bH,r1,r2,r3,r4,r5⟩:=Ff j9 i C E (ty':=ty') (ad:=ad) (cap:=cap) ⟨bu,bA,v.NA,v.scalar⟩ x G aN;exact⟨S,bC,bH,r1,r2,r3,r4,r5⟩
 have F:(∃es l,p= .em es l)\/∃z s o g l,p= .arr z s o g l:=by
  cases p<;>first|(exact .inl ⟨_,_,rfl⟩)|(exact .inr ⟨_,_,_,_,_,rfl⟩)|(simp[H.append]at b)
 rcases F with⟨es,l,rfl⟩|⟨z,s,y,g,l,rfl⟩;rcases es with _|⟨O,es⟩;have b:h.jK f.size f.bytes [] (n::k)=D (j,h'):=b;obtain⟨ad,rfl⟩:=hp.xE;have⟨u,d⟩:=qR (P:=P) (es:=[]) i hp rfl
 grind
 have b:iT l (h.jK f.size f.bytes (O::es) (n::k))=D (j,h'):=b;have⟨aE,b⟩:=fh.1 b;have⟨u,d⟩:=qR (P:=P) (es:=O::es) i hp rfl;refine L d ?_ b;intro ad g q t;have⟨_,_,_,_,_,_,_,B,_,_,_,av,_⟩:=hp.xF;rw[B]at t;simp at t;have:=av aE;omega;cases l;rcases y with _|y;exact HW j9 i C E (ty':=ty') hp x a7 b
 grind [H.append,absurd]
 have b:(Z (h.jQ (.arr z s y g true)) λes=>h.jK f.size f.bytes es (n::k))=D (j,h'):=b;have⟨es,m,b⟩:=ed.1 b;have⟨u,d⟩:=qR (P:=P) i hp m;refine L d ?_ b;intro ad b6 q t;have⟨Q,bN,bS,B,X,_,_,al⟩:=hp.wz;rw[B]at t;simp at t;have an:s=Q.ep:=by
  unfold H.jQ at m;have⟨R,Y,m⟩:=ed.1 m;obtain⟨b9,W,ca,bW,d,U⟩:=R;have m:iT (aq W s) (@Bool.rec (λ_=>aa (List T)) (Z (kZ y U) λr=>takeN g r) none d)=D es:=m;have bX:=aJ (fh.1 m).1;have:=(i.PN X Y).2
  grind
 have:=(al an).1 rfl;omega
def KS(j9:jP P cx)(Q:St cx base w.heap μ h){R bs:ab}{f:T}{C:am}(hp:iu w.heap μ p C)(c:HU cx h R p=be f h'):
 uy cx base w μ h.size ((Builtin.clear_ #[R] bs #[C]).run P w) f h':=by
 replace c:=ed.1 c;obtain⟨s,cp,c⟩:=c;obtain⟨dn,al,b6⟩:=yn j9 cp;have O:∀{t:aa Addr} {E:Nat},C= .slice t 0 E->f= .undef->h'=h->uy cx base w μ h.size ((Builtin.clear_ #[R] bs #[C]).run P w) f h':=by
  intro t E ae d b8;subst ae d b8;refine uy.pure Q ?_ .undef;cases t<;>simp[Builtin.clear_,run_underlying al]
 cases p<;>simp only[reduceCtorEq]at c;rename_i j bS;rcases j with _|⟨x,j⟩
 simp only[ay,ni.val.injEq]at c;obtain⟨t,rfl⟩:=hp.xE;exact O rfl c.1.symm c.2.symm;simp at c;simp only[ay,ni.val.injEq]at c;obtain⟨t,g,E,ae,L⟩:=ID (p:= .jb) rfl hp;cases hp;exact O rfl c.1.symm c.2.symm;rename_i b bH m g bS;obtain⟨i,t,E,rfl,X,ec,ee,bZ⟩:=hp.wz;rcases g with _|g
 have c:some (ni.val .undef h)=be f h':=c;simp only[ay,ni.val.injEq]at c;exact O rfl c.1.symm c.2.symm;replace c:=ed.1 c;obtain⟨bu,Y,c⟩:=c;obtain⟨sz,S,di,bN,bp,q⟩:=bu;have c:(iT (aq S bH)<|iT (aq sz s.size) (@Bool.rec (λ_=>aa ni)
  (Z (mJ q m (so s.kV (g+1))) λj=>Z (iZ (Nat.succ di)) λdk=>
    Z (h.put b ⟨sz,S,dk,bN,false,j⟩) λh'=>be .undef h') none bp))=be f h':=c
 replace c:=fh.1 c;obtain⟨an,c⟩:=c;replace c:=fh.1 c;obtain⟨aN,c⟩:=c;cases bp;replace c:=ed.1 c;obtain⟨j,r,c⟩:=c;simp only[jv,fj]at c;replace c:=ed.1 c;obtain⟨ds,ca,c⟩:=c;simp only[ay,ni.val.injEq]at c;obtain⟨rfl,rfl⟩:=c;have an:=aJ an;have aN:=aJ aN;obtain⟨n,U,bT⟩:=Q.Gd X Y rfl;simp only[]at U bT;obtain⟨_,_,I⟩:=bZ G;have I:=I G;subst I;obtain⟨v,de,av,aE,F⟩:=n.row;have z:=n.size;simp only[]at z F;obtain⟨B,cv,ef,a7,c6,bi,A,eh,eo⟩:=(j9.ty _ _ b6).zero w;rw[sR]at r;obtain⟨L,r⟩:=rf r;rw[List.length_replicate]at L r;have K:=jg z;have cL:(ir (ao (g+1) s.kV)).length=(g+1)*i.sz:=by
  rw[jg (sz:=i.sz) (by intro f d;rw[bU d,A,bi];omega),List.length_replicate]
 have ap:ir j=(ir q).take (m*i.sz)++ir (ao (g+1) s.kV)++(ir q).drop (m*i.sz+(g+1)*i.sz):=by
  rw[r,pG,pG,uU z,<-cI,sJ z]
 have aX:∀f∈j,f.cells.length=i.sz:=by
  intro f d;rw[r]at d;rcases List.mem_append.1 d with d|d
  rcases List.mem_append.1 d with d|d;exact z f (bV d);rw[bU d,A,bi];omega;exact z f (bQ d)
 have cb:∀f∈ir j,f.scalar:=by
  intro f d;rw[ap]at d;rcases List.mem_append.1 d with d|d
  rcases List.mem_append.1 d with d|d;exact n.scalar f (bV d);obtain⟨y,N,d⟩:=List.mem_flatMap.1 d;rw[bU N,A]at d;exact c6 f d;exact n.scalar f (bQ d)
 have M:j.length=q.length:=by rw[r];simp;omega
 have b7:(ir j).length=(ir q).length:=by rw[jg aX,K,M]
 have ea:(ir q).length<=v.size:=by
  rw[K,aE];exact bD _ n.room
 have eb:m*i.sz+(g+1)*i.sz<=(ir q).length:=by
  rw[K,<-cI];exact bD _ L
 have bn:B.cells.size=i.sz:=by have:=(a7 w.heap μ).1;simp only[cY]at this;omega
 have c4:∃l:List am,(Builtin.zeroCells B.cells (g+1)).toList=l/\l.length=(g+1)*i.sz/\jc w.heap μ (ir (ao (g+1) s.kV)) l:=by
  have bX:jc w.heap μ (ir (ao (g+1) s.kV)) (Builtin.zeroCells B.cells (g+1)).toList:=by
   by_cases W:B.cells.size=0;have bA:ir (ao (g+1) s.kV)=[]:=bw (by rw[cL,<-bn,W];simp);have bC:(Builtin.zeroCells B.cells (g+1)).toList=[]:=bw (by rw[cY,uW,W];simp);rw[bA,bC];exact jc.nil;rw[Builtin.zeroCells,DC (g+1) G,vD,A];exact(a7 _ _).replicate (g+1)
  exact⟨_,rfl,by rw[cY,uW,bn],bX⟩
 obtain⟨l,cX,c1,a8⟩:=c4;have b9:∀u∈l,u.oneCell':=a8.JW (by
  intro f d;obtain⟨y,N,d⟩:=List.mem_flatMap.1 d;rw[bU N,A]at d
  grind)
 have bW:jc w.heap μ (ir j) ((v.toList.take (m*i.sz)++l++v.toList.drop (m*i.sz+l.length)).toArray.toList.take (ir j).length):=by
  rw[b7,ap];rw[dG,Ew _ _ G G];rw[c1];exact((F.take _).append a8).append (F.drop _)
 obtain⟨dm,c7,c9,dd,er⟩:=Dh Q X Y rfl av (.inl U) ca (arr':=(v.toList.take (m*i.sz)++l++v.toList.drop (m*i.sz+l.length)).toArray)
  (by simp only[List.size_toArray,aY,List.length_take,List.length_drop,cY];rw[<-aE];omega) (M▸n.room) (by intro k;have:=n.wP k;simp only at this;rw[M];omega) aX cb bW
 refine⟨.tuple #[],_,dm,?_,.undef,c7,c9,dd⟩;have aA:=run_storeCells_at (P:=P) i.jR (m*i.sz) de l 0 v w av G b9;simp only[Nat.add_zero]at aA;simp[Builtin.clear_,run_underlying al,cv,cX,aA];simp at c
end
end
section
section
variable {P:ai}{cx:Ctx}{base:Nat}{w:World}{μ:Mu}{h h':H}{M:Nat}{e:Env}{a:Act}{o:Oper}{hp hp':af Obj}{p:T}
def St.grow(c:St cx base hp μ h)(l:hp.size<=hp'.size)(j:∀b,b<hp.size->hp'[b]? =hp[b]?):St cx base hp' μ h/\Ext hp μ hp' μ:=by have g:Ext hp μ hp' μ:=⟨l,λb i t=>⟨j b i,t⟩,λk f d=>⟨f,d,.inl rfl⟩,rfl,λb i _=>j b i⟩;refine⟨⟨c.wf,iH c.fit,λk f d=>?_,c.inj,c.low,c.apart,λb hr=>bO (c.uv b hr) l,λn m s=>(c.CO n m s).ext g⟩,g⟩;have⟨u,q,r⟩:=c.box k f d;exact⟨u,q,r.ext g (j _ (c.lt d))⟩
theorem KP(j9:jP P cx){C y:ab}{O:ah}(x:St cx base w.heap μ h)(r:mh w.heap μ M e a.tmps)(aN:o.op= .convert C y O){k:T}
 (B:∃F,cx.ty C=D F) (hp:iG cx M e O=D p) (b:HR cx y p=D k) (ap:h'=h):j8 cx base w μ h.size ((execOp a.eval o).run P w) k h':=by
 subst ap;obtain⟨bZ,B⟩:=B;obtain⟨bS,Y,_⟩:=lN (j9.ty _ _ B);replace b:=ed.1 b;obtain⟨F,bs,b⟩:=b;obtain⟨d,W,K⟩:=lN (j9.ty _ _ bs);have bC:=iV x r hp;cases bu:F.u<;>rw[bu]at b K<;>simp only[reduceCtorEq]at b;rename_i q;have:=nJ K;subst this;have al:∃c,p= .str c:=by cases p<;>first|exact⟨_,rfl⟩|(simp at b)
 obtain⟨c,rfl⟩:=al;have b:(Z (cx.ty q) λE=>(match E.u with
  | .int l=>iT (H9 l .u8) (@List.rec Nat (λ_=>aa T) (some .jb) (λ_ _ _=>Z (iK (λg=>some (T.int .u8 (.ofNat g))) c) λz=>some (.em z false)) c)
  |_=>none))=D k:=b
 replace b:=ed.1 b;obtain⟨E,bp,b⟩:=b;obtain⟨bN,X,N⟩:=lN (j9.ty _ _ bp);cases bA:E.u<;>rw[bA]at b N<;>simp only[reduceCtorEq]at b;rename_i l;replace b:=fh.1 b;obtain⟨s,b⟩:=b;rw[BH]at s;subst s;have:=Ap N;subst this;obtain⟨Q,R⟩:=bC.mW
 let m:=(bytesOf c).size
 have A:∃n j,m<=n/\(execOp a.eval o).run P w= .ok (.value (.slice (some ⟨w.heap.size,0,none⟩) m n)) j/\j.heap.size=w.heap.size+1/\(∀t,t<w.heap.size->j.heap[t]? =w.heap[t]?)/\
  j.os=w.os/\j.tape=w.tape/\j.output=w.output/\∃fz,j.heap[w.heap.size]? =D (.cells ((bytesOf c).data.map (λi=>Value.int .u8 i.toNat)++Array.replicate (n-m) (.int .u8 0)) q fz):=by
  refine⟨grownCap w m 0 q,Lib.bytesWorld w q (bytesOf c),grownCap_ge w _ _ _,?_,Lib.bytesWorld_size _ _ _,λt av=>Lib.bytesWorld_at_old _ _ _ t av,rfl,rfl,rfl,_,Lib.bytesWorld_at_new _ _ _⟩;simp only[execOp,aN,Sem.run_bind,Q,Lib.run_convert_string_bytes w C y q (bytesOf c) Y W X,Result.andThen_ok,Sem.run_pure];rfl
 obtain⟨n,j,bT,A,bX,bi,aX,a7,a8,fz,S⟩:=A;obtain⟨bH,ae⟩:=x.grow (hp':=j.heap) G bi;have I:m=c.length:=mE c;refine⟨_,j,μ,.inl A,?_,bH,⟨ae,aX,a7,a8⟩,BX.refl _ _⟩;rcases c with _|⟨i,c⟩;have b:some T.jb=D k:=b;simp at b;subst b;rw[I];exact .jb _ _;have b:(Z (iK (λg=>some (T.int .u8 (.ofNat g))) (i::c)) λz=>some (T.em z false))=D k:=b;rw[CF]at b;simp only[fj,ay]at b;subst b;have aE:¬pV μ w.heap.size:=by
  rintro(⟨g,L,U,hl⟩|hr);have:=x.lt U;omega;have:=x.uv _ hr;omega
 have aA:m=(c.map λg=>T.int .u8 (.ofNat g)).length+1:=by rw[I];simp
 rw[aA];refine .em (T.int .u8 (.ofNat i)) (c.map λg=>T.int .u8 (.ofNat g)) false w.heap.size 0 n 1 _ q fz aE S G V ?_ ?_ ?_ ?_;intro k b;rw[<-aR (f:=λg=>T.int .u8 (.ofNat g))]at b;obtain⟨g,_,rfl⟩:=List.mem_map.1 b;rfl;rw[<-aR (f:=λg=>T.int .u8 (.ofNat g)),uV];simp[bytesOf];rw[<-aR (f:=λg=>T.int .u8 (.ofNat g)),uV];intro k b;obtain⟨g,_,rfl⟩:=List.mem_map.1 b;exact⟨rfl,.int _ _⟩;rw[<-aR (f:=λg=>T.int .u8 (.ofNat g)),uV];intro l k b;rw[br]at b;rcases s:(i::c)[l]? with _|v
 rw[s]at b;grind;rw[s]at b;simp at b;subst b;have bn:v<256:=R v (aD s);have bW:l<(i::c).length:=by
  grind
 have an:((bytesOf (i::c)).data.map (λi=>Value.int .u8 i.toNat)++Array.replicate (n-m) (.int .u8 0))[0+l]? =D (.int .u8 (v:Int)):=by
  rw[dc,Array.getElem?_append_left (by grind [bytesOf]),Array.getElem?_map];have:(bytesOf (i::c)).data[l]? =D (UInt8.ofNat v):=by
   grind [bytesOf]
  rw[this];simp[kO bn]
 rw[cC,an];exact .int _ _
def Pp(j9:jP P cx)(g:St cx base w.heap μ h){l:af ab}{y:ab}{k q:T}{m:am}(i:iu w.heap μ k m)(b:Td cx h l.toList k=be q h'):
 uy cx base w μ h.size ((Builtin.len_ l y #[m]).run P w) q h':=by
 replace b:=ed.1 b;obtain⟨v,ht,b⟩:=b;replace b:=ed.1 b;obtain⟨x,s,b⟩:=b;obtain⟨A,f,j⟩:=lN (j9.ty _ _ s);have ht:l[0]? =D v:=by rw[mV]at ht;grind
 cases t:x.u<;>rw[t]at b j<;>simp[reduceCtorEq]at b;have:=uC j;subst this;cases k<;>simp at b;obtain⟨c,rfl⟩:=iM.1 b;simp at c;subst c;obtain⟨d,_⟩:=i.mW;exact uy.pure g (by simp[Builtin.len_,ht,run_underlying f,d,mE,goInt]) (.int _ _);have:=nJ j;subst this;cases k<;>simp at b;obtain⟨c,rfl⟩:=iM.1 b;simp at c;subst c;rename_i n B;rcases n with _|⟨C,n⟩;obtain⟨r,d⟩:=i.xE;exact uy.pure g (by simp[Builtin.len_,ht,run_underlying f,d,goInt]) (.int _ _);obtain⟨_,_,_,_,_,_,_,d,_⟩:=i.xF;exact uy.pure g (by simp[Builtin.len_,ht,run_underlying f,d,goInt]) (.int _ _);obtain⟨c,rfl⟩:=iM.1 b;simp at c;subst c;obtain⟨r,z,d⟩:=i.D1;exact uy.pure g (by simp[Builtin.len_,ht,run_underlying f,d,goInt]) (.int _ _);obtain⟨c,rfl⟩:=iM.1 b;simp at c;subst c;obtain⟨_,_,_,d,_⟩:=i.wz;exact uy.pure g (by simp[Builtin.len_,ht,run_underlying f,d,goInt]) (.int _ _);have:=uN j;subst this;obtain⟨c,rfl⟩:=iM.1 b;simp at c;subst c;exact uy.pure g (by simp[Builtin.len_,ht,run_underlying f,goInt]) (.int _ _)
theorem Ix(j9:jP P cx)(u:St cx base w.heap μ h)(r:mh w.heap μ M e a.tmps){c:Call}{I:Builtin}(aE:o.op= .call c)(av:c.callee= .builtin I){n:List T}(ap:tM cx M e c.args.toList=D n){v:T}
 (b:ng I cx h c.argTypes.toList n=be v h'):j8 cx base w μ h.size ((execOp a.eval o).run P w) v h':=by
 have d:=zJ u r ap;have S:∀{m:Sem am},(execOp a.eval o).run P w=((m.run P w).andThen λv U=> .ok (Next.value v) U)->uy cx base w μ h.size (m.run P w) v h'->j8 cx base w μ h.size ((execOp a.eval o).run P w) v h':=by
  intro m hr aA;obtain⟨z,U,aN,Y,Z,ae,al,an⟩:=aA;exact⟨z,U,aN,.inl (by rw[hr,Y];rfl),Z,ae,al,an⟩
 have A:(execOp a.eval o).run P w=(builtin I c.argTypes o.type (c.args.map λ| .const _=>true|_=>false) (c.args.map a.eval)).run P w:=by
  simp[execOp,aE,resolve,av,invoke];rfl
 have y:(c.args.map a.eval).toList=c.args.toList.map a.eval:=V;cases I<;>simp only[ng,reduceCtorEq]at b
 case len=>
  match n,b,d with
  | [L],b,d=>
   obtain⟨g,t,f,l,k⟩:=d.om;have j:t=[]:=bw (by have:=k.1;grind);subst j;have i:c.args.map a.eval= #[g]:=by apply cQ;rw[y,f]
   refine S (m:=Builtin.len_ c.argTypes o.type #[g]) ?_ (Pp j9 u l b);rw[A,i];simp[builtin]
 case append=>
  match n,b,d with
  | [L,X],b,d=>
   match Q:c.argTypes.toList,b with
   | [F,W],b=>
    obtain⟨g,t,f,l,k⟩:=d.om;obtain⟨K,x,rfl,C,B⟩:=k.om;have j:x=[]:=bw (by have:=B.1;grind);subst j;have i:c.args.map a.eval= #[g,K]:=by apply cQ;rw[y,f]
    have O:c.argTypes= #[F,W]:=by apply cQ;rw[Q]
    refine S (m:=Builtin.append_ #[F,W] o.type #[g,K]) ?_ (Bf j9 u l C b);rw[A,i,O];simp[builtin]
 case clear=>
  match n,b,d with
  | [L],b,d=>
   match Q:c.argTypes.toList,b with
   | [F],b=>
    obtain⟨g,t,f,l,k⟩:=d.om;have j:t=[]:=bw (by have:=k.1;grind);subst j;have i:c.args.map a.eval= #[g]:=by apply cQ;rw[y,f]
    have O:c.argTypes= #[F]:=by apply cQ;rw[Q]
    refine S (m:=Builtin.clear_ #[F] o.type #[g]) ?_ (KS j9 u l b);rw[A,i,O];simp[builtin]
 case min=>
  match n,b,d with
  | [L,X],b,d=>
   obtain⟨R,rfl⟩:=iM.1 b;obtain⟨E,m,s,rfl,rfl,q⟩:=yj R;obtain⟨g,t,f,l,k⟩:=d.om;obtain⟨K,x,rfl,C,B⟩:=k.om;have j:x=[]:=bw (by have:=B.1;grind);subst j;rw[l.kS,C.kS]at f;have i:c.args.map a.eval= #[.int E m,.int E s]:=by apply cQ;rw[y,f]
   rw[rn]at q;cases q;refine j8.pure u ?_ (.int _ _);rw[A,i];simp only[builtin,Builtin.min_,List.foldlM,Builtin.min2,Sem.run_bind,Sem.run_pure,Result.andThen_ok];have:=BD s m;by_cases N:s<m<;>simp[this,N]
 case max=>
  match n,b,d with
  | [L,X],b,d=>
   obtain⟨R,rfl⟩:=iM.1 b;obtain⟨E,m,s,rfl,rfl,q⟩:=yj R;obtain⟨g,t,f,l,k⟩:=d.om;obtain⟨K,x,rfl,C,B⟩:=k.om;have j:x=[]:=bw (by have:=B.1;grind);subst j;rw[l.kS,C.kS]at f;have i:c.args.map a.eval= #[.int E m,.int E s]:=by apply cQ;rw[y,f]
   rw[rn]at q;cases q;refine j8.pure u ?_ (.int _ _);rw[A,i];have:=BD m s;by_cases N:m<s<;>simp[builtin,Builtin.max_,Builtin.max2,this,N]
end
end
end
noncomputable section
open Go.MapKept
section
def M3{c b:List Nat}(g:∀d∈c,d<256)(ht:∀d∈b,d<256)(h:bytesOf c=bytesOf b):c=b:=by
 have:=bytes_beq g ht;rw[h]at this;have f:(bytesOf b==bytesOf b):=by rw[bytes_beq ht ht,BL];simp
 rw[f,BL]at this;simpa using this.symm
section
variable {P:ai}{cx:Ctx}{base:Nat}{w:World}{μ:Mu}{h h':H}{M:Nat}{e:Env}{a:Act}{o:Oper}{hp hp':af Obj}{p:T}
theorem Hk(j9:jP P cx){d:ab}{c:aa ah}(q:St cx base w.heap μ h)(g:o.op= .makeMap d c){f:T}
 (b:xI d c cx M e h=be f h'):j8 cx base w μ h.size ((execOp a.eval o).run P w) f h':=by
 unfold xI at b;rcases c with _|x
 dsimp at b
 obtain⟨r,t,b⟩:=ed.1 b;cases i:r.u<;>rw[i]at b<;>simp[reduceCtorEq]at b;rw[kl,H.mL]at b;simp[ay,aI]at b;obtain⟨rfl,rfl⟩:=b;have⟨l,m,n⟩:=q.new (.map #[] 0) ⟨0,w.heap.size,0,0⟩ ⟨0,0,0,true,true,[]⟩ rfl (by
  intro s;refine⟨rfl,rfl,V,λ_=>⟨rfl,.inr (.inl ⟨#[],V,rfl,V⟩)⟩⟩)
 refine⟨.map (some w.heap.size),{w with heap:=w.heap.push (.map #[] 0)},_,.inl ?_,.map _ _ _ (kx _ _ _) (λ_=>rfl),l,⟨m,rfl,rfl,rfl⟩,n⟩;simp[execOp,g,Instr.makeMap];simp at b
def I8{d:U}{c:T}(b:EP d c):d= .str/\∃f,c= .str f:=by
 unfold EP at b;split at b<;>try simp at b
 split at b<;>simp_all
def ZD(hp:af Obj)(μ:Mu)(g:List T)(c:List MapEntry):Prop:=
 g.length=c.length/\∀(d:Nat) j,g[d]? =D j->∃f i b,j= .tuple [f,i]/\c[d]? =D b/\iu hp μ f b.key/\iu hp μ i b.val
def A7{j:List Nat}(M:∀x∈j,x<256):∀(k:List T) (g:List MapEntry) (f:Nat) (i:aa (Nat×T)),
 ZD hp μ k g->rJ .str (.str j) k f=D i->
 (i=none/\Instr.findNow .string (.string (bytesOf j)) g f=D none)\/∃n q l,i=D (f+n,q)/\Instr.findNow .string (.string (bytesOf j)) g f=D (some (f+n,l.val))/\g[n]? =D l/\iu hp μ q l.val/\l.key= .string (bytesOf j):=by
 intro k;induction k with
 |nil=>
  intro g f i m c;have L:g=[]:=bw m.1.symm;subst L;have c:some none=D i:=c;simp only[ay]at c;exact .inl ⟨c.symm,rfl⟩
 |cons x k R=>
  intro g f i m c;obtain⟨z,v,l,rfl,r,F,I⟩:=m.2 0 x V;have c:(Z (rL .str (.str j) z) λu=> @Bool.rec (λ_=>aa (aa (Nat×T))) (Z (iZ (Nat.succ f)) λQ=>rJ .str (.str j) k Q) (some (some (f,v))) u)=D i:=c;replace c:=ed.1 c;obtain⟨u,ht,c⟩:=c;cases z<;>simp only[rL,reduceCtorEq]at ht;rename_i W;obtain⟨y,E⟩:=F.mW;simp only[ay,BL]at ht;rcases g with _|⟨A,g⟩
  simp at r;simp at r;subst r;obtain⟨C,t,B⟩:=sameNow_of_keys (d:= .string) (a:= .string (bytesOf j)) (b:=A.key) (by simp[IsKey]) (by rw[y];simp[IsKey]);have N:C=u:=by
   rw[bI,B,y,<-ht];simp only[beq_iff_eq,Value.string.injEq];exact⟨λs=>M3 M E s,λs=>by rw[s]⟩
  subst N;cases C;have c:rJ .str (.str j) k (f+1)=D i:=iD c;have K:ZD hp μ k g:=⟨by have:=m.1;simpa using this,λS U O=>by
   have:=m.2 (S+1) U (iD O);simpa using this⟩
  rcases R g (f+1) i K c with⟨r1,r2⟩|⟨n,q,l,r1,r2,r3,r4,r5⟩;exact .inl ⟨r1,by simp[Instr.findNow,t,r2]⟩;refine .inr ⟨n+1,q,l,by rw[r1];congr 2;omega,?_,iD r3,r4,r5⟩;simp only[Instr.findNow,t,r2];congr 3;omega;have c:some (some (f,v))=D i:=c;simp only[ay]at c;exact .inr ⟨0,v,A,c.symm,by simp[Instr.findNow,t],rfl,I,(B.1 rfl).symm⟩
def Nj.afD{L:Loc}{j:List T}{i:af MapEntry}(q:i.size=j.length)
 (r:∀(c:Nat) g,j[c]? =D g->∃d f b,g= .tuple [d,f]/\i[c]? =D b/\b.born=c/\iu hp μ d b.key/\iu hp μ f b.val):ZD hp μ j i.toList:=
 ⟨by simp[q],λc g s=>by
   have⟨d,f,b,k,l,t,m,n⟩:=r c g s;exact⟨d,f,b,k,iD l,m,n⟩⟩
def CQ{j:U}{i:T}{b:List T}{g:Nat}{d:aa (Nat×T)}(f:rJ j i b g=D d):Ft b=true:=by
 rcases b with _|⟨k,b⟩;rfl;cases k with
 |tuple l=>rfl
 |_=>exact absurd f (by intro c;have c:(none:aa (aa (Nat×T)))=D d:=c;simp at c)
def St.mapOf(s:St cx base hp μ h){f:Nat}{c:Loc}{b:jI}(l:μ f=D c)(m:h.get f=D b)(n:b.it)(d:Ft b.gU):
 c.ep=0/\b.ep=0/\Nj hp μ c b.gU:=by
 have⟨z,g,k⟩:=s.box f c l;rw[m]at g;cases g;have⟨j,q⟩:=k.iter n;refine⟨k.ep▸j,j,?_⟩;rcases q with⟨y,r,i,_⟩|hm|⟨v,u,r,x,t,i,_⟩;rw[i]at d;simp[Ft]at d;exact hm;rw[i]at d;simp[Ft]at d
def PI{f:Ty}{c:TypeDesc}{d e:ab}(b:Dl P c=D f.u)(g:f.u= .map d e):c= .map d e:=by
 rw[g]at b;cases c<;>simp only[Dl]at b<;>first
  |(simp only[ay,reduceCtorEq]at b;done)
  |(simp only[ay,U.map.injEq]at b;obtain⟨rfl,rfl⟩:=b;rfl)
  |(split at b<;>simp at b)
theorem Is(j9:jP P cx){U:ab}{m s:ah}{y:Bool}(l:St cx base w.heap μ h)(S:mh w.heap μ M e a.tmps)(bi:o.op= .lookup U m s y){W:T}
 (b:wA U m s y cx M e h=be W h'):j8 cx base w μ h.size ((execOp a.eval o).run P w) W h':=by
 replace b:=ed.1 b;obtain⟨bX,bu,b⟩:=b;obtain⟨d,av,bA⟩:=lN (j9.ty _ _ bu);cases O:bX.u<;>rw[O]at b<;>simp only[reduceCtorEq]at b;rename_i kt b8;have:=PI bA O;subst this;replace b:=ed.1 b;obtain⟨c4,bs,b⟩:=b;replace b:=ed.1 b;obtain⟨c1,bp,b⟩:=b;replace b:=ed.1 b;obtain⟨p,hp,b⟩:=b;replace b:=ed.1 b;obtain⟨k,a7,b⟩:=b;replace b:=fh.1 b;obtain⟨a8,b⟩:=b;replace b:=ed.1 b;obtain⟨E,c,b⟩:=b;replace b:=ed.1 b;obtain⟨bW,v,b⟩:=b;cases y with
 |true=>simp at b
 |false=>
 obtain⟨Q,rfl⟩:=iM.1 b;cases Q;obtain⟨bZ,I,N⟩:=lN (j9.ty _ _ bs);obtain⟨bT,cL,rfl⟩:=I8 a8;rw[bT]at N v;have:=uC N;subst this;have r:=iV l S hp;obtain⟨C,X⟩:=(iV l S a7).mW;obtain⟨z,R,bC,_⟩:=(j9.ty _ _ bp).zero w;have aE:∃f:af MapEntry,ZD w.heap μ E f.toList/\
  ((a.eval m= .map none/\f= #[])\/∃g B,a.eval m= .map (some g)/\w.heap[g]? =D (.map f B)):=by
  unfold H.entries at c;cases p<;>simp only[reduceCtorEq]at c;rename_i A;replace c:=ed.1 c;obtain⟨Y,ap,c⟩:=c;obtain⟨cX,b7,c7,b9,cp,b6⟩:=Y;replace c:=fh.1 c;obtain⟨aX,c⟩:=c;cases c;obtain⟨L,g,n,an,aN⟩:=r.Qq;obtain⟨l0,_,f,bH,bN,bS⟩:=l.mapOf an ap aX (CQ v);exact⟨f,Nj.afD (L:=L) bN bS,.inr ⟨g,f.size,n,aN l0▸bH⟩⟩;cases c;exact⟨#[],⟨rfl,V⟩,.inl ⟨r.VM,rfl⟩⟩
 obtain⟨f,al,aA⟩:=aE;have x:∀i:aa (Nat×am),Instr.findNow .string (a.eval s) f.toList 0=D i->
  (execOp a.eval o).run P w= .ok (.value (match i with|some q=>q.2|none=>z)) w:=by
  intro i bn;have F:=λA=>run_checkKey (P:=P) (w:=w) I (k:=a.eval s) (by rw[C];simp[IsKey]) A 9999;have K:=run_findKey (P:=P) (w:=w) (kt:=kt) I bn;rcases aA with⟨n,rfl⟩|⟨g,B,n,Z⟩<;>simp only[execOp,bi,Instr.lookup,Sem.run_bind,run_underlying av,Result.andThen_ok,n,Sem.run_pure,F,K];rotate_left
  simp only[Go.MapKept.run_getObj_map (P:=P) Z,Sem.run_bind,Result.andThen_ok,Sem.run_pure,F,K];cases i<;>simp only[Sem.run_bind,R,Result.andThen_ok,Sem.run_pure]<;>rfl;cases i<;>simp only[Sem.run_bind,R,Result.andThen_ok,Sem.run_pure]<;>rfl
 rw[C]at x;rcases A7 X E f.toList 0 bW al v with⟨rfl,t⟩|⟨j,c6,cv,rfl,t,ca,ae,cb⟩
 exact j8.pure l (x none t) (bC _ _);exact j8.pure l (x _ t) ae
theorem D5(j9:jP P cx){t:ab}{A l K:ah}(y:St cx base w.heap μ h)(r:mh w.heap μ M e a.tmps)(bs:o.op= .mapUpdate t A l K){i:T}
 (b:qG t A l K cx M e h=be i h'):j8 cx base w μ h.size ((execOp a.eval o).run P w) i h':=by
 replace b:=ed.1 b;obtain⟨ef,dk,b⟩:=b;obtain⟨d,a8,dm⟩:=lN (j9.ty _ _ dk);cases bH:ef.u<;>rw[bH]at b<;>simp only[reduceCtorEq]at b;rename_i kt er;have:=PI dm bH;subst this;replace b:=ed.1 b;obtain⟨eE,di,b⟩:=b;replace b:=ed.1 b;obtain⟨p,hp,b⟩:=b;replace b:=ed.1 b;obtain⟨k,cp,b⟩:=b;replace b:=ed.1 b;obtain⟨W,c7,b⟩:=b;replace b:=fh.1 b;obtain⟨cv,b⟩:=b;replace b:=fh.1 b;obtain⟨ey,b⟩:=b;have c4:∃N,p= .map N:=by cases p<;>first|exact⟨_,rfl⟩|(simp at b)
 obtain⟨N,rfl⟩:=c4;simp only at b;replace b:=ed.1 b;obtain⟨bX,aX,b⟩:=b;obtain⟨eD,eo,eI,et,eA,m⟩:=bX;simp only at b;replace b:=fh.1 b;obtain⟨cb,b⟩:=b;replace b:=ed.1 b;obtain⟨ee,an,b⟩:=b;simp only[jv,fj]at b;replace b:=ed.1 b;obtain⟨Q,f,b⟩:=b;replace b:=ed.1 b;obtain⟨b8,c6,b⟩:=b;simp only[ay,ni.val.injEq]at b;obtain⟨rfl,rfl⟩:=b;obtain⟨eh,bi,bC⟩:=lN (j9.ty _ _ di);obtain⟨ec,bS,rfl⟩:=I8 cv;rw[ec]at bC an;have:=uC bC;subst this;have ap:=iV y r hp;have al:=iV y r cp;obtain⟨X,bW⟩:=al.mW;have bu:=iV y r c7;obtain⟨L,s,aN,R,S⟩:=ap.Qq;obtain⟨l0,bT,n,aA,I,O⟩:=y.mapOf R aX cb (CQ an);simp only at bT I O;have ca:=Nj.afD (L:=L) I O;have S:=S l0;subst S;have b9:=y.lt R;obtain⟨eK,av,bN⟩:=y.box N L R;rw[aX]at av;cases av;have bA:∀U:Obj,(setObj L.jR U).run P w= .ok () {w with heap:=w.heap.setIfInBounds L.jR U}:=λU=>Go.MapKept.run_setObj_map (P:=P) U aA;have a7:=λN=>run_checkKey (P:=P) (w:=w) bi (k:=a.eval l) (by rw[X];simp[IsKey]) N 9999;have fin:∀{esM':af MapEntry},esM'.size=Q.length->
  (∀(s:Nat) A,Q[s]? =D A->∃k i c,A= .tuple [k,i]/\esM'[s]? =D c/\c.born=s/\iu w.heap μ k c.key/\iu w.heap μ i c.val)->
  (execOp a.eval o).run P w= .ok .skip {w with heap:=w.heap.setIfInBounds L.jR (.map esM' esM'.size)}->j8 cx base w μ h.size ((execOp a.eval o).run P w) .undef b8:=by
  intro esM' cL c9 dd;obtain⟨ds,ea,eb⟩:=y.change (L':=L) (hp':=w.heap.setIfInBounds L.jR (.map esM' esM'.size)) R c6 V (by
   intro s S c1;rw[Array.getElem?_setIfInBounds_ne (bE c1)]) (.inl rfl) (by
   intro bn;refine⟨bN.ep,bN.sz,V,λ_=>⟨bT,.inr (.inl ⟨esM',by simp[b9],cL,λs A ap=>?_⟩)⟩⟩;obtain⟨k,i,c,B,j,q,C,E⟩:=c9 s A ap;exact⟨k,i,c,B,j,q,C.ext bn,E.ext bn⟩)
  exact⟨Go.undef,_,_,.inr ⟨dd,rfl⟩,.undef,ds,⟨ea,rfl,rfl,rfl⟩,eb⟩
 rcases A7 bW m n.toList 0 ee ca an with⟨rfl,Y⟩|⟨v,eF,c,rfl,Y,b6,eu,b7⟩<;>rw[<-X]at Y<;>have ae:=run_findKey (P:=P) (w:=w) (kt:=kt) bi Y;replace f:Ep m [.tuple [.str bS,W]]=D Q:=f;rw[qt]at f;cases f;refine fin (esM':=n.push {key:=a.eval l,val:=a.eval K,born:=n.size}) (by simp[I]) (λx z g=>?_) ?_;by_cases F:x<m.length;rw[cH F]at g;obtain⟨k,i,c,B,j,q,C,E⟩:=O x z g;refine⟨k,i,c,B,?_,q,C,E⟩;rw[dE];have:x≠n.size:=G;simp[this,j];rw[cZ G]at g;have cX:x=m.length:=by
  rcases Nat.eq_or_lt_of_le (Nat.le_of_not_lt F)with h|h;exact h.symm;rw[bY dP]at g;simp at g
 subst cX;simp at g;subst g;exact⟨_,W,{key:=a.eval l,val:=a.eval K,born:=n.size},rfl,by rw[<-I];simp,I,al,bu⟩;simp only[execOp,bs,Instr.mapUpdate,Sem.run_bind,run_underlying a8,Result.andThen_ok,aN,Go.MapKept.run_getObj_map (P:=P) aA,a7,ae,bA,Sem.run_pure];simp;rw[dc]at f ae;replace f:lQ m v (.tuple [.str bS,W])=D Q:=f;rw[mt]at f;split at f;rename_i bp;cases f;have Z:n[v]? =D c:=iD b6;refine fin (esM':=n.modify v λbZ=>{bZ with key:=a.eval l,val:=a.eval K}) (by simp[I]) (λx z g=>?_) ?_;rw[Array.getElem?_modify];by_cases F:v=x;subst F;rw[cR bp]at g;cases g;obtain⟨aE,dn⟩:∃aE,m[v]? =D aE:=⟨m[v],by simp[bp]⟩;obtain⟨eB,eH,eC,B,j,q,C,E⟩:=O v aE dn;rw[Z]at j;cases j;exact⟨_,W,{c with key:=a.eval l,val:=a.eval K},rfl,by simp[Z],q,al,bu⟩;rw[dh F]at g;obtain⟨k,i,c,B,j,q,C,E⟩:=O x z g;exact⟨k,i,c,B,by simp[F,j],q,C,E⟩;have de:Instr.sameBits 10000 c.key (a.eval l):=by rw[b7,X];simp[Instr.sameBits,Go.MapKept.bytes_beq]
 simp only[execOp,bs,Instr.mapUpdate,Sem.run_bind,run_underlying a8,Result.andThen_ok,aN,Go.MapKept.run_getObj_map (P:=P) aA,a7,ae,Instr.keyThatStays,Z,dw,Option.getD_some,de,if_true,Sem.run_pure,bA];simp;simp at f
theorem uc{j:Type}{c:j->Bool}{d:List j}(b:AU c d):∀f∈d,c f=true:=by
 induction d with
 |nil=>intro f hx;simp at hx
 |cons i d k=>
  have b: @Bool.rec (λ_=>Bool) false (AU c d) (c i):=b;cases g:c i;rw[g]at b;simp at b;rw[g]at b;intro f hx;rcases List.mem_cons.1 hx with rfl|hx
  exact g;exact k b f hx
def Jq{g:T}{b:Nat}(c:byteOf g=D b):g= .int .u8 (.ofNat b)/\b<256:=by
 cases g with
 |int m l=>
  have c:iT (H9 m .u8) (@Int.rec (λ_=>aa Nat) (λb=>iT (au b 256) (some b)) (λ_=>none) l)=D b:=c;have⟨i,d⟩:=fh.1 c;rw[BH]at i;subst i;cases l with
  |ofNat f=>
   have d:iT (au f 256) (some f)=D b:=d;have⟨j,k⟩:=fh.1 d;rw[aP]at j;cases k;exact⟨rfl,j⟩
  |negSucc f=>simp at d
 |_=>simp[byteOf]at c
theorem ND(j9:jP P cx){n j:ab}{A:ah}(x:St cx base w.heap μ h)(r:mh w.heap μ M e a.tmps)(aE:o.op= .convert n j A)(N:P.underlying j=D .string){v:T}
 (hp:iG cx M e A=D p) (b:Ie cx h n p=D v) (ap:h'=h):j8 cx base w μ h.size ((execOp a.eval o).run P w) v h':=by
 subst ap;replace b:=ed.1 b;obtain⟨bC,a7,b⟩:=b;obtain⟨d,K,R⟩:=lN (j9.ty _ _ a7);cases bn:bC.u<;>rw[bn]at b R<;>simp only[reduceCtorEq]at b;rename_i C;have:=nJ R;subst this;replace b:=ed.1 b;obtain⟨bA,aX,b⟩:=b;obtain⟨bS,L,S⟩:=lN (j9.ty _ _ aX);cases bp:bA.u<;>rw[bp]at b S<;>simp only[reduceCtorEq]at b;rename_i k;replace b:=fh.1 b;obtain⟨O,b⟩:=b;rw[BH]at O;subst O;have:=Ap S;subst this;replace b:=ed.1 b;obtain⟨l,an,b⟩:=b;replace b:=ed.1 b;obtain⟨f,Y,b⟩:=b;replace b:=fh.1 b;obtain⟨_,b⟩:=b;cases b;obtain⟨bX,bs⟩:=qR (P:=P) x (iV x r hp) an;obtain⟨bH,B,bu,U,bT,E,bW,Z⟩:=bs.form;obtain⟨t,I⟩:=vn.1 Y;have al:l=f.map λi=>T.int .u8 (.ofNat i):=by
  apply dx;intro c;rw[br];rcases g:l[c]? with _|z
  have:f[c]? =none:=by
   rw[List.getElem?_eq_none_iff]at g|-;omega
  rw[this];rfl;obtain⟨i,m,s⟩:=I c z g;rw[m,(Jq s).1];rfl
 have F:∀i∈f,i<256:=by
  intro i m;obtain⟨c,g⟩:=List.mem_iff_getElem?.1 m;have av:c<l.length:=by
   rw[t];rcases aW c f.length with y|y
   exact y;rw[bY y]at g;simp at g
  obtain⟨bN,q,s⟩:=I c l[c] (by simp[av]);rw[g]at q;cases q;exact(Jq s).2
 have aN:iu w.heap μ (.str f) (.string (bytesOf f)):= .str f F;rw[al,uV]at E;have aA:∀(c:Nat) i,f[c]? =D i->bu[c]? =D (.int .u8 (i:Int)):=by
  intro c i g;obtain⟨bZ,a8,bi⟩:=E.get (k:=c) (v:= .int .u8 (.ofNat i)) (by simp[g]);rw[a8,bi.kS];rfl
 have ae:(convert n j (a.eval A)).run P w= .ok (.string (bytesOf f)) w:=by
  rw[U];rcases Z with⟨rfl,Q⟩|⟨y,rfl,m⟩
  have W:f=[]:=by
   have:=t;rw[Q]at this;simp at this;exact bw this.symm
  subst W;rw[Q];rw[run_convert_bytes_string w n j C none _ B K L N];simp[Conv.bytesToString];rfl;have hl:l.length=(f.map UInt8.ofNat).length:=by simp[t]
  rw[hl];have:=run_convert_bytes_back (P:=P) w n j C y B (f.map UInt8.ofNat) K L N (by
   intro c g;simp only[aK]at g;have X:f[c]? =D f[c]:=by simp[g]
   rw[m c _ (aA c _ X)];simp only[List.getElem_map];rw[kO (F _ (aH g))])
  rw[this];rfl
 exact j8.pure x (by simp only[execOp,aE,Sem.run_bind,ae,Result.andThen_ok,Sem.run_pure]) aN
end
end
end
noncomputable section
section
def Dd(P:ai)(c:am->World->Prop):Result Next->Prop
 | .ok (.value d) b=>c d b
 | .ok .skip b=>c Go.undef b
 | .ok (.enter g f) b=>Calls P g f b λ
  | .returned d,i=>c d i
  |_,_=>False
 |_=>False
def Dd.mono{P:ai}{c d:am->World->Prop}{b:Result Next}(h:Dd P c b)(g:∀i w,c i w->d i w):Dd P d b:=by
 cases b with
 |halt l w=>exact h
 |ok j w=>
  cases j<;>simp[Dd]at h|- <;>first|exact h|exact g _ _ h|skip
  exact Calls.mono h λe k f=>by cases e<;>first|exact g _ _ f|exact f
def Dd.wp{P:ai}{o:Oper}{a:Act}{w:World}{c:am->World->Prop}{next:Act->World->Prop}{Q:Exit->Act->World->Prop}
 (h:Dd P c ((execOp a.eval o).run P w)) (f:∀g b,c g b->next (a.put o.dst g) b):o.wp P a w next Q:=by
 unfold Oper.wp;generalize(execOp a.eval o).run P w=j at h;cases j with
 |halt k w=>exact h.elim
 |ok i w=>
  cases i<;>simp[Dd]at h<;>simp[Oper.upon]<;>first|exact h.elim|exact f _ _ h|skip
  exact Calls.mono h λe b d=>by cases e<;>first|exact f _ _ d|exact d.elim
def Dd.some{P:ai}{b:am->World->Prop}{d:Result Next}(h:Dd P b d):∃g w,b g w:=by
 cases d with
 |halt k w=>exact h.elim
 |ok f w=>
  cases f<;>simp[Dd]at h<;>first|exact h.elim|exact⟨_,_,h⟩|skip
  have⟨e,j,i,c,_⟩:=h [];cases e<;>first|exact⟨_,_,c⟩|exact c.elim
section
variable {P:ai}{cx:Ctx}{base:Nat}{w:World}{μ:Mu}{h h':H}{M:Nat}{e:Env}{a:Act}{o:Oper}
def aa7(cx:Ctx)(base:Nat)(w:World)(μ:Mu)(f:Nat)(g:T)(h':H)(d:am)(c:World):Prop:=
 ∃b,iu c.heap b g d/\St cx base c.heap b h'/\sM w μ c b/\BX μ b f h'.size
def j8.ran{i:Result Next}{g:Nat}{j:T}(h:j8 cx base w μ g i j h'):Dd P (aa7 cx base w μ g j h') i:=by obtain⟨m,n,k,l,b,c,d,f⟩:=h;rcases l with rfl|⟨rfl,rfl⟩;exact⟨k,b,c,d,f⟩;exact⟨k,b,c,d,f⟩
theorem SI(j9:jP P cx)(i:St cx base w.heap μ h)(g:mh w.heap μ M e a.tmps){b:Call}(f:o.op= .call b){d:T}
 (c:Hn b cx M e h=be d h'):j8 cx base w μ h.size ((execOp a.eval o).run P w) d h':=by
 replace c:=ed.1 c;grind [ed,reduceCtorEq,Ix]
theorem yM{i:Builtin}{r:List ab}{k:List T}{d:aj}{g:List T}(b:ng i cx h r k=D (.call d g)):False:=by
 have n:∀{c:aa T},val h c=D (.call d g)->False:=λf=>Et f;have v:∀{c:aa (T×H)},km c=D (.call d g)->False:=by
  intro c f;unfold km at f;cases c<;>simp[two]at f
 cases i<;>simp[ng,reduceCtorEq]at b
 case len=>
  split at b;replace b:=ed.1 b;obtain⟨q,_,b⟩:=b;replace b:=ed.1 b;grind
  grind
 case append=>
  split at b;split at b;replace b:=ed.1 b;obtain⟨q,_,b⟩:=b;replace b:=ed.1 b;grind [fh]
  grind
  grind
 case clear=>
  split at b;split at b;replace b:=ed.1 b;obtain⟨y,_,b⟩:=b;split at b;rename_i m _;cases m<;>simp at b
  grind
  rename_i j _;rcases j with _|j
  have b:some (ni.val .undef h)=D (.call d g):=b
  grind
  replace b:=ed.1 b;obtain⟨l,_,b⟩:=b;obtain⟨x,t,z,u,p,s⟩:=l;obtain⟨_,b⟩:=fh.1 b;obtain⟨_,b⟩:=fh.1 b;cases p;replace b:=ed.1 b;obtain⟨_,_,b⟩:=b;replace b:=ed.1 b;obtain⟨_,_,b⟩:=b;replace b:=ed.1 b;grind
  grind
  grind
  grind
  grind
 case min=>split at b<;>first|exact n b|grind
 grind
def OK(k:St cx base w.heap μ h)(j:mh w.heap μ M e a.tmps){c:Call}(r:o.op= .call c){g:aj}{i:List T}
 (b:Hn c cx M e h=D (.call g i)):∃f:af am,jc w.heap μ i f.toList/\(execOp a.eval o).run P w=(callFunc g f).run P w:=by
 replace b:=ed.1 b;obtain⟨v,q,b⟩:=b;have n:=zJ k j q;cases d:c.callee with
 |builtin x=>rw[d]at b;grind [yM]
 |invoke E C=>rw[d]at b;grind
 |value A=>
  rw[d]at b;simp only at b;replace b:=ed.1 b;obtain⟨u,s,b⟩:=b;have t:=iV k j s;cases u<;>simp only[reduceCtorEq]at b;rename_i z y;replace b:=ed.1 b;obtain⟨B,hl,b⟩:=b;simp only[ay,ni.call.injEq]at b;obtain⟨rfl,rfl⟩:=b;obtain⟨l,m,p⟩:=t.vz;rw[qt]at hl;simp only[ay]at hl;refine⟨c.args.map a.eval++l,?_,?_⟩;rw[<-hl];simpa using n.append p;simp[execOp,r,resolve,d,m,Deferred.ofValue,invoke]
def Cy(j9:jP P cx)(f:St cx base w.heap μ h)(d:mh w.heap μ M e a.tmps){j:T}
 (b:ka o.op cx M e h=be j h'):j8 cx base w μ h.size ((execOp a.eval o).run P w) j h':=by
 cases c:o.op<;>rw[c]at b<;>simp[ka,reduceCtorEq]at b
 case move g=>grind [ER]
 case assign g=>exact ER f d (.inr c) b
 case pick=>grind [Mt]
 case alloc=>grind [Km]
 case box=>grind [OL]
 case build=>grind [Kl]
 case buildSlice=>grind [CM]
 case load=>grind [Mw]
 case store=>grind [Kg]
 case nilCheck=>grind [E9]
 case binOp m z g C B=>
  cases m<;>first
   |exact Jc j9 (neg:=false) rfl f d c b
   |exact Jc j9 (neg:=true) rfl f d c b
   |exact OM V V f d c b
 case unOp=>grind [SH]
 case convert y q g=>
  replace b:=ed.1 b;obtain⟨A,u,b⟩:=b;replace b:=ed.1 b;obtain⟨x,s,b⟩:=b;replace b:=ed.1 b;obtain⟨n,k,b⟩:=b;split at b
  grind [iM,KP]
  rename_i l;split at b
  grind [iM,ES]
  obtain⟨v,t⟩:=iM.1 b;obtain⟨p,r,i⟩:=lN (j9.ty _ _ k);rw[l]at i;have:=uC i;grind [ND]
  grind [ES,iM]
 case makeInterface=>grind [Kj]
 case makeFunc=>grind [My]
 case makeSlice=>grind [D6]
 case slice=>grind [Kh]
 case fieldAddr=>grind [Ea]
 case field=>grind [Kk]
 case indexAddr=>grind [D7]
 case index=>grind [Ki]
 case extract=>grind [Hm]
 case makeMap=>grind [Hk]
 case lookup=>grind [Is]
 case mapUpdate=>grind [D5]
 grind [SI]
def NC(d:aa ni):Prop:=∀b c,d≠some (.call b c)
theorem NC.none:NC none:=λ_ _=>by simp
theorem NC.val{b:aa T}:NC (val h b):=λ_ _=>Et
def NC.some{b:T}:NC (be b h):=λ_ _=>by simp
theorem NC.Z{f:Type}{d:aa f}{c:f->aa ni}(h:∀b,NC (c b)):NC (Z d c):=by rcases d with _|b;exact NC.none;exact h b
theorem NC.iT{b:Bool}{c:aa ni}(h:NC c):NC (iT b c):=by cases b;exact NC.none;exact h
def NC.bool{b:Bool}{c d:aa ni}(f:NC c)(g:NC d):NC (Bool.casesOn b c d):=by cases b<;>assumption
def NC.opt{g:Type}{c:aa g}{d:aa ni}{b:g->aa ni}(i:NC d)(j:∀f,NC (b f)):NC (Option.casesOn c d b):=by
 rcases c with _|f;exact i
 grind
def GW{b:Op}(d:∀c,b≠ .call c):NC (ka b cx M e h):=by
 cases b<;>simp[ka]<;>first
  |exact absurd rfl (d _)
  |exact NC.none
  |skip
 all_goals
  first
   |unfold Hj|unfold Jb|unfold Ho|unfold SK|unfold Ec|unfold qS|unfold Mx|unfold Hh|unfold uR|unfold hUn|unfold Qt|unfold D9|unfold Hl
   |unfold sx|unfold Hi|unfold sI|unfold Eb|unfold sH|unfold D8|unfold xJ|unfold xI|unfold wA|unfold qG|skip
 case binOp b f i j g=>
  cases b<;>first
   |(simp[];unfold hEq;exact NC.Z λ_=>NC.Z λ_=>NC.Z λ_=>NC.iT (NC.Z λ_=>NC.val))
   |(simp[];unfold SN;exact NC.Z λ_=>NC.Z λ_=>NC.val)
 all_goals
  repeat first
   |exact NC.none
   |exact NC.val
   |exact NC.some
   |exact NC.new
   |refine NC.Z λ_=>?_
   |refine NC.iT ?_
   |refine NC.bool ?_ ?_
   |split
   |unfold my
   |unfold pB
   |(refine NC.nat ?_ λ_=>?_)
   |(refine NC.opt ?_ λ_=>?_)
   |(unfold two)
def LB(m:St cx base w.heap μ h)(l:mh w.heap μ M e a.tmps){c:aj}{g:List T}
 (d:ka o.op cx M e h=D (.call c g)):(∃b,o.op= .call b)/\∃i:af am,jc w.heap μ g i.toList/\(execOp a.eval o).run P w=(callFunc c i).run P w:=by
 by_cases j:∃b,o.op= .call b;obtain⟨b,f⟩:=j;rw[f]at d;exact⟨⟨b,f⟩,OK m l f d⟩;exact absurd d (GW (λb k=>j ⟨b,k⟩) c g)
end
end
section
structure mY(h h':H):Prop where
 wf:h'.iv.length=h'.size
 size:h.size<=h'.size
 low:h'.low<=h.low
 mp:∀b,b<h.size->b<h'.low->h'.get b=h.get b
 ver:∀b x,h.get b=D x->∃x',h'.get b=D x'/\(x'=x\/x.ver<x'.ver)
def mY.refl{h:H}(a:h.iv.length=h.size):mY h h:=⟨a,az _,az _,λ_ _ _=>rfl,λ_ c b=>⟨c,b,.inl rfl⟩⟩
def mY.trans{h d e:H}(b:mY h d)(a:mY d e):mY h e:=by refine⟨a.wf,aU b.size a.size,aU a.low b.low,λc f hl=>?_,λc i g=>?_⟩;rw[a.mp c (bO f b.size) hl,b.mp c f (bO hl a.low)];have⟨j,d,r1⟩:=b.ver c i g;have⟨k,e,r2⟩:=a.ver c j d;refine⟨k,e,?_⟩;rcases r1 with rfl|r1<;>rcases r2 with rfl|r2;simp;omega;omega;omega
def H.fN{h:H}{a:Nat}{c:jI}(b:h.get a=D c):a<h.size:=by
 rw[H.get_eq]at b
 grind
theorem mY.cons{h:H}(e:h.iv.length=h.size)(a:jI):mY h (h.cons a):=by refine⟨by simp[H.cons,e],by simp[H.cons],by simp[H.cons],λc d _=>H.pF d a,λc f b=>⟨f,?_,.inl rfl⟩⟩;rw[H.pF (H.fN b) a];exact b
theorem mY.put{h b:H}(f:h.iv.length=h.size){a:Nat}{x e:jI}(i:h.get a=D x)(d:h.put a e=D b)(j:x.ver<e.ver):mY h b:=by
 have⟨p1,p2,p3,p4⟩:=Fl d f;obtain⟨l,m,rfl⟩:=H.zG.1 d;refine⟨p2,V,?_,λc g hl=>p4 c ?_,λc o k=>?_⟩;simp only;split<;>omega;rintro rfl
 dsimp at hl
 split at hl<;>omega
 grind
def Mv(h:H)(c:aa ni):Prop:=∀b a,c=be b a->mY h a
section
variable {h:H}
theorem Mv.none(b:h.iv.length=h.size):Mv h none:=λ_ _ a=>by grind
theorem Mv.val(b:h.iv.length=h.size){c:aa T}:Mv h (val h c):=λe d a=>by obtain⟨_,rfl⟩:=iM.1 a;exact mY.refl b
def Mv.some(c:h.iv.length=h.size){b:T}:Mv h (be b h):=λb d a=>by simp at a;obtain⟨_,rfl⟩:=a;exact mY.refl c
def Mv.new(d:h.iv.length=h.size){f:Nat->T}{c:jI}:Mv h (km (h.new f c)):=λg e a=>by
 rw[kl,H.mL]at a;simp[ay,aI]at a;obtain⟨_,rfl⟩:=a;exact mY.cons d c
theorem Mv.Z(e:h.iv.length=h.size){d:Type}{a:aa d}{c:d->aa ni}(f:∀b,a=Option.some b->Mv h (c b)):Mv h (Z a c):=by rcases a with _|b;exact Mv.none e;simp_all
theorem Mv.iT(c:h.iv.length=h.size){a:Bool}{b:aa ni}(d:Mv h b):Mv h (iT a b):=by cases a;exact Mv.none c;exact d
def Mv.bool(d:h.iv.length=h.size){a:Bool}{b c:aa ni}(e:Mv h b)(f:Mv h c):Mv h (Bool.casesOn a b c):=by cases a<;>assumption
def Mv.opt(i:h.iv.length=h.size){e:Type}{b:aa e}{c:aa ni}{a:e->aa ni}(f:Mv h c)(g:∀d,Mv h (a d)):Mv h (Option.casesOn b c a):=by
 rcases b with _|d;exact f
 grind
theorem rQ(c:h.iv.length=h.size){e bytes:Nat}{d g:List T}{f:T}{b:H}(a:h.jK e bytes d g=Option.some (f,b)):mY h b:=by obtain⟨i,_,a⟩:=ed.1 a;obtain⟨j,_,a⟩:=ed.1 a;have⟨_,a⟩:=fh.1 a;have⟨_,a⟩:=fh.1 a;have⟨_,a⟩:=fh.1 a;have⟨_,a⟩:=fh.1 a;rw[H.mL]at a;simp[ay,aI]at a;obtain⟨_,rfl⟩:=a;exact mY.cons c _
def Iy(s:h.iv.length=h.size){g bytes c d f:Nat}{k:List T}{i:T}{b:H}(a:h.oL g bytes c d f k=Option.some (i,b)):mY h b:=by
 obtain⟨j,t,a⟩:=ed.1 a;obtain⟨v,m,w,p,e,l⟩:=j
 dsimp at a
 obtain⟨o,_,a⟩:=ed.1 a;obtain⟨n,_,a⟩:=ed.1 a;obtain⟨u,_,a⟩:=ed.1 a;have⟨_,a⟩:=fh.1 a;have⟨_,a⟩:=fh.1 a;have⟨_,a⟩:=fh.1 a;have⟨_,a⟩:=fh.1 a;have⟨_,a⟩:=fh.1 a;cases e;simp[jv,fj]at a;obtain⟨q,r,a⟩:=ed.1 a;simp[ay,aI]at a;obtain⟨_,rfl⟩:=a
 grind [mY.put]
 grind
theorem Na(e:h.iv.length=h.size){k bytes:Nat}{b:T}{i:List T}{g:T}{c:H}(a:h.append k bytes b i=Option.some (g,c)):mY h c:=by
 unfold H.append at a;cases i with
 |nil=>
  have a:Go.TI.iT (rI b) (Option.some (b,h))=Option.some (g,c):=a;obtain⟨_,a⟩:=fh.1 a;simp[ay,aI]at a;obtain⟨_,rfl⟩:=a;exact mY.refl e
 |cons o p=>
  dsimp at a
  cases b<;>simp[reduceCtorEq]at a
  case em j d=>
   rcases j with _|⟨q,r⟩
   grind [rQ]
   grind [fh,rQ]
  case arr l m f n d=>
   cases d;rcases f with _|f;exact Iy e a
   grind
   replace a:=ed.1 a;grind [rQ]
theorem NE(l:h.iv.length=h.size){e:Ty}{b f:T}{c:H}(a:h.store e b f=Option.some c):mY h c:=by
 unfold H.store at a;cases b<;>simp[reduceCtorEq]at a;have⟨_,a⟩:=fh.1 a;obtain⟨g,m,a⟩:=ed.1 a;obtain⟨n,j,o,k,d,i⟩:=g
 dsimp at a
 have⟨_,a⟩:=fh.1 a;cases d
 dsimp at a
 obtain⟨_,_,a⟩:=ed.1 a;obtain⟨_,_,a⟩:=ed.1 a;replace a:=ed.1 a;grind [fj,jv,mY.put]
 grind
def Vz(a:h.iv.length=h.size){c:Op}{cx:Ctx}{q:Nat}{o:Env}:Mv h (ka c cx q o h):=by
 by_cases l:∃i,c= .call i
 .obtain⟨i,rfl⟩:=l;simp[ka];unfold Hn;refine Mv.Z a λs _=>?_;split
  .rename_i n _;cases n<;>simp[ng]<;>first|exact Mv.none a|skip
   case len=>
    split;unfold Td
    grind [Mv.Z,Mv.val,Mv.none]
    grind [Mv.none]
   case append=>
    split;split;unfold ju;refine Mv.Z a λ_ _=>Mv.Z a λ_ _=>Mv.iT a ?_;intro d e b
    grind [kl,Na]
    grind [Mv.none]
    grind [Mv.none]
   case clear=>
    split;split;unfold HU;refine Mv.Z a λA _=>?_;split;rename_i j _ _;cases j;exact Mv.some a
    grind [Mv.none]
    exact Mv.some a;rename_i f _ _;rcases f with _|f
    exact Mv.some a;refine Mv.Z a λg w=>?_;refine Mv.iT a (Mv.iT a (Mv.bool a ?_ ?_));refine Mv.Z a λj _=>?_;simp[jv,fj];refine Mv.Z a λk p=>?_;intro d e b;simp[ay,ni.val.injEq]at b;obtain⟨_,rfl⟩:=b
    grind [mY.put]
    grind [Mv.none]
    grind [Mv.none]
    grind [Mv.none]
    grind [Mv.none]
   all_goals (split<;>first|exact Mv.val a|exact Mv.none a)
  refine Mv.Z a λd _=>?_;split;refine Mv.Z a λf _=>?_;intro d e b
  grind
  grind [Mv.none]
  grind [Mv.none]
 cases c<;>simp[ka]<;>first
  |exact Mv.none a
  |exact(l ⟨_,rfl⟩).elim
  |skip
 case binOp c m g E C=>
  cases c<;>first
   |(simp[];unfold hEq;exact Mv.Z a λ_ _=>Mv.Z a λ_ _=>Mv.Z a λ_ _=>Mv.iT a (Mv.Z a λ_ _=>Mv.val a))
   |(simp[];unfold SN;exact Mv.Z a λ_ _=>Mv.Z a λ_ _=>Mv.val a)
 case store m r g=>
  unfold Hh;refine Mv.Z a λ_ _=>Mv.Z a λ_ _=>Mv.Z a λ_ _=>Mv.iT a (Mv.Z a λk v=>?_);intro d e b;simp[ay,ni.val.injEq]at b;obtain⟨_,rfl⟩:=b
  grind [NE]
 case mapUpdate m y x g=>
  unfold qG;refine Mv.Z a λB _=>?_;split;refine Mv.Z a λ_ _=>Mv.Z a λ_ _=>Mv.Z a λ_ _=>Mv.Z a λ_ _=>Mv.iT a (Mv.iT a ?_);split;refine Mv.Z a λt u=>Mv.iT a (Mv.Z a λz _=>?_);simp[jv,fj];refine Mv.Z a λ_ _=>Mv.Z a λk p=>?_;intro d e b;simp[ay,ni.val.injEq]at b;obtain⟨_,rfl⟩:=b
  grind [mY.put]
  grind [Mv.none]
  grind [Mv.none]
 all_goals
  first
   |unfold Hj|unfold Jb|unfold Ho|unfold SK|unfold Ec|unfold qS|unfold Mx|unfold uR|unfold hUn|unfold Qt|unfold D9|unfold Hl
   |unfold sx|unfold Hi|unfold sI|unfold Eb|unfold sH|unfold D8|unfold xJ|unfold xI|unfold wA|skip
 all_goals
  repeat first
   |exact Mv.none a
   |exact Mv.val a
   |exact Mv.some a
   |exact Mv.new a
   |refine Mv.Z a λ_ _=>?_
   |refine Mv.iT a ?_
   |refine Mv.bool a ?_ ?_
   |split
   |unfold my
   |unfold pB
   |(refine Mv.opt a ?_ λ_=>?_)
   |(unfold two)
end
end
section
inductive sL (n:Nat):T->Prop where
 |undef:sL n .undef
 |ej (b:Bool):sL n (.ej b)
 |int (k:ak) (m:Int):sL n (.int k m)
 |str (s:List Nat):sL n (.str s)
 |mf:sL n .mf
 |eZ (b ep i j:Nat) (h:b<n):sL n (.eZ b ep i j)
 |kA (cs:List T) (h:∀v∈cs,sL n v):sL n (.kA cs)
 |em (es:List T) (full:Bool) (h:∀v∈ir es,sL n v):sL n (.em es full)
 |jb:sL n .jb
 |arr (b ep o l:Nat) (full:Bool) (h:b<n):sL n (.arr b ep o l full)
 |func (f:aj) (cs:List T) (h:∀v∈cs,sL n v):sL n (.func f cs)
 |mw:sL n .mw
 |mH:sL n .mH
 |iface (t:ab) (v:T) (h:sL n v):sL n (.iface t v)
 |iter (b:Nat) (h:b<n):sL n (.iter b)
 |map (b:Nat) (h:b<n):sL n (.map b)
 |pz:sL n .pz
 |eQ (cs:List T) (h:∀v∈cs,sL n v):sL n (.eQ cs)
 |tuple (vs:List T) (h:∀v∈vs,sL n v):sL n (.tuple vs)
theorem sL.cells{n:Nat}{b:T}(h:sL n b):∀c∈b.cells,sL n c:=by
 cases h with
 |eQ d h=>exact h
 |_=>intro c a;simp[T.cells]at a;subst a;constructor<;>assumption
def mc.low{a:T}(h:mc a)(n:Nat):sL n a:=by
 induction h with
 |em c d _ i=>
  refine .em c d λa f=>?_;have⟨b,e,g⟩:=List.mem_flatMap.1 f;exact(i b e).cells a g
 |_=>constructor<;>assumption
def iu.low{hp:af Obj}{μ:Mu}{a:T}{k:am}(h:iu hp μ a k){n:Nat}(g:∀c e,μ c=D e->c<n):sL n a:=by
 induction h with
 |eZ c s w K e j b t E=>exact .eZ _ _ _ _ (g _ _ b)
 |arr c s M L m e j z b t hl h=>exact .arr _ _ _ _ _ (g _ _ b)
 |iter c e j b h=>exact .iter _ (g _ _ b)
 |map c e w b h=>exact .map _ (g _ _ b)
 |kA r q off arr p fz v u i o hr d=>exact .kA _ λa f=>by grind [dH]
 |qf m j=>exact .em _ _ λa f=>by grind [ir]
 |em A B m q off x N arr p fz v u hl F I i o hr d=>exact .em _ _ λa f=>by grind [dH]
 |func C y l i hr d=>exact .func _ _ λa f=>by grind [dH]
 |eQ r l i o hr d=>exact .eQ _ λa f=>by grind [dH]
 |tuple O l i hr d=>exact .tuple _ λa f=>by grind [dH]
 |iface p a k h d=>exact .iface _ _ d
 |_=>constructor
def oK(n:Nat)(μ:Mu):Mu:=⟨λa=>if a<n then μ a else none,μ.qy⟩
def xM{n a:Nat}{μ:Mu}(h:a<n):oK n μ a=μ a:=by simp[oK,h]
def lH{n a:Nat}{μ:Mu}{b:Loc}(h:oK n μ a=D b):a<n/\μ a=D b:=by
 have h:(if a<n then μ a else none)=D b:=h
 grind
theorem AE{n a:Nat}{μ:Mu}(h:¬pV μ a):¬pV (oK n μ) a:=by rintro(⟨c,b,d,rfl⟩|hr);exact h (.inl ⟨c,b,(lH d).2,rfl⟩);exact h (.inr hr)
def iu.cut{hp:af Obj}{μ:Mu}{a:T}{q:am}(h:iu hp μ a q){n:Nat}(hl:sL n a):iu hp (oK n μ) a q:=by
 induction h with
 |undef=>exact .undef
 |ej f=>exact .ej f
 |int d O=>exact .int d O
 |str Q h=>exact .str Q h
 |mf=>exact .mf
 |eZ f u z M i e j v I=>cases hl with|eZ _ _ _ _ h=>exact .eZ f u z M i e (by rw[xM h];exact j) v I
 |kA t r off arr p fz y w g o hr c=>
  cases hl with|kA _ h=>exact .kA t r off arr p fz (AE y) w g o λd a b=>c d a b (h a (aD b))
 |qf l e=>exact .qf l e
 |em C E l r off s R arr p fz y w x K L g o hr c=>
  cases hl with|em _ _ h=>exact .em C E l r off s R arr p fz (AE y) w x K L g o λd a b=>c d a b (h a (aD b))
 |jb e s=>exact .jb e s
 |arr f u P N l i e B j v x m=>cases hl with|arr _ _ _ _ _ h=>exact .arr f u P N l i e B (by rw[xM h];exact j) v x m
 |func F A k g hr c=>cases hl with|func _ _ h=>exact .func F A k g λd a b=>c d a b (h a (aD b))
 |mw=>exact .mw
 |mH=>exact .mH
 |iface p a q h c=>cases hl with|iface _ _ h=>exact .iface p a q (c h)
 |iter f i e j m=>cases hl with|iter _ h=>exact .iter f i e (by rw[xM h];exact j) m
 |map f i z j m=>cases hl with|map _ h=>exact .map f i z (by rw[xM h];exact j) m
 |pz=>exact .pz
 |eQ t k g o hr c=>cases hl with|eQ _ h=>exact .eQ t k g o λd a b=>c d a b (h a (aD b))
 |tuple S k g hr c=>cases hl with|tuple _ h=>exact .tuple S k g λd a b=>c d a b (h a (aD b))
def jc.cut{hp:af Obj}{μ:Mu}{b:List T}{c:List am}(h:jc hp μ b c){n:Nat}(hl:∀a∈b,sL n a):jc hp (oK n μ) b c:=
 ⟨h.1,λe a d=>(h.2 e a d).cut (hl a (aD d))⟩
def uA.cut{hp:af Obj}{μ:Mu}{l:Loc}{j:jI}(h:uA hp μ l j){n:Nat}(hl:∀g∈ir j.gU,sL n g):uA hp (oK n μ) l j:=by
 refine⟨h.ep,h.sz,λb=>?_,λb=>?_⟩;have f:=h.plain b;have⟨p,E,a,c,d⟩:=f.row;exact⟨⟨p,E,a,c,d.cut hl⟩,f.room,f.wP,f.size,f.scalar⟩
 .obtain⟨m,a|⟨r,a,c,d⟩|⟨z,y,B,C,q,a,c,d,w⟩⟩:=h.iter b
  grind
  rotate_left;exact⟨m,.inr (.inr ⟨z,y,B,C,q,a,c.cut (hl _ (by rw[a];simp[ir,T.cells])),d,w⟩)⟩;refine⟨m,.inr (.inl ⟨r,a,c,λx k o=>?_⟩)⟩;have⟨b,g,A,i,s,t,u,v⟩:=d x k o;have e:=hl k (List.mem_flatMap.2 ⟨k,aD o,by rw[i];simp[T.cells]⟩);rw[i]at e;cases e with|tuple _ e=>exact⟨b,g,A,i,s,t,u.cut (e b V),v.cut (e g V)⟩
def uA.low{hp:af Obj}{μ:Mu}{e:Loc}{k:jI}(h:uA hp μ e k){n:Nat}(c:∀l e,μ l=D e->l<n):∀j∈ir k.gU,sL n j:=by
 intro j a;cases d:k.it with
 |false=>
  have⟨y,N,f,g,b⟩:=(h.plain d).row;have⟨o,t⟩:=List.mem_iff_getElem?.1 a;exact(b.2 o j t).low c
 |true=>
  obtain⟨_,⟨L,w,s,_⟩|⟨A,f,g,b⟩|⟨I,F,w,M,z,f,g,b,E⟩⟩:=h.iter d;rw[s]at a;simp[ir,T.cells]at a;rcases a with rfl|rfl<;>constructor
  rotate_left
  .rw[f]at a;simp[ir,T.cells]at a;rcases a with rfl|rfl|rfl|rfl
   exact g.low c
   all_goals constructor
  have⟨x,u,i⟩:=List.mem_flatMap.1 a;have⟨v,d⟩:=List.mem_iff_getElem?.1 u;have⟨o,O,K,p,B,C,q,r⟩:=b v x d;rw[p]at i;simp[T.cells]at i;subst i;refine .tuple _ λP m=>?_;simp at m;rcases m with rfl|rfl;exact q.low c;exact r.low c
inductive jr {α β:Type} (R:α->β->Prop):List α->List β->Prop where
 |nil:jr R [] []
 |cons {a:α} {b:β} {l:List α} {m:List β} (h:R a b) (t:jr R l m):jr R (a::l) (b::m)
def jr.imp{g i:Type}{b c:g->i->Prop}{e:List g}{f:List i}(h:jr b e f)(j:∀a d,b a d->c a d):jr c e f:=by
 induction h with
 |nil=>exact .nil
 |cons a _ k=>exact .cons (j _ _ a) k
def jr.length{c d:Type}{e:c->d->Prop}{a:List c}{b:List d}(h:jr e a b):a.length=b.length:=by
 induction h with
 |nil=>rfl
 |cons _ _ f=>grind
theorem jr.append{f g:Type}{a:f->g->Prop}{b c:List f}{d e:List g}(h:jr a b d)(j:jr a c e):jr a (b++c) (d++e):=by
 induction h with
 |nil=>exact j
 |cons i _ k=>exact .cons i k
def jr.get{f a:Type}{b:f->a->Prop}{c:List f}{d:List a}(h:jr b c d){k:Nat}{y:a}(i:d[k]? =D y):∃e,c[k]? =D e/\b e y:=by
 induction h generalizing k with
 |nil=>grind
 |cons g _ j=>grind
def jr.mem{g a:Type}{b:g->a->Prop}{c:List g}{d:List a}(h:jr b c d){f:a}(j:f∈d):∃e∈c,b e f:=by
 have⟨l,i⟩:=List.mem_iff_getElem?.1 j;have⟨e,k,m⟩:=h.get i
 grind
def jr.map{b:Type}{g:b->aa b}{f:b->b->Prop}{a e:List b}(i:∀c∈a,∀d,g c=D d->f c d)(h:iK g a=D e):jr f a e:=by
 induction a generalizing e with
 |nil=>simp at h;subst h;exact .nil
 |cons c a k=>
  rw[kv]at h;obtain⟨d,j,h⟩:=ed.1 h;obtain⟨o,ht,h⟩:=ed.1 h;simp at h;subst h;exact .cons (i c V d j) (k (λl m=>i l c5) ht)
structure Fz(hp:af Obj)(μ:Mu)(n:Nat)(v v':T):Prop where
 rel:∀c,iu hp μ v c->iu hp (oK n μ) v' c
 scalar:v'.scalar=v.scalar
 cells:jr (λx x'=>(∀c,iu hp μ x c->iu hp (oK n μ) x' c)/\x'.scalar=x.scalar/\mc x') v.cells v'.cells
 closed:mc v'
theorem jr.ir{a:T->T->Prop}{b c:List T}(h:jr (λf g=>jr a f.cells g.cells) b c):jr a (TI.ir b) (TI.ir c):=by
 induction h with
 |nil=>exact .nil
 |cons d _ e=>simpa[TI.ir]using jr.append d e
section
variable {cx:Ctx}{base:Nat}{hp:af Obj}{μ:Mu}{h:H}{n:Nat}
def Fz.same{b:T}(hl:mc b)(a:b.cells=[b]):Fz hp μ n b b:=
 ⟨λc a=>a.cut (hl.low n),rfl,a▸ .cons ⟨λc a=>a.cut (hl.low n),rfl,hl⟩ .nil,hl⟩
theorem d1{p:Prop}(h:p:=by simp[T.cells]):p:=h
def Fd{a:T}(b:∀d∈a.cells,mc d):mc a:=by
 cases a with
 |eQ c=>exact .eQ c b
 |_=>exact b _ d1
def Ln{a:List T}(e:∀d∈a,∃b,iu hp μ d b):∃c,jc hp μ a c:=by
 induction a with
 |nil=>exact⟨[],jc.nil⟩
 |cons j a i=>
  have⟨b,f⟩:=e j V;have⟨c,g⟩:=i λd k=>e d c5;exact⟨b::c,jc.cons f g⟩
def JI{a:T}(d:∀c∈a.cells,∃b,iu hp μ c b)(g:∀c∈a.cells,c.scalar):∃b,iu hp μ a b:=by
 cases a with
 |eQ f=>
  have⟨e,hl⟩:=Ln d;exact⟨.agg e.toArray,iu.Bg (by have hl:jc hp μ f e:=hl;omega) g⟩
 |_=>exact d _ d1
def jc.mem{b:List T}{d:List am}(h:jc hp μ b d){a:T}(f:a∈b):∃c,iu hp μ a c:=by have⟨g,e⟩:=List.mem_iff_getElem?.1 f;exact⟨_,h.2 g a e⟩
def Ko(s:St cx base hp μ h):∀(E:Nat) (d c:T),(∃o,iu hp μ d o)->freeze h n E d=D c->Fz hp μ n d c:=by
 intro E;induction E with
 |zero=>intro d c _ b;simp[freeze]at b
 |succ E bN=>
  intro d c ae b;cases d with
  |undef=>exact absurd b (by show¬(none=D c);simp)
  |eZ=>exact absurd b (by show¬(none=D c);simp)
  |kA=>exact absurd b (by show¬(none=D c);simp)
  |func=>exact absurd b (by show¬(none=D c);simp)
  |iface=>exact absurd b (by show¬(none=D c);simp)
  |iter=>exact absurd b (by show¬(none=D c);simp)
  |map=>exact absurd b (by show¬(none=D c);simp)
  |pz=>exact absurd b (by show¬(none=D c);simp)
  |tuple=>exact absurd b (by show¬(none=D c);simp)
  |ej l=>have b:some (T.ej l)=D c:=b;cases b;exact Fz.same (.ej l) rfl
  |int x m=>have b:some (T.int x m)=D c:=b;cases b;exact Fz.same (.int x m) rfl
  |str l=>have b:some (T.str l)=D c:=b;cases b;exact Fz.same (.str l) rfl
  |mf=>have b:some (T.mf)=D c:=b;cases b;exact Fz.same .mf rfl
  |jb=>have b:some (T.jb)=D c:=b;cases b;exact Fz.same .jb rfl
  |mw=>have b:some (T.mw)=D c:=b;cases b;exact Fz.same .mw rfl
  |mH=>have b:some (T.mH)=D c:=b;cases b;exact Fz.same .mH rfl
  |em r A=>
   have b:some (T.em r A)=D c:=b;cases b;obtain⟨o,q⟩:=ae;refine Fz.same ?_ rfl;cases q with
   |qf=>exact .em _ _ V
   |em e r A eh off eo ee arr t fz ey b hl bp eB eA q hr=>
    exact .em _ _ λd g=>Fd λi f=>(q i (List.mem_flatMap.2 ⟨d,g,f⟩)).2
  |eQ R=>
   have b:(Z (iK (freeze h n E) R) λz=>some (T.eQ z))=D c:=b;replace b:=ed.1 b;obtain⟨z,hr,b⟩:=b;cases b;obtain⟨o,q⟩:=ae;obtain⟨b7,rfl,M,dm⟩:=q.s7;have p:jr (Fz hp μ n) R z:=jr.map (λi f B ap=>bN i B (M.mem f) ap) hr;have Y:∀d∈z,mc d:=λd g=>by obtain⟨i,_,f⟩:=p.mem g;exact f.closed
   have dn:∀d∈z,d.scalar:=λd g=>by obtain⟨i,dd,f⟩:=p.mem g;rw[f.scalar];exact dm i dd
   refine⟨λo q=>?_,rfl,?_,.eQ z Y⟩;obtain⟨b7,rfl,M,_⟩:=q.s7;refine iu.Bg ⟨p.length▸M.1,λx d bA=>?_⟩ dn;obtain⟨i,f,bp⟩:=p.get bA;exact bp.rel _ (M.2 x i f);show jr _ R z;exact p.imp λa l K=>⟨K.rel,K.scalar,K.closed⟩
  |arr l S v u A=>
   have b:iT (ar n l) (Z (h.get l) λi=> @jI.rec (λ_=>aa T) (λ_ U _ exact aA k=>
    iT (aq U S) (@Bool.rec (λ_=>aa T) (Z (Z (kZ v k) λz=>takeN u z) λr=>Z (iK (freeze h n E) r) λF=>
     @List.rec T (λ_=>aa T) (@List.rec T (λ_=>aa T) (@Bool.rec (λ_=>aa T) (some .jb) (some (.em [] false)) exact) (λ_ _ _=>some .jb) k) (λ_ _ _=>some (.em F A)) F) none aA)) i)=D c:=b
   obtain⟨bH,b⟩:=fh.1 b;have bH:n<=l:=bG bH;replace b:=ed.1 b;obtain⟨bZ,cp,b⟩:=b;obtain⟨ee,U,eD,W,aA,k⟩:=bZ
   dsimp at b
   obtain⟨bi,b⟩:=fh.1 b;have bi:U=S:=aJ bi;cases aA;replace b:=ed.1 b;obtain⟨r,w,b⟩:=b;replace b:=ed.1 b;obtain⟨F,cL,N⟩:=b;obtain⟨c7,w⟩:v+u<=k.length/\r=(k.drop v).take u:=by
    replace w:=ed.1 w;obtain⟨r0,C,p⟩:=w;rw[nV]at C;split at C;cases C;rw[qh]at p;split at p;simp[ay]at p;rename_i c9 c6;simp[List.length_drop]at c6;exact⟨G,p.symm⟩;simp at p;simp at C
   have aE:∀o,iu hp μ (.arr l S v u A) o->iu hp (oK n μ) c o/\mc c/\c.cells=[c]/\c.scalar=true:=by
    intro o q;obtain⟨j,ef,aN,rfl,X,a8,hl,dk⟩:=q.wz;obtain⟨eE,I,O⟩:=s.box l j X;rw[cp]at I;cases I;have b8:=O.ep
    dsimp at b8
    obtain⟨bu,de,b9⟩:=dk G;have y:=O.plain rfl
    dsimp at y
    obtain⟨arr,t,C,p,aX⟩:=y.row;have bn:∀d∈r,d.cells.length=j.sz:=λd g=>y.size d (bQ (bV (w▸g)));have di:∀d∈ir k,∃o,iu hp μ d o:=λd g=>aX.mem g;have bC:∀d∈r,d∈k:=λd g=>bQ (bV (w▸g));have L:jr (Fz hp μ n) r F:=jr.map (λi f B ap=>bN i B (JI (λQ av=>di Q (List.mem_flatMap.2 ⟨i,bC i f,av⟩)) λQ av=>y.scalar Q (List.mem_flatMap.2 ⟨i,bC i f,av⟩)) ap) cL;have an:F.length=u:=by rw[<-L.length,w];simp;omega
    have cv:W->j.cap=k.length:=y.wP;rcases F with _|⟨B,P⟩
    have c4:u=0:=iD an.symm;subst c4;have a8:c= .jb\/(k=[]/\W/\c= .em [] false):=by
     rcases k with _|⟨Q,eF⟩;cases W;have b:some T.jb=D c:=N;simp[ay]at b;exact .inl b.symm;have b:some (T.em [] false)=D c:=N;simp[ay]at b;exact .inr ⟨rfl,rfl,b.symm⟩;have b:some T.jb=D c:=N;simp[ay]at b;exact .inl b.symm
    rcases a8 with rfl|⟨rfl,rfl,rfl⟩;exact⟨.jb _ _,.jb,rfl,rfl⟩;have a7:j.cap=0:=iD (cv rfl);have:aN=0:=by
     cases A;have:=de rfl;omega;exact bu rfl
    subst this;exact⟨.qf _ _,.em _ _ V,rfl,rfl⟩;have b:some (T.em (B::P) A)=D c:=N;cases b;simp[aZ]at an;have Y:∀d∈B::P,mc d:=λd g=>by obtain⟨i,_,f⟩:=L.mem g;exact f.closed
    refine⟨?_,.em _ _ Y,rfl,rfl⟩;rw[b9 G,<-an];have al:=jr.ir (L.imp λa l K=>K.cells);have c1:(ir (B::P)).length=u*j.sz:=by rw[<-al.length,jg bn,w];congr 1;simp;omega
    have bs:ir r=((ir k).drop (v*j.sz)).take (u*j.sz):=w▸Hu y.size v u;have cX:(ir k).length=k.length*j.sz:=jg y.size;have er:v*j.sz+u*j.sz<=k.length*j.sz:=by rw[<-cI];exact bD _ c7
    have et:k.length*j.sz<=j.cap*j.sz:=bD _ y.room;refine .em B P A j.jR (v*j.sz) aN j.sz arr t (0,0) ?_ C G (λx=>by rw[bu x];omega) ?_ ?_ ?_ ?_;rintro(⟨bX,bW,ca,cb⟩|hr);obtain⟨eC,ec⟩:=lH ca;have:=s.inj bX l bW j ec X cb;omega;exact s.apart l j X hr;intro d g;obtain⟨i,f,ea⟩:=L.mem g;rw[<-ea.cells.length];exact bn i f;rw[c1,p];omega;intro d g;obtain⟨i,f,I,O,ds⟩:=al.mem g;refine⟨?_,ds⟩;rw[O];rw[bs]at f;exact y.scalar i (bQ (bV f));intro x d g;obtain⟨i,f,I,_⟩:=al.get g;refine I _ ?_;rw[bs,cP]at f;split at f;rename_i bA;rw[cu]at f;have:=aX.2 _ i f;have c9:v*j.sz+x<(ir k).length:=by rw[cX];omega
    have eu:v*j.sz+x<arr.size:=by rw[p];omega
    simp_all
    grind
   obtain⟨b6,a7⟩:=ae;obtain⟨_,bS,eb,bT⟩:=aE b6 a7;exact⟨λo q=>(aE o q).1,by rw[bT];rfl,eb▸ .cons ⟨λo q=>(aE o q).1,by rw[bT];rfl,bS⟩ .nil,bS⟩;simp at b
end
end
section
section
variable {cx:Ctx}{base:Nat}{hp:af Obj}{μ:Mu}{h:H}{n:Nat}
def xK(t:St cx base hp μ h){e c:T}(q:∃d,iu hp μ e d)(a:jA h n e=D c):
 (∀d,iu hp μ e d->iu hp (oK n μ) c d)/\c.scalar=e.scalar:=by
 have s:freeze h n 12 e=D c->(∀d,iu hp μ e d->iu hp (oK n μ) c d)/\c.scalar=e.scalar:=λr=>
  let m:=Ko t 12 e c q r
  ⟨m.rel,m.scalar⟩
 cases e with
 |undef=>
  have a:some T.undef=D c:=a;cases a;exact⟨λd g=>g.cut .undef,rfl⟩
 |eZ b i o p=>
  have a: @Bool.rec (λ_=>aa T) (some (.eZ b i o p)) none (ar n b)=D c:=a;cases f:ar n b;rw[f]at a;have a:some (T.eZ b i o p)=D c:=a;cases a;have:b<n:=by
   grind [aW,cE]
  exact⟨λd g=>g.cut (.eZ _ _ _ _ this),rfl⟩;rw[f]at a;grind
 |map b=>
  have a: @Bool.rec (λ_=>aa T) (some (.map b)) none (ar n b)=D c:=a;cases f:ar n b;rw[f]at a;have a:some (T.map b)=D c:=a;cases a;have:b<n:=by
   grind [aW,cE]
  exact⟨λd g=>g.cut (.map _ this),rfl⟩;rw[f]at a;grind
 |arr b i l k j=>
  have a: @Bool.rec (λ_=>aa T) (some (.arr b i l k j)) (freeze h n 12 (.arr b i l k j)) (ar n b)=D c:=a;cases f:ar n b;rw[f]at a;have a:some (T.arr b i l k j)=D c:=a;cases a;have:b<n:=by
   grind [aW,cE]
  exact⟨λd g=>g.cut (.arr _ _ _ _ _ this),rfl⟩;rw[f]at a;grind
 |_=>exact s a
theorem In(s:St cx base hp μ h){d c:List T}{k:List am}(f:jc hp μ d k)(p:iK (jA h n) d=D c):
 jc hp (oK n μ) c k/\∀b∈c,∃i∈d,b.scalar=i.scalar:=by
 have e:jr (λg o=>(∀j,iu hp μ g j->iu hp (oK n μ) o j)/\o.scalar=g.scalar) d c:=jr.map (λb a i m=>xK s (f.mem a) m) p;refine⟨⟨e.length▸f.1,λr g q=>?_⟩,λb a=>?_⟩;have⟨b,a,l⟩:=e.get q;exact l.1 _ (f.2 r b a);have⟨i,m,l⟩:=e.mem a
 grind
def uk(i:St cx base hp μ h){d e:T}{b:am}(c:iu hp μ d b)(a:lV h n d=D e):iu hp (oK n μ) e b:=by
 cases d with
 |eQ g=>
  have a:(Z (iK (jA h n) g) λf=>some (T.eQ f))=D e:=a;obtain⟨f,hr,a⟩:=ed.1 a;cases a;obtain⟨j,rfl,k,l⟩:=c.s7
  grind [In,iu.Bg]
 |_=>exact(xK i ⟨b,c⟩ a).1 b c
def yH(k:St cx base hp μ h){c d:T}{b:am}(e:iu hp μ c b)(a:j4 h n c=D d):iu hp (oK n μ) d b:=by
 cases c with
 |tuple l=>
  have a:(Z (iK (lV h n) l) λf=>some (T.tuple f))=D d:=a;obtain⟨f,hr,a⟩:=ed.1 a;cases a;obtain⟨o,rfl,i⟩:=e.D0;have g:jr (λc d=>∀b,iu hp μ c b->iu hp (oK n μ) d b) l f:=jr.map (λm j t r b e=>uk k e r) hr;refine .tuple f o (by rw[<-g.length];simpa using i.1.symm) λs c q=>?_;have⟨m,j,p⟩:=g.get q;have:=p _ (i.2 s m j);simp_all
 |_=>exact uk k e a
theorem nD{b:T}{i:am}(g:iu hp μ b i)(a:lY n b):sL n b:=by
 cases b with
 |eZ c j m o=>exact .eZ _ _ _ _ (by have a:au c n:=a;rwa[aP]at a)
 |arr c j q p k=>exact .arr _ _ _ _ _ (by have a:au c n:=a;rwa[aP]at a)
 |map c=>exact .map _ (by have a:au c n:=a;rwa[aP]at a)
 |kA l=>
  have⟨_,_,_,_,_,_,_,_,_,d,_⟩:=g.nS;exact .kA _ λb e=>(d b e).2.low n
 |em f k=>
  refine .em _ _ λb e=>?_;rcases f with _|⟨r,f⟩
  grind [ir]
  have⟨_,_,_,_,_,_,_,_,_,_,_,_,_,_,d,_⟩:=g.xF;exact(d b e).2.low n
 |undef=>grind [lY]
 |func=>grind [lY]
 |iface=>grind [lY]
 |iter=>grind [lY]
 |eQ=>grind [lY]
 |tuple=>grind [lY]
 |_=>constructor
def Tc{i:T}(g:below n i)(b:∀c∈i.cells,∃d,iu hp μ c d):∀c∈i.cells,sL n c:=by
 cases i with
 |eQ e=>
  intro c a;have⟨d,b⟩:=b c a;exact nD b (uc (show AU (lY n) e=true from g) c a)
 |func p e=>
  intro c a;have⟨d,b⟩:=b c a;simp[T.cells]at a;subst a;obtain⟨m,rfl,j⟩:=b.vz;exact .func _ _ λl f=>by have⟨o,k⟩:=j.mem f;exact nD k (uc (show AU (lY n) e=true from g) l f)
 |tuple e=>
  intro c a;have⟨d,b⟩:=b c a;simp[T.cells]at a;subst a;obtain⟨m,rfl,j⟩:=b.D0;exact .tuple _ λl f=>by have⟨o,k⟩:=j.mem f;exact nD k (uc (show AU (lY n) e=true from g) l f)
 |_=>
  intro c a;have⟨d,b⟩:=b c a;simp[T.cells]at a;subst a;exact nD b g
def HT{a:Nat}{c:List jI}(b:vL n a c):∀d e,d<a->c[d]? =D e->∀j∈e.gU,below n j=true:=by
 induction a generalizing c with
 |zero=>omega
 |succ a m=>
  intro d e k l;rcases c with _|⟨g,i⟩
  grind
  have b: @Bool.rec (λ_=>Bool) false (vL n a i) (AU (below n) g.gU):=b;cases f:AU (below n) g.gU;rw[f]at b;grind;rw[f]at b
  grind [uc]
def St.cut(c:St cx base hp μ h)(y:n<=h.size){low:Nat}(hl:∀a b e,a<n->μ a=D b->h.get a=D e->∀f∈ir e.gU,sL n f):
 St cx base hp (oK n μ) ⟨n,low,h.iv.drop (h.size-n)⟩:=by
 have t:∀a,a<n->(⟨n,low,h.iv.drop (h.size-n)⟩:H).get a=h.get a:=by
  intro a d;rw[H.get_eq,H.get_eq];have g:a<h.size:=G
  grind
 refine⟨?_,c.fit,?_,?_,?_,λa b d=>c.apart a b (lH d).2,c.uv,?_⟩;simp[List.length_drop,c.wf];omega;intro a b d;have⟨j,k⟩:=lH d;have⟨e,i,u⟩:=c.box a b k;exact⟨e,t a j▸i,u.cut (hl a b e j k i)⟩;intro a m b l g q r;exact c.inj a m b l (lH g).2 (lH q).2 r;intro a b d;exact c.low a b (lH d).2;intro p o s;have:=c.CO p o s;refine this.cut ?_;have⟨_,_,_,_,_,_,_,_,_,v,_⟩:=this.nS;exact .kA _ λf x=>(v f x).2.low n
def St.PU(a:St cx base hp μ h)(e:Nat):St cx base hp μ ⟨h.size,e,h.iv⟩:=by
 refine⟨a.wf,a.fit,λc b d=>?_,a.inj,a.low,a.apart,a.uv,a.CO⟩;have⟨i,g,f⟩:=a.box c b d
 grind [H.get_eq]
def Left(cx:Ctx)(base:Nat)(w w':World)(μ:Mu)(d:H)(e:T)(b:H)(c:am):Prop:=
 ∃a,iu w'.heap a e c/\St cx base w'.heap a b/\sM w μ w' a/\BX μ a d.size b.size
theorem H.uT(h:H)(b a:Nat):(⟨h.size,b,h.iv⟩:H).get a=h.get a:=by rw[H.get_eq,H.get_eq]
def Hr{n low0 low:Nat}{b:List jI}(c:mY ⟨n,n,b⟩ h)(hl:low<=low0)(g:∀a,a<n->a<low->a<h.low):mY ⟨n,low0,b⟩ ⟨h.size,low,h.iv⟩:=by
 have d:∀a,(⟨n,low0,b⟩:H).get a=(⟨n,n,b⟩:H).get a:=λa=>by rw[H.get_eq,H.get_eq]
 refine⟨c.wf,c.size,hl,λa e i=>?_,λa j f=>?_⟩;rw[H.uT,d];exact c.mp a e (g a e i);rw[d]at f;have⟨m,k,l⟩:=c.ver a j f
 grind [H.uT]
def J9{low0:Nat}{d f:T}{e:H}(a:pP low0 d h=D (f,e)):f=d/\e=⟨h.size,if h.low<low0 then h.low else low0,h.iv⟩:=by
 obtain⟨i,b,g⟩:=h;have a: @Bool.rec (λ_=>aa (T×H)) (some (d,⟨i,low0,g⟩)) (some (d,⟨i,b,g⟩)) (Nat.blt b low0)=D (f,e):=a;cases c:Nat.blt b low0;rw[c]at a;simp[ay,aI]at a;have:¬b<low0:=λj=>by rw[<-aP,c]at j;grind
 grind
 rw[c]at a;simp[ay,aI]at a;have:b<low0:=by rwa[aP]at c
 grind
variable {w w':World}{μ0:Mu}{low0:Nat}{vM:List jI}
def BF{c d:T}{b:am}{a:H}(k:St cx base w'.heap μ h)(f:mY ⟨n,n,vM⟩ h)(l:sM w μ0 w' μ)(e:BX μ0 μ n h.size)(i:iu w'.heap μ c b)
 (j:pP low0 c h=D (d,a)):Left cx base w w' μ0 ⟨n,low0,vM⟩ d a b/\mY ⟨n,low0,vM⟩ a:=by
 obtain⟨rfl,rfl⟩:=J9 j;exact⟨⟨μ,i,k.PU _,l,e⟩,Hr f (by split<;>omega) (λm _ g=>by split at g<;>omega)⟩
def Me{bn:Bool}{x y:T}{S:am}{B:H}(bp:St cx base w.heap μ0 ⟨n,low0,vM⟩)(E:St cx base w'.heap μ h)(A:mY ⟨n,n,vM⟩ h)(g:sM w μ0 w' μ)(I:BX μ0 μ n h.size)
 (O:iu w'.heap μ x S) (b:G8 bn n low0 x h=D (y,B)):Left cx base w w' μ0 ⟨n,low0,vM⟩ y B S/\mY ⟨n,low0,vM⟩ B:=by
 cases bn with
 |true=>exact BF E A g I O b
 |false=>
  have b: @Option.rec T (λ_=>aa (T×H)) (pP low0 x h) (λy=>xz n low0 x y h) (j4 h n x)=D (y,B):=b;cases ae:j4 h n x with
  |none=>rw[ae]at b;exact BF E A g I O b
  |some L=>
   rw[ae]at b;have cv:=yH E O ae;have an:n<=h.size:=A.size;have aX:∀a c,μ0 a=D c->a<n:=λa c d=>bp.fN d;have bA:∀s,s<=low0->(∀a,a<n->a<s->a<h.low)->(∀a c e,a<n->μ a=D c->h.get a=D e->∀z∈ir e.gU,sL n z)->
    Left cx base w w' μ0 ⟨n,low0,vM⟩ L ⟨n,s,h.iv.drop (h.size-n)⟩ S/\mY ⟨n,low0,vM⟩ ⟨n,s,h.iv.drop (h.size-n)⟩:=by
    intro s al ca hl;have aN:=St.cut (low:=s) E an hl;refine⟨⟨oK n μ,cv,aN,⟨⟨g.ext.size,λi P cb=>?_,λa c d=>?_,g.ext.qy,g.ext.kept⟩,g.os,g.tape,g.output⟩,az _,λa d=>?_,λa cX bi=>absurd cX (by show¬n<=a;have bi:a<n:=bi;omega)⟩,?_⟩;have⟨bH,bN⟩:=g.ext.qd i P cb;exact⟨bH,AE bN⟩;rw[xM (aX a c d)];exact g.ext.mu a c d;left;have⟨c,C⟩:=Option.ne_none_iff_exists'.1 d;have⟨ef,c6⟩:=lH C;rcases I.2.1 a (by rw[c6];simp)with k|k
    exact k;omega;have W:=Hr (low:=s) A al ca;have a7:∀a,a<n->(⟨n,s,h.iv.drop (h.size-n)⟩:H).get a=h.get a:=by
     intro a d;rw[H.get_eq,H.get_eq];have N:a<h.size:=G;simp[d,N,cu];congr 1;omega
    refine⟨aN.wf,az _,W.low,λa d b9=>?_,λa R r=>?_⟩;rw[a7 a d];have:=W.mp a d b9;rwa[H.uT]at this;rw[a7 a (H.fN r)];have:=W.ver a R r;simpa only[H.uT]using this
   have bs:∀a c e,a<n->a<h.low->μ a=D c->h.get a=D e->∀z∈ir e.gU,sL n z:=by
    intro a c e d al C v;have a8:=A.mp a d al;rw[v]at a8;rcases I.2.1 a (by rw[C];simp)with k|k
    have⟨bu,bT⟩:=Option.ne_none_iff_exists'.1 k;have⟨et,av,Q⟩:=bp.box a bu bT;have bC:(⟨n,low0,vM⟩:H).get a=(⟨n,n,vM⟩:H).get a:=by rw[H.get_eq,H.get_eq]
    rw[bC,<-a8]at av;cases av;exact Q.low aX;omega
   obtain⟨F,low,M⟩:=h;have b:(Z (kZ (Nat.sub F n) M) λq=>
    @Bool.rec (λ_=>aa (T×H))
     (@Bool.rec (λ_=>aa (T×H)) (pP low0 x ⟨F,low,M⟩)
       (@Bool.rec (λ_=>aa (T×H)) (some (L,⟨n,low0,q⟩)) (some (L,⟨n,low,q⟩)) (Nat.blt low low0)) (vL n (Nat.sub n low) q))
     (some (L,⟨n,low0,q⟩)) (Nat.ble n low))=D (y,B):=b
   obtain⟨q,o,b⟩:=ed.1 b;rw[nV]at o;have o:q=M.drop (F-n):=by
    split at o;simp[ay]at o;exact o.symm;simp at o
   have ds:low0<=n\/n<low0:=G;cases K:Nat.ble n low with
   |true=>
    rw[K]at b;simp[ay,aI]at b;obtain⟨rfl,rfl⟩:=b;have cp:n<=low:=bG K;rw[o];exact bA _ (az _) (λa d _=>by show a<low;omega) λa c e d=>bs a c e d (by show a<low;omega)
   |false=>
    rw[K]at b;have cp:low<n:=by
     rcases aW low n with k|k;exact k;rw[cE k]at K;simp at K
    cases X:vL n (Nat.sub n low) q with
    |false=>rw[X]at b;exact BF E A g I O b
    |true=>
     rw[X]at b;have c7:∀a c e,a<n->μ a=D c->(⟨F,low,M⟩:H).get a=D e->∀z∈ir e.gU,sL n z:=by
      intro a c e d C v;by_cases bW:a<low;exact bs a c e d bW C v
      .have⟨er,ap,Q⟩:=E.box a c C;rw[v]at ap;cases ap;have b7:q[n-1-a]? =D e:=by
        rw[H.get_eq]at v;have an:n<=F:=an;have bX:a<F:=G;simp[bX]at v;rw[o,cu,<-v];congr 1;omega
       have Y:=HT X (n-1-a) e (by show _<n-low;omega) b7;intro z cL;have⟨U,f,p⟩:=List.mem_flatMap.1 cL;cases P:e.it with
       |true=>
        obtain⟨_,⟨eo,c4,b6,_⟩|⟨de,ea,eb,c1⟩|⟨ec,m,c4,eh,dd,N,aA,aE,dn⟩⟩:=Q.iter P;rw[b6]at f;simp at f;rcases f with rfl|rfl<;>(simp[T.cells]at p;subst p;constructor)
        rotate_left
        .have l:=Y _ f;rw[N]at f;simp at f;rcases f with rfl|rfl|rfl|rfl
         simp[T.cells]at p;subst p;exact nD aA l
         all_goals (simp[T.cells]at p;subst p;constructor)
        have⟨j,b8⟩:=List.mem_iff_getElem?.1 f;obtain⟨k,u,ee,rfl,di,dk,bS,dm⟩:=c1 j U b8;have l:=Y _ f;have l:AU (lY n) [k,u]:=l;simp[T.cells]at p;subst p;refine .tuple _ λR r=>?_;have bZ:=uc l R r;simp at r;rcases r with rfl|rfl;exact nD bS bZ
        grind [nD]
       |false=>
        have⟨c9,t,N,aA,aE⟩:=(Q.plain P).row;exact Tc (Y U f) (λR r=>aE.mem (List.mem_flatMap.2 ⟨U,f,r⟩)) z p
     have:y=L/\B=⟨n,if low<low0 then low else low0,q⟩:=by
      cases l:Nat.blt low low0;rw[l]at b;simp[ay,aI]at b;have:¬low<low0:=λk=>by rw[<-aP,l]at k;grind
      grind
      rw[l]at b;simp[ay,aI]at b;have:low<low0:=by rwa[aP]at l
      grind
     obtain⟨rfl,rfl⟩:=this;rw[o]
     grind
