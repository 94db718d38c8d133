/- Texts TiWalk to TiData. -/
import Derived.Test.YtmaeadedikngoaaGreatDoorA8
import Derived.KernelRfl
set_option linter.unusedVariables false
set_option linter.unusedSimpArgs false
set_option linter.defProp false
namespace Go.TI
noncomputable section
noncomputable section
variable {cx:Ctx}{cf:iG}{mask:Nat}{e:Env}{h:H}
attribute [simp] Oi kT jn H.kv
@[simp] theorem YB (c b:fJ) (a:Nat):fy cx mask ⟨c,b⟩ (.tmp a)=if(mask>>>a)&&&1=1 then dF c a else dF b a:=AN c b a
@[simp] theorem YC (a:ak) (b:Int):fy cx mask e (.const (.int a b))=some (.int a b):=rfl
@[simp] theorem V3 (a:Bool):fy cx mask e (.const (.bool a))=some (.bool a):=rfl
@[simp] theorem V2:fy cx mask e (.const (.slice none 0 0))=some (.dC [] false):=rfl
@[simp] theorem Ng (b:ByteArray):fy cx mask e (.const (.string b))=some (.str (b.data.toList.map UInt8.toNat)):=by
 show(dJ (zr b.data.toList) λa=>some (T.str a))=_;have:∀a:List UInt8,zr a=some (a.map UInt8.toNat):=by
  intro a;induction a with
  |nil=>rfl
  |cons f a c=>
   show(dJ (f6 f.toNat) λg=>dJ (zr a) λd=>some (g::d))=_;rw[c];simp
 rw[this];rfl
@[simp] theorem K0 (a:aj):fy cx mask e (.func a)=some (.func a []):=rfl
@[simp] theorem Ga (a:List ah):pi cx mask e a=fw (fy cx mask e) a:=rfl
def jT(a:Int):aa Nat:=if 0<=a then some a.toNat else none
@[simp] theorem VQ (b:ak) (a:Int):oZ (.int b a)=jT a:=by
 unfold jT;cases a with
 |ofNat c=>rw[aq dp];rfl
 |negSucc c=>rw[ao dj];rfl
@[simp] theorem HR (a:Nat):jT (a:Int)=some a:=by unfold jT;rw[aq dj];rfl
@[simp] theorem TM (a:Nat):jT (no_index (OfNat.ofNat a):Int)=some a:=HR a
def ed{a:Int}(h:0<=a):jT a=some a.toNat:=by unfold jT;rw[aq h]
@[simp] theorem aaF (a:ah):iW (.move a) cx mask e h=val h (fy cx mask e a):=rfl
@[simp] theorem V7 (a:ah):iW (.assign a) cx mask e h=val h (fy cx mask e a):=rfl
def mz(a:aa T)(b c:aa kW):aa kW:=dJ a λa=>match a with| .bool d=>if d=true then b else c|_=>none
@[simp] theorem dY (c:Bool) (a b:aa kW):mz (some (.bool c)) a b=if c=true then a else b:=rfl
@[simp] theorem QO (a b c:ah):iW (.pick a b c) cx mask e h=mz (fy cx mask e a) (val h (fy cx mask e b)) (val h (fy cx mask e c)):=by
 show(dJ (fy cx mask e a) λa=>_)=_;unfold mz;cases fy cx mask e a with
 |none=>rfl
 |some f=>cases f<;>first|rfl|(rename_i d;cases d<;>rfl)
@[simp] theorem UH (a:Ty):vU cx a=(match a.u with
 | .array _ b=>Option.casesOn (cx.ty b) false λd=>(match d.u with| .int c=>CD c .u8|_=>false)
 |_=>false):=rfl
@[simp] theorem Y1 (b:ab):iW (.alloc b) cx mask e h=dJ (cx.ty b) λa=>if vU cx a=true then some (.val (.ptr h.size 0 0 0) (h.cons (kS 1 true a.zero)))else some (.val (.ptr h.size 0 0 0) (h.cons (kS a.size true [a.jV]))):=by
 show(dJ (cx.ty b) λa=>_)=_;cases cx.ty b with
 |none=>rfl
 |some a=>
  simp only[dO];cases vU cx a<;>simp
@[simp] theorem DT (b:Nat) (c:Bool) (a:List T):kS b c a=⟨b,0,0,c,false,a⟩:=rfl
@[simp] theorem acp (d:ab) (b:ah):iW (.box d b) cx mask e h=dJ (fy cx mask e b) λa=>fP a.gD (some (.val (.ptr h.size 0 0 0) (h.cons ⟨a.cells.length,0,0,true,false,[a]⟩))):=by
 show(dJ (fy cx mask e b) λa=>fP a.gD (jl (h.new (λc=> .ptr c 0 0 0) (kS (kx a.cells) true [a]))))=_;simp
def wX(cx:Ctx)(mask:Nat)(e:Env):List (Nat×ah)->aa (List (Nat×T))
 | []=>some []
 |(b,d)::c=>dJ (fy cx mask e d) λa=>fP a.gD (dJ (wX cx mask e c) λf=>some ((b,a)::f))
@[simp] theorem Ub:wX cx mask e []=some []:=rfl
@[simp] theorem F9 (a:Nat) (c:ah) (b:List (Nat×ah)):wX cx mask e ((a,c)::b)=dJ (fy cx mask e c) λd=>fP d.gD (dJ (wX cx mask e b) λf=>some ((a,d)::f)):=rfl
def Bq(a:List (Nat×ah)):partsOf cx mask e a=wX cx mask e a:=by
 induction a with
 |nil=>rfl
 |cons i a g=>
  obtain⟨f,c⟩:=i;show(dJ (dJ (fy cx mask e c) λb=>fP b.gD (some (f,b))) λk=>dJ (partsOf cx mask e a) λj=>some (k::j))=_;rw[g,F9];cases fy cx mask e c with
  |none=>rfl
  |some b=>cases d:b.gD<;>simp[d]
def B4(cx:Ctx)(c:List (Nat×ab)):List (Nat×T)->List T->aa (List T)
 | [],a=>some a
 |(g,d)::i,a=>dJ (c[g]?) λb=>dJ (cx.ty b.2) λj=>fP (decide (d.cells.length=j.size)) (dJ (kt a b.1 d.cells) λf=>B4 cx c i f)
@[simp] theorem Wo (b:List (Nat×ab)) (a:List T):B4 cx b [] a=some a:=rfl
@[simp] theorem IS (a:List (Nat×ab)) (f:Nat) (b:T) (g:List (Nat×T)) (c:List T):B4 cx a ((f,b)::g) c=dJ (a[f]?) λd=>dJ (cx.ty d.2) λj=>fP (decide (b.cells.length=j.size)) (dJ (kt c d.1 b.cells) λi=>B4 cx a g i):=rfl
def Fa(g:List (Nat×ab)):∀(c:List (Nat×T)) (f:List T),lU (λb=>dJ (lF g b) λa=>dJ (cx.ty a.2) λd=>some (a.1,d.size)) c f=B4 cx g c f:=by
 intro c;induction c with
 |nil=>intro f;rfl
 |cons m c l=>
  intro f;obtain⟨b,j⟩:=m;show(dJ (dJ (lF g b) λa=>dJ (cx.ty a.2) λd=>some (a.1,d.size)) λi=>fP (Nat.beq (kx j.cells) i.2) (dJ (kt f i.1 j.cells) λk=>lU (λb=>dJ (lF g b) λa=>dJ (cx.ty a.2) λd=>some (a.1,d.size)) c k))=_;rw[IS,kl];cases g[b]? with
  |none=>rfl
  |some a=>
   simp only[dO];cases cx.ty a.2 with
   |none=>rfl
   |some d=>simp only[dO,jq,um,l]
def B7(b:Nat):List (Nat×T)->List T->aa (List T)
 | [],a=>some a
 |(f,c)::g,a=>fP (decide (c.cells.length=b)) (dJ (kt a (f*b) c.cells) λd=>B7 b g d)
@[simp] theorem Wp (b:Nat) (a:List T):B7 b [] a=some a:=rfl
@[simp] theorem IT (a d:Nat) (b:T) (f:List (Nat×T)) (c:List T):B7 a ((d,b)::f) c=fP (decide (b.cells.length=a)) (dJ (kt c (d*a) b.cells) λg=>B7 a f g):=rfl
def Dh(a:Nat):∀(b:List (Nat×T)) (c:List T),lU (λd=>some (Nat.mul d a,a)) b c=B7 a b c:=by
 intro b;induction b with
 |nil=>intro c;rfl
 |cons j b i=>
  intro c;obtain⟨d,f⟩:=j;show(fP (Nat.beq (kx f.cells) a) (dJ (kt c (Nat.mul d a) f.cells) λg=>lU (λd=>some (Nat.mul d a,a)) b g))=_;simp only[jq,um,i,IT];rfl
@[simp] theorem VU (c b:T) (a:List T):kt (c::a) 0 [b]=some (b::a):=by rw[sx];simp
@[simp] theorem VT (f c d:T) (a b:List T):kt (f::a) 0 (c::d::b)=dJ (kt a 0 (d::b)) λg=>some (c::g):=by
 rw[sx,sx];simp only[aZ,Nat.zero_add,List.take_zero,List.nil_append];by_cases hl:b.length+1<=a.length
 ·rw[aq dj,aq dj];simp
 ·rw[ao dj,ao dj];rfl
@[simp] theorem Ye (a:T) (b d:List T) (c:Nat):kt (a::b) (c+1) d=dJ (kt b c d) λf=>some (a::f):=rfl
def Jb(cx:Ctx)(h:H)(b:Ty)(c:List (Nat×T)):aa kW:=match b.u with
 | .struct f=>dJ (B4 cx f c b.zero) λa=>some (.val (.agg a) h)
 | .array _ d=>dJ (cx.ty d) λg=>dJ (B7 g.size c b.zero) λa=>some (.val (.agg a) h)
 |_=>none
@[simp] theorem WB (a:Ty) (c:List (Nat×T)):Jb cx h a c=(match a.u with
 | .struct f=>dJ (B4 cx f c a.zero) λb=>some (.val (.agg b) h)
 | .array _ d=>dJ (cx.ty d) λg=>dJ (B7 g.size c a.zero) λb=>some (.val (.agg b) h)
 |_=>none):=rfl
@[simp] theorem Y0 (c:ab) (a:List (Nat×ah)):iW (.build c a.toArray) cx mask e h=dJ (cx.ty c) λb=>dJ (wX cx mask e a) λa=>Jb cx h b a:=by
 show(dJ (cx.ty c) λb=>dJ (partsOf cx mask e a) λa=>_)=_;rw[Bq];congr 1;funext b;congr 1;funext a;unfold Jb;cases b.u<;>first|rfl|(simp only[Fa,Dh,xx])
def zo(c:Nat):List (Nat×T)->List T->aa (List T)
 | [],a=>some a
 |(b,d)::f,a=>fP (decide (d.cells.length=c)) (fP (decide (b<a.length)) (zo c f (a.set b d)))
@[simp] theorem UZ (b:Nat) (a:List T):zo b [] a=some a:=rfl
@[simp] theorem Hc (c b:Nat) (d:T) (f:List (Nat×T)) (a:List T):zo c ((b,d)::f) a=fP (decide (d.cells.length=c)) (fP (decide (b<a.length)) (zo c f (a.set b d))):=rfl
def E9(c:Nat):∀(b:List (Nat×T)) (a:List T),oN c b a=zo c b a:=by
 intro b;induction b with
 |nil=>intro a;rfl
 |cons k b j=>
  intro a;obtain⟨d,f⟩:=k;show(fP (Nat.beq (kx f.cells) c) (dJ (kj a d f) λg=>oN c b g))=_;simp only[jq,um,j,Hc,km];by_cases i:d<a.length<;>simp[i]
@[simp] theorem PX (f:ab) (b:Nat) (c:List (Nat×ah)):iW (.buildSlice f b c.toArray) cx mask e h=dJ (cx.ty f) λd=>(match d.u with
 | .slice g=>dJ (cx.ty g) λa=>dJ (wX cx mask e c) λc=>fP (decide (1<=a.size))<|fP (decide (b*a.size<=65536)) (dJ (zo a.size c (List.replicate b a.jV)) λi=>
  some (.val (.arr h.size 0 0 b false) (h.cons ⟨a.size,0,0,true,false,i⟩)))
 |_=>none):=by
 show(dJ (cx.ty f) λd=>_)=_;congr 1;funext d;cases d.u<;>first|rfl|skip
 rename_i g;simp only[Bq,E9,m6,H.kv,Kr,DT,zx];rfl
@[simp] theorem aaG (b:ab) (a:ah):iW (.load b a) cx mask e h=dJ (cx.ty b) λc=>dJ (fy cx mask e a) λa=>val h (h.load c a):=rfl
def ldB(a:iJ)(c d f:Nat)(g:Ty):aa T:=fP (decide (a.ep=c)) (if a.it=true then none else dJ (a.ee[d]?) λe=>dJ (jF f e.cells) λb=>jW g b)
@[simp] theorem UB (l b m:Nat) (k f:Bool) (c:List T) (a d g:Nat) (i:Ty):ldB ⟨l,b,m,k,f,c⟩ a d g i=fP (decide (b=a)) (if f=true then none else dJ (c[d]?) λe=>dJ (jF g e.cells) λj=>jW i j):=id rfl
@[simp] theorem UA (j:Ty) (b c f i:Nat):h.load j (.ptr b c f i)=dJ (h.get b) λa=>ldB a c f i j:=by
 show(dJ (dJ (h.get b) λa=>iJ.casesOn a λ_ d _ _ g l=>fP (Nat.beq d c) (Bool.casesOn g (lF l f) none)) λe=>dJ (jF i e.cells) λk=>jW j k)=_;cases h.get b with
 |none=>rfl
 |some a=>
  obtain⟨o,d,p,n,g,m⟩:=a;simp only[dO,UB,um,kl];cases decide (d=c)<;>cases g<;>simp
def FQ(h:H)(c:Nat)(a:iJ)(f b g:Nat)(i:List T):aa H:=fP (decide (a.ep=f)) (if a.it=true then none else dJ (a.ee[b]?) λe=>dJ (mt e g i) λd=>some (dQ h c ⟨a.sz,a.ep,a.ver+1,a.exact,false,a.ee.set b d⟩))
@[simp] theorem TQ (d k a l:Nat) (g i:Bool) (b:List T) (f c j:Nat) (m:List T):FQ h d ⟨k,a,l,g,i,b⟩ f c j m=fP (decide (a=f)) (if i=true then none else dJ (b[c]?) λe=>dJ (mt e j m) λn=>some (dQ h d ⟨k,a,l+1,g,false,b.set c n⟩)):=id rfl
def xJ{a:Nat}{o:iJ}(c:h.get a=some o)(f:iJ):h.put a f=some (dQ h a f):=by
 have:∃d,h.put a f=some d:=by
  obtain⟨b,j,g⟩:=h;rw[H.get_eq]at c;simp only at c;by_cases i:a<b
  ·rw[aq i]at c;have hl:b-1-a<g.length:=by
    rcases aD (b-1-a) g.length with n|l
    ·exact n
    ·rw[aK l]at c;simp at c
   show∃d,(fP (Nat.blt a b) (dJ (kj g (Nat.sub (Nat.sub b 1) a) f) λk=> @Bool.rec (λ_=>aa H) (some ⟨b,j,k⟩) (some ⟨b,a,k⟩) (Nat.blt a j)))=some d;rw[show Nat.blt a b=true by rw[aG];exact i,gX,km,aq (by show b-1-a<_;omega),dO];cases Nat.blt a j<;>exact⟨_,rfl⟩
  ·rw[ao i]at c;simp at c
 obtain⟨d,m⟩:=this;unfold dQ;rw[m];rfl
@[simp] theorem aaw (l:Ty) (b i a g:Nat) (c:T):h.store l (.ptr b i a g) c=fP (decide (c.cells.length=l.size)) (dJ (h.get b) λf=>FQ h b f i a g c.cells):=by
 show(fP (Nat.beq (kx c.cells) l.size) (dJ (h.get b) λf=>iJ.casesOn f λp j q exact k n=>
  fP (Nat.beq j i) (@Bool.rec (λ_=>aa H) (dJ (lF n a) λe=>dJ (mt e g c.cells) λm=>dJ (kj n a m) λd=>
   dJ (f6 (Nat.succ q)) λv=>h.put b ⟨p,j,v,exact,false,d⟩) none k)))=_
 simp only[jq,um];cases r:h.get b with
 |none=>rfl
 |some f=>
  obtain⟨p,j,q,w,k,d⟩:=f;simp only[dO,TQ];congr 1;congr 1;cases k with
  |true=>rfl
  |false=>
   simp only[kl,cd,br];cases o:d[a]? with
   |none=>rfl
   |some e=>
    simp only[dO];cases mt e g c.cells with
    |none=>rfl
    |some m=>
     have t:a<d.length:=by
      rcases aD a d.length with u|s
      ·exact u
      ·rw[aK s]at o;simp at o
     simp only[dO,km,aq t,iq,xJ r]
@[simp] theorem YU (b:ab) (a d:ah):iW (.store b a d) cx mask e h=dJ (cx.ty b) λg=>dJ (fy cx mask e a) λa=>dJ (fy cx mask e d) λc=>fP c.gD (dJ (h.store g a c) λf=>some (.val .undef f)):=rfl
def ncW(h:H)(a:T):aa kW:=match a with| .ptr .. | .je _| .func .. =>some (.val a h)|_=>none
@[simp] theorem aaH (a b c d:Nat):ncW h (.ptr a b c d)=some (.val (.ptr a b c d) h):=rfl
@[simp] theorem SU (a:ah):iW (.nilCheck a) cx mask e h=dJ (fy cx mask e a) λb=>ncW h b:=rfl
@[simp] theorem Wb (d f:ah) (b:ak) (c:Int) (a:T):Aa d f (.int b c) a=true:=id rfl
@[simp] theorem Wa (c d:ah) (b:List Nat) (a:T):Aa c d (.str b) a=true:=id rfl
@[simp] theorem Ut (c d:ah) (b:Bool) (a:T):Aa c d (.bool b) a=true:=id rfl
@[simp] theorem aco (g j:ab) (c d:ah):iW (.binOp .eql g c d j) cx mask e h=dJ (cx.ty g) λi=>dJ (fy cx mask e c) λa=>dJ (fy cx mask e d) λb=>fP (Aa c d a b) (dJ (Md cx i a b) λf=>some (.val (.bool f) h)):=by
 show(dJ (cx.ty g) λi=>dJ (fy cx mask e c) λa=>dJ (fy cx mask e d) λb=>fP (Aa c d a b) (dJ (Md cx i a b) λf=>val h (wn f)))=_;simp
@[simp] theorem acf (g j:ab) (c d:ah):iW (.binOp .neq g c d j) cx mask e h=dJ (cx.ty g) λi=>dJ (fy cx mask e c) λa=>dJ (fy cx mask e d) λb=>fP (Aa c d a b) (dJ (Md cx i a b) λf=>some (.val (.bool !f) h)):=by
 show(dJ (cx.ty g) λi=>dJ (fy cx mask e c) λa=>dJ (fy cx mask e d) λb=>fP (Aa c d a b) (dJ (Md cx i a b) λf=>val h (wn (!f))))=_;simp
@[simp] theorem aa3 (d:Ty) (a:ak) (b c:Int) (f:d.u= .int a):Md cx d (.int a b) (.int a c)=some (decide (b=c)):=by unfold Md;rw[f];simp
@[simp] theorem aa2 (c:Ty) (a b:List Nat) (d:c.u= .str):Md cx c (.str a) (.str b)=some (decide (a=b)):=by unfold Md;rw[d];simp
@[simp] theorem ZP (c:Ty) (a b:Bool) (d:c.u= .bool):Md cx c (.bool a) (.bool b)=some (a==b):=by unfold Md;rw[d];simp
def wx(c:BinOp)(d f:aa T)(h:H):aa kW:=dJ d λa=>dJ f λb=>val h (binop c a b)
@[simp] theorem Zv (c:BinOp) (a b:T):wx c (some a) (some b) h=val h (binop c a b):=rfl
@[simp] theorem acq (c d:ab) (a b:ah):iW (.binOp .add c a b d) cx mask e h=wx .add (fy cx mask e a) (fy cx mask e b) h:=rfl
@[simp] theorem acb (c d:ab) (a b:ah):iW (.binOp .sub c a b d) cx mask e h=wx .sub (fy cx mask e a) (fy cx mask e b) h:=rfl
@[simp] theorem acg (c d:ab) (a b:ah):iW (.binOp .mul c a b d) cx mask e h=wx .mul (fy cx mask e a) (fy cx mask e b) h:=rfl
@[simp] theorem ace (c d:ab) (a b:ah):iW (.binOp .quo c a b d) cx mask e h=wx .quo (fy cx mask e a) (fy cx mask e b) h:=rfl
@[simp] theorem acd (c d:ab) (a b:ah):iW (.binOp .rem c a b d) cx mask e h=wx .rem (fy cx mask e a) (fy cx mask e b) h:=rfl
@[simp] theorem acj (c d:ab) (a b:ah):iW (.binOp .lss c a b d) cx mask e h=wx .lss (fy cx mask e a) (fy cx mask e b) h:=rfl
@[simp] theorem ack (c d:ab) (a b:ah):iW (.binOp .leq c a b d) cx mask e h=wx .leq (fy cx mask e a) (fy cx mask e b) h:=rfl
@[simp] theorem acm (c d:ab) (a b:ah):iW (.binOp .gtr c a b d) cx mask e h=wx .gtr (fy cx mask e a) (fy cx mask e b) h:=rfl
@[simp] theorem acn (c d:ab) (a b:ah):iW (.binOp .geq c a b d) cx mask e h=wx .geq (fy cx mask e a) (fy cx mask e b) h:=rfl
@[simp] theorem ads (a:UnOp) (d:ab) (b:ah):iW (.unOp a d b) cx mask e h=dJ (fy cx mask e b) λc=>val h (unop a c):=rfl
@[simp] theorem QR (c:ab) (a:ah) (b:Nat):iW (.fieldAddr c a b) cx mask e h=dJ (vX cx c b) λd=>dJ (fy cx mask e a) λa=>faV d.1 h a:=rfl
@[simp] theorem UV (c:ab) (a:Nat):vX cx c a=dJ (cx.ty c) λd=>(match d.u with| .struct b=>b[a]? |_=>none):=by
 show(dJ (cx.ty c) λd=>match d.u with| .struct b=>lF b a|_=>none)=_;simp
def fdW(h:H)(off:Nat)(c:Ty)(d:T):aa kW:=match d with| .agg a=>dJ (jF off a) λb=>val h (jW c b)|_=>none
@[simp] theorem aa0 (off:Nat) (b:Ty) (a:List T):fdW h off b (.agg a)=dJ (jF off a) λc=>val h (jW b c):=rfl
@[simp] theorem YX (d:ab) (a:ah) (b:Nat):iW (.field d a b) cx mask e h=dJ (vX cx d b) λc=>dJ (cx.ty c.2) λf=>dJ (fy cx mask e a) λa=>fdW h c.1 f a:=rfl
def ixW(cx:Ctx)(h:H)(g:Ty)(d:T)(c:Nat):aa kW:=match g.u with
 | .slice a=>dJ (cx.ty a) λb=>kf h b d c
 | .array f a=>dJ (cx.ty a) λb=>oc h f b d c
 |_=>none
@[simp] theorem acF (f:Ty) (d:T) (b:Nat):ixW cx h f d b=(match f.u with
 | .slice a=>dJ (cx.ty a) λc=>kf h c d b
 | .array g a=>dJ (cx.ty a) λc=>oc h g c d b
 |_=>none):=rfl
@[simp] theorem QQ (c:ab) (b a:ah):iW (.indexAddr c b a) cx mask e h=dJ (cx.ty c) λf=>dJ (fy cx mask e b) λb=>dJ (fy cx mask e a) λa=>dJ (oZ a) λd=>ixW cx h f b d:=rfl
@[simp] theorem LA (d:Ty) (b:List T) (f:Bool) (c:Nat):kf h d (.dC b f) c=dJ (b[c]?) λa=>fP (decide (a.cells.length=d.size)) (some (.val (.je a.cells) h)):=by
 show(dJ (lF b c) λa=>fP (Nat.beq (kx a.cells) d.size) (some (kW.val (.je a.cells) h)))=_;simp
@[simp] theorem Ot (i:Ty) (a c g f:Nat) (j:Bool) (d:Nat):kf h i (.arr a c g f j) d=fP (decide (d<f)) (dJ (h.get a) λb=>fP (decide (b.sz=i.size))<|fP (decide (b.ep=c)) (some (.val (.ptr a c (g+d) 0) h))):=by
 show(fP (Nat.blt d f) (dJ (h.get a) λb=>fP (Nat.beq b.sz i.size)<|fP (Nat.beq b.ep c) (dJ (f6 (Nat.add g d)) λk=>some (kW.val (.ptr a c k 0) h))))=_;simp
def icW(cx:Ctx)(h:H)(l:Ty)(c:T)(a:Nat):aa kW:=match l.u with
 | .str=>(match c with| .str k=>dJ (k[a]?) λd=>some (.val (.int .u8 d) h)|_=>none)
 | .array i g=>(match c with
  | .agg f=>dJ (cx.ty g) λb=>fP (decide (a<i)) (dJ (jF (a*b.size) f) λj=>val h (jW b j))
  |_=>none)
 |_=>none
@[simp] theorem acG (d:Ty) (b:T) (a:Nat):icW cx h d b a=(match d.u with
 | .str=>(match b with| .str l=>dJ (l[a]?) λf=>some (.val (.int .u8 f) h)|_=>none)
 | .array j i=>(match b with
  | .agg g=>dJ (cx.ty i) λc=>fP (decide (a<j)) (dJ (jF (a*c.size) g) λk=>val h (jW c k))
  |_=>none)
 |_=>none):=rfl
@[simp] theorem YW (d:ab) (a b:ah):iW (.index d a b) cx mask e h=dJ (cx.ty d) λf=>dJ (fy cx mask e a) λa=>dJ (fy cx mask e b) λb=>dJ (oZ b) λc=>icW cx h f a c:=by
 show(dJ (cx.ty d) λf=>dJ (fy cx mask e a) λa=>dJ (fy cx mask e b) λb=>dJ (oZ b) λc=>match f.u with
  | .str=>(match a with| .str n=>dJ (lF n c) λi=>val h (some (.int .u8 (.ofNat i)))|_=>none)
  | .array l k=>(match a with
   | .agg j=>dJ (cx.ty k) λg=>fP (Nat.blt c l) (dJ (jF (Nat.mul c g.size) j) λm=>val h (jW g m))
   |_=>none)
  |_=>none)=_
 simp only[kl,RD,xx];rfl
@[simp] theorem Uq (b:ah) (a:Nat):iW (.extract b a) cx mask e h=dJ (fy cx mask e b) λc=>exV h c a:=rfl
@[simp] theorem YZ (b:aj) (a:List ah) (f:af ab):iW (.call ⟨.value (.func b),a.toArray,f⟩) cx mask e h=dJ (fw (fy cx mask e) a) λc=>some (.call b c):=by
 show(dJ (pi cx mask e a) λa=>dJ (some (T.func b [])) λg=>match g with
  | .func b d=>dJ (Dp a d) λc=>some (kW.call b c)
  |_=>none)=_
 simp
def ZV(c:List T)(d:T):aa kW:=match d with| .func b a=>some (.call b (c++a))|_=>none
@[simp] theorem Wu (c:List T) (b:aj) (a:List T):ZV c (.func b a)=some (.call b (c++a)):=rfl
@[simp] theorem YY (c:Tmp) (a:List ah) (i:af ab):iW (.call ⟨.value (.tmp c),a.toArray,i⟩) cx mask e h=dJ (fw (fy cx mask e) a) λb=>dJ (fy cx mask e (.tmp c)) λd=>ZV b d:=by
 show(dJ (pi cx mask e a) λa=>dJ (fy cx mask e (.tmp c)) λd=>match d with
  | .func g f=>dJ (Dp a f) λb=>some (kW.call g b)
  |_=>none)=_
 simp only[Ga,qm,dO];rfl
@[simp] theorem acl (a:List ah) (b:ab):iW (.call ⟨.builtin .len,a.toArray,#[b]⟩) cx mask e h=dJ (fw (fy cx mask e) a) λc=>(match c with| [d]=>LV cx h [b] d|_=>none):=rfl
def CQ(cx:Ctx)(h:H)(g:Ty)(a:T):aa kW:=match g.u with
 | .str=>(match a with| .str f=>some (.val (.int .i64 f.length) h)|_=>none)
 | .slice _=>(match a with
  | .dC b _=>some (.val (.int .i64 b.length) h)
  | .fO=>some (.val (.int .i64 0) h)
  | .arr _ _ _ c _=>some (.val (.int .i64 c) h)
  |_=>none)
 | .array d _=>some (.val (.int .i64 d) h)
 |_=>none
def AL(b:Ty)(a:T):CQ cx h b a=(match b.u with
 | .str=>(match a with| .str g=>some (.val (.int .i64 g.length) h)|_=>none)
 | .slice _=>(match a with
  | .dC c _=>some (.val (.int .i64 c.length) h)
  | .fO=>some (.val (.int .i64 0) h)
  | .arr _ _ _ d _=>some (.val (.int .i64 d) h)
  |_=>none)
 | .array f _=>some (.val (.int .i64 f) h)
 |_=>none):=rfl
@[simp] theorem Zc (b:Ty) (a:List Nat) (c:b.u= .str):CQ cx h b (.str a)=some (.val (.int .i64 a.length) h):=by rw[AL,c]
@[simp] theorem DY (b:Ty) (a:List T) (c:Bool) (f:ab) (d:b.u= .slice f):CQ cx h b (.dC a c)=some (.val (.int .i64 a.length) h):=by rw[AL,d]
@[simp] theorem Lv (a:Ty) (c:ab) (b:a.u= .slice c):CQ cx h a .fO=some (.val (.int .i64 0) h):=by rw[AL,b]
@[simp] theorem Oj (b:Ty) (c d i a:Nat) (f:Bool) (j:ab) (g:b.u= .slice j):CQ cx h b (.arr c d i a f)=some (.val (.int .i64 a) h):=by rw[AL,g]
@[simp] theorem abj (a:ab) (c:T):LV cx h [a] c=dJ (cx.ty a) λb=>CQ cx h b c:=by
 show(dJ (lF [a] 0) λa=>dJ (cx.ty a) λb=>_)=_;simp only[kl,List.getElem?_cons_zero,dO];congr 1;funext b;unfold CQ;cases b.u<;>first|rfl|(cases c<;>first|rfl|(simp;try rfl))
@[simp] theorem ach (a:List ah) (b:af ab):iW (.call ⟨.builtin .min,a.toArray,b⟩) cx mask e h=dJ (fw (fy cx mask e) a) λc=>kN .min cx h b.toList c:=rfl
@[simp] theorem aci (a:List ah) (b:af ab):iW (.call ⟨.builtin .max,a.toArray,b⟩) cx mask e h=dJ (fw (fy cx mask e) a) λc=>kN .max cx h b.toList c:=rfl
@[simp] theorem acs (f:List ab) (c:ak) (a b:Int):kN .min cx h f [.int c a,.int c b]=some (.val (.int c (min a b)) h):=by
 show val h (fP (CD c c) (wP c (@Bool.rec (λ_=>Int) a b (JV b a))))=_;rw[qS,gX,nU,vQ];simp only[xx,ar,kW.val.injEq,T.int.injEq,true_and,and_true];by_cases d:b<a
 ·rw[aT d];show b=min a b;omega
 ·rw[aM d];show a=min a b;omega
@[simp] theorem act (f:List ab) (c:ak) (a b:Int):kN .max cx h f [.int c a,.int c b]=some (.val (.int c (max a b)) h):=by
 show val h (fP (CD c c) (wP c (@Bool.rec (λ_=>Int) a b (JV a b))))=_;rw[qS,gX,nU,vQ];simp only[xx,ar,kW.val.injEq,T.int.injEq,true_and,and_true];by_cases d:a<b
 ·rw[aT d];show b=max a b;omega
 ·rw[aM d];show a=max a b;omega
end
end
noncomputable section
abbrev hE:H:=⟨0,0,[]⟩
structure FE(P:ai)(cx:Ctx)(f:aj)(fn:Func)(mask:Nat)(dl:DL):Prop where
 at_:P.funcs[f]? =some fn
 ok:ww ⟨fn,mask,false,none⟩=true
 dr:mm dl (fn.body.getD .skip)=true
def mS(a:fJ):Nat->List T->Prop
 |_,[]=>True
 |i,b::c=>dF a i=some b/\mS a (i+1) c
@[simp] theorem VP (b:fJ) (a:Nat):mS b a []=True:=rfl
@[simp] theorem TC (b:fJ) (a:Nat) (c:T) (d:List T):mS b a (c::d)=(dF b a=some c/\mS b (a+1) d):=rfl
def lQ(mask:Nat):∀(d a:Nat) (f:List T),f.length<=d->∃b,lM mask d a f=some b/\(∀c,c<a->dF b c=none)/\mS b a f:=by
 intro d;induction d with
 |zero=>
  intro a f hl;have:f=[]:=aY dj;subst this;exact⟨.nil,rfl,λ_ _=>rfl,trivial⟩
 |succ d q=>
  intro a f hl;have s:∀(e:List T) (b:fJ) (c:Nat) (m:T) (g:Nat),c<g->mS b g e->mS (.cons c m b) g e:=by
   intro e;induction e with
   |nil=>intro _ _ _ _ _ _;trivial
   |cons l e r=>
    intro b c m g t o;exact⟨by rw[kT,ao dj];exact o.1,r b c m (g+1) dj o.2⟩
  cases f with
  |nil=>
   obtain⟨b,i,j,n⟩:=q (a+1) [] dp;show∃b,(dJ (f6 (Nat.succ a)) λk=> @Bool.rec (λ_=>aa fJ) (lM mask d k []) (dJ (lM mask d k []) λh=>some (.cons a .undef h)) (jS mask a))=some b/\_;rw[iq,dO];cases jS mask a with
   |false=>exact⟨b,i,λc p=>j c dj,trivial⟩
   |true=>
    refine⟨.cons a .undef b,?_,λc p=> ?_,trivial⟩
    ·show(dJ (lM mask d (a+1) []) λh=>some (fJ.cons a .undef h))=_;rw[i];rfl
    ·rw[kT,ao dj];exact j c dj
  |cons l e=>
   obtain⟨b,i,j,n⟩:=q (a+1) e (by simp at hl;omega);refine⟨.cons a l b,?_,λc p=> ?_,?_,s _ _ _ _ _ dj n⟩
   ·show(dJ (f6 (Nat.succ a)) λk=>dJ (lM mask d k e) λh=>some (fJ.cons a l h))=_;rw[iq,dO,i];rfl
   ·rw[kT,ao dj];exact j c dj
   ·rw[kT,aq rfl]
def zu(cx:Ctx)(mask:Nat)(d:List ResultVar)(e:fJ)(b:H)(c:List T->Prop):Prop:=∃a,mw cx mask ⟨e,.nil⟩ b d=some a/\c a
section
variable {P:ai}{cx:Ctx}{cf:iG}{mask:Nat}
@[simp] theorem aab (e:fJ) (c:H) (b:List T->Prop):zu cx mask [] e c b=b []:=by
 apply propext;constructor
 ·rintro⟨d,hl,a⟩;have hl:some []=some d:=hl;simp only[ar]at hl;subst hl;exact a
 ·exact λa=>⟨[],rfl,a⟩
def WV(c:aa T)(b:T->Prop):Prop:=∃a,c=some a/\b a
@[simp] theorem abr (b:T) (d:T->Prop):WV (some b) d=d b:=by
 apply propext;constructor
 ·rintro⟨e,c,a⟩;simp only[ar]at c;subst c;exact a
 ·exact λa=>⟨b,rfl,a⟩
def Eg(k:ResultVar)(l:List ResultVar)(b:fJ)(c:H)(i:List T->Prop):zu cx mask (k::l) b c i=
 WV (ResultVar.casesOn k (λh=>Env.get mask ⟨b,.nil⟩ h) (λm h=>dJ (Env.get mask ⟨b,.nil⟩ m) λn=>dJ (cx.ty h) λo=>c.load o n)) λa=>zu cx mask l b c λj=>i (a::j):=by
 apply propext;unfold zu WV mw;simp only[jn];constructor
 ·rintro⟨j,hl,d⟩;obtain⟨a,f,hl⟩:=dA.1 hl;obtain⟨g,e,hl⟩:=dA.1 hl;simp only[ar]at hl;subst hl;exact⟨a,f,g,e,d⟩
 ·rintro⟨a,f,g,e,d⟩;refine⟨a::g,?_,d⟩;rw[f,dO,e];rfl
@[simp] theorem aaa (e:Tmp) (d:List ResultVar) (a:fJ) (b:H) (c:List T->Prop):zu cx mask (.tmp e::d) a b c=WV (Env.get mask ⟨a,.nil⟩ e) λg=>zu cx mask d a b λf=>c (g::f):=Eg _ d a b c
@[simp] theorem WM (e:Tmp) (f:ab) (d:List ResultVar) (b:fJ) (a:H) (c:List T->Prop):zu cx mask (.cell e f::d) b a c=WV (dJ (Env.get mask ⟨b,.nil⟩ e) λh=>dJ (cx.ty f) λi=>a.load i h) λj=>zu cx mask d b a λg=>c (j::g):=Eg _ d b a c
def BM(cx:Ctx)(mask:Nat)(e:List ResultVar)(d:List T->H->Prop):iw:=
 ⟨λb a=>zu cx mask e b.vars a λc=>d c a,λ_ _ _=>False,λb a=>zu cx mask e b.vars a λc=>d c a⟩
@[simp] theorem acE (d:List ResultVar) (c:List T->H->Prop) (b:Env) (a:H):(BM cx mask d c).n b a=zu cx mask d b.vars a λe=>c e a:=rfl
@[simp] theorem acD (d:List ResultVar) (c:List T->H->Prop) (b:Env) (a:H):(BM cx mask d c).r b a=zu cx mask d b.vars a λe=>c e a:=rfl
def Cw{g:Out}{h:List ResultVar}{f:List T->H->Prop}(i:W g (BM cx mask h f)):∃c b a,g=some (c,b,a)/\(c= .normal\/c= .ret)/\zu cx mask h b.vars a λj=>f j a:=by
 obtain⟨c,b,a,e,d⟩:=i;cases c with
 |normal=>exact⟨_,b,a,e,.inl rfl,d⟩
 |exit k=>exact d.elim
 |ret=>exact⟨_,b,a,e,.inr rfl,d⟩
def nR{j:List ResultVar}{a:Env}{g:H}{k:List T}(hl:mw cx mask ⟨a.vars,.nil⟩ g j=some k):mw cx mask a g j=some k:=by
 unfold mw at*
 induction j generalizing k with
 |nil=>exact hl
 |cons n j s=>
  rw[jn]at hl|-;obtain⟨b,e,hl⟩:=dA.1 hl;obtain⟨t,o,hl⟩:=dA.1 hl;simp only[ar]at hl;subst hl;have m:∀l b,Env.get mask ⟨a.vars,.nil⟩ l=some b->Env.get mask a l=some b:=by
   intro l b i;obtain⟨v,u⟩:=a;rw[AN]at i|-;split at i
   ·rename_i p;rw[aq p];exact i
   ·simp[DX]at i
  have r:(@ResultVar.rec (λ_=>aa T) (λc=>Env.get mask a c) (λf c=>dJ (Env.get mask a f) λd=>dJ (cx.ty c) λh=>g.load h d) n)=some b:=by
   cases n with
   |tmp c=>exact m c b e
   |cell f c=>
    have e:(dJ (Env.get mask ⟨a.vars,.nil⟩ f) λd=>dJ (cx.ty c) λh=>g.load h d)=some b:=e;obtain⟨d,q,e⟩:=dA.1 e;show(dJ (Env.get mask a f) λd=>dJ (cx.ty c) λh=>g.load h d)=some b;rw[m f d q];exact e
  refine dA.2 ⟨b,r,dA.2 ⟨t,s o,rfl⟩⟩
end
def PD{l:Env->H->Out}(e:Nat)(g:Nat->fJ->H->Prop){k:iw}
 (p:∀a d b,a<=e->g a d b->W (l ⟨d,.nil⟩ b) (w9 (λc b=>c.tmps= .nil/\a<e/\g (a+1) c.vars b) k)) {j:Nat} (r:e<j) {a:Nat} (i:a<=e) {d:fJ} {b:H} (h:g a d b):W (nH l j ⟨d,.nil⟩ b) k:=by
 refine PB (σ:=Nat) (I:=λa c b=>a<=e/\c.tmps= .nil/\g a c.vars b) (m:=λa=>e-a) ?_ j a _ _ dj ⟨i,rfl,h⟩;rintro a ⟨d,t⟩ b ⟨i,ht,h⟩;simp only at ht h;subst ht;obtain⟨n,c,o,q,f⟩:=p a d b i h;refine⟨n,c,o,q,?_⟩;cases n with
 |normal=>exact⟨a+1,by have:=f.2.1;omega,by have:=f.2.1;omega,f.1,f.2.2⟩
 |exit s=>exact f
 |ret=>exact f
@[simp] theorem adK:Hp hE=True:=by simp[Hp]
@[simp] theorem aah (b:H) (c:iJ):Hp (b.cons c)=Hp b:=by
 apply propext;constructor
 ·intro a;unfold Hp at*;simp[H.cons]at a;exact a
 ·exact λa=>RU a c
end
noncomputable section
mutual
def cn:T->T
 | .dC b c=>(match b with| []=> .fO|e::b=> .dC (Vh (e::b)) false)
 | .agg a=> .agg (Vh a)
 | .tuple a=> .tuple (Vh a)
 |v=>v
def Vh:List T->List T
 | []=>[]
 |x::a=>cn x::Vh a
end
def Fk:∀a:List T,Vh a=a.map cn
 | []=>by rw[Vh];rfl
 |x::b=>by rw[Vh,Fk b];rfl
def mL(a:List T)(b:Bool):cn (.dC a b)=sl (a.map cn):=by
 cases a with
 |nil=>rw[cn];rfl
 |cons c a=>rw[cn,Fk];rfl
def jz(a:List T):cn (.agg a)= .agg (a.map cn):=by rw[cn,Fk]
def tK(a:List T):cn (.tuple a)= .tuple (a.map cn):=by rw[cn,Fk]
@[simp] theorem OS:cn .undef= .undef:=by simp[cn]
@[simp] theorem Kj (a:Bool):cn (.bool a)=(.bool a):=by simp[cn]
@[simp] theorem Fj (a:ak) (b:Int):cn (.int a b)=(.int a b):=by simp[cn]
@[simp] theorem Fi (a:List Nat):cn (.str a)=(.str a):=by simp[cn]
@[simp] theorem Kg:cn .j4= .j4:=by simp[cn]
@[simp] theorem Ve (a b c d:Nat):cn (.ptr a b c d)=(.ptr a b c d):=by simp[cn]
@[simp] theorem Ke (a:List T):cn (.je a)=(.je a):=by simp[cn]
@[simp] theorem Hi:cn .fO= .fO:=by simp[cn]
@[simp] theorem Vg (a b e d:Nat) (c:Bool):cn (.arr a b e d c)=(.arr a b e d c):=by simp[cn]
@[simp] theorem Rs (b:aj) (a:List T):cn (.func b a)=(.func b a):=by simp[cn]
@[simp] theorem Ki:cn .kq= .kq:=by simp[cn]
@[simp] theorem Kh:cn .ko= .ko:=by simp[cn]
@[simp] theorem OU (a:ab) (b:T):cn (.iface a b)=(.iface a b):=by simp[cn]
@[simp] theorem Rr (a:Nat):cn (.iter a)=(.iter a):=by simp[cn]
@[simp] theorem Vf (a:Nat):cn (.map a)=(.map a):=by simp[cn]
@[simp] theorem Rq:cn .m7= .m7:=by simp[cn]
def Ea(a:T):(cn a).scalar=a.scalar:=by
 cases a with
 |dC c d=>rw[mL];cases c<;>rfl
 |agg b=>rw[jz];rfl
 |tuple b=>rw[tK];rfl
 |_=>simp
def Hj(a:T):(cn a).cells=a.cells.map cn:=by
 cases a with
 |dC c d=>rw[mL];cases c<;>(show [_]=[_];rw[mL])
 |agg b=>rw[jz];rfl
 |tuple b=>rw[tK];show [_]=[_];rw[tK]
 |_=>simp[T.cells]
def Rt(a:List T):eQ (a.map cn)=(eQ a).map cn:=by
 induction a with
 |nil=>rfl
 |cons c a b=>
  unfold eQ at*
  simp only[aR,cB,b,Hj,List.map_append]
def j2.cn{a:T}(c:j2 a):j2 (cn a):=by
 induction c with
 |dC b n _ f=>
  rw[mL];cases b with
  |nil=>exact .fO
  |cons j b=>
   exact .dC _ _ (λa d=>by
    obtain⟨g,e,rfl⟩:=List.mem_map.1 (show a∈(j::b).map Go.TI.cn from d);exact f g e)
 |agg h _ f=>
  rw[jz];exact .agg _ (λa d=>by
   obtain⟨g,e,rfl⟩:=List.mem_map.1 d;exact f g e)
 |je h c=>rw[Ke];exact .je h c
 |bool i=>rw[Kj];exact .bool i
 |int k l=>rw[Fj];exact .int k l
 |str m=>rw[Fi];exact .str m
 |j4=>rw[Kg];exact .j4
 |fO=>rw[Hi];exact .fO
 |kq=>rw[Ki];exact .kq
 |ko=>rw[Kh];exact .ko
def fa.cn{hp:af Obj}{μ:Mu}{e:T}{s:am}(d:fa hp μ e s):fa hp μ (cn e) s:=by
 induction d with
 |mV x g=>rw[mL];exact .fO g 0
 |dC m n x t off u N arr r fz B A hl Q H i p hr k=>
  rw[mL];show fa hp μ (.dC (Go.TI.cn m::n.map Go.TI.cn) false) _;have z:eQ (Go.TI.cn m::n.map Go.TI.cn)=(eQ (m::n)).map Go.TI.cn:=Rt (m::n);have:=fa.dC (hp:=hp) (μ:=μ) (Go.TI.cn m) (n.map Go.TI.cn) false t off u N arr r fz B A (by simpa using hl) dp (λe j=> ?_) ?_ ?_ ?_
  ·simpa using this
  ·have j:e∈(m::n).map Go.TI.cn:=j;obtain⟨c,b,rfl⟩:=List.mem_map.1 j;rw[Hj,aH];exact H c b
  ·rw[z,aH];exact i
  ·intro e j;rw[z]at j;obtain⟨c,b,rfl⟩:=List.mem_map.1 j;exact⟨by rw[Ea];exact(p c b).1,(p c b).2.cn⟩
  ·intro f e a;rw[z,aQ]at a;cases b:(eQ (m::n))[f]? with
   |none=>rw[b]at a;simp at a
   |some c=>rw[b]at a;simp at a;subst a;exact k f c b
 |agg v q i p hr k=>
  rw[jz];refine .agg _ q (by simpa using i) (λe j=> ?_) λf e a=> ?_
  ·obtain⟨c,b,rfl⟩:=List.mem_map.1 j;rw[Ea];exact p c b
  ·rw[aQ]at a;cases b:v[f]? with
   |none=>rw[b]at a;simp at a
   |some c=>rw[b]at a;simp at a;subst a;exact k f c b
 |tuple O q i hr k=>
  rw[tK];refine .tuple _ q (by simpa using i) λf e a=> ?_;rw[aQ]at a;cases b:O[f]? with
  |none=>rw[b]at a;simp at a
  |some c=>rw[b]at a;simp at a;subst a;exact k f c b
 |je v t off arr r fz B A i p hr k=>rw[Ke];exact .je v t off arr r fz B A i p hr
 |undef=>rw[OS];exact .undef
 |bool h=>rw[Kj];exact .bool h
 |int f K=>rw[Fj];exact .int f K
 |str M d=>rw[Fi];exact .str M d
 |j4=>rw[Kg];exact .j4
 |ptr h w C I l g o y G=>rw[Ve];exact .ptr h w C I l g o y G
 |fO g u=>rw[Hi];exact .fO g u
 |arr h w L J x l g E o y hl d=>rw[Vg];exact .arr h w L J x l g E o y hl d
 |func F D q i hr k=>rw[Rs];exact .func F D q i hr
 |kq=>rw[Ki];exact .kq
 |ko=>rw[Kh];exact .ko
 |iface r e s d k=>rw[OU];exact .iface r e s d
 |iter h l g o d=>rw[Rr];exact .iter h l g o d
 |map h l C o d=>rw[Vf];exact .map h l C o d
 |m7=>rw[Rq];exact .m7
def fQ.cn{f:af Obj}{h:Mu}{c:List T}{d:List am}(e:fQ f h c d):fQ f h (c.map Go.TI.cn) d:=by
 refine⟨by simpa using e.1,λg j a=> ?_⟩;rw[aQ]at a;cases b:c[g]? with
 |none=>rw[b]at a;simp at a
 |some i=>rw[b]at a;simp at a;subst a;exact(e.2 g i b).cn
mutual
def lz:T->Bool
 | .bool _| .int _ _| .str _| .j4| .kq| .ko| .m7| .fO=>true
 | .agg a=>nV a
 | .tuple a=>nV a
 |_=>false
def nV:List T->Bool
 | []=>true
 |x::a=>lz x&&nV a
end
def zU{a:List T}(c:nV a=true):∀b∈a,lz b=true:=by
 induction a with
 |nil=>intro b hx;simp at hx
 |cons e a d=>
  intro b hx;rw[nV,aB]at c;rcases List.mem_cons.1 hx with rfl|hx
  ·exact c.1
  ·exact d c.2 b hx
def fa.plain{n o:af Obj}{r s:Mu}{a:T}{i:am}(f:fa n r a i)(c:lz a=true):fa o s a i:=by
 induction f with
 |bool k=>exact .bool k
 |int d p=>exact .int d p
 |str q f=>exact .str q f
 |j4=>exact .j4
 |kq=>exact .kq
 |ko=>exact .ko
 |m7=>exact .m7
 |fO j l=>exact .fO j l
 |agg t e g m hr h=>
  rw[lz]at c;exact .agg _ e g m λd a b=>h d a b (zU c a (ax b))
 |tuple u e g hr h=>
  rw[lz]at c;exact .tuple _ e g λd a b=>h d a b (zU c a (ax b))
 |_=>simp[lz]at c
section
variable {P:ai}{cx:Ctx}
def L6{b:Mu}{a:Nat}:mN (lN 0 b) a↔b.oD a:=by
 constructor
 ·rintro(⟨e,d,c,_⟩|hr)
  ·exact absurd (jP c).1 dj
  ·exact hr
 ·exact λhr=> .inr hr
def KU{y:aj}{o k:List T}{w:T}{s:H}(E:kI P cx y (k.map cn) w)(u:fw (jX s 0) o=some k)(hr:lz w=true):pP P cx ⟨y,o,s,w,s⟩:=by
 intro V d f x b A;have D:fQ d.heap (lN 0 f) k x.toList:=by
  have z:io (λj R=>∀p,fa d.heap f j p->fa d.heap (lN 0 f) R p) o k:=io.map (λn m Z M p F=>pL b F M) u;refine⟨by rw[<-z.length];exact A.1,λN j I=> ?_⟩;obtain⟨n,m,u⟩:=z.get I;exact u _ (A.2 N n m)
 have Q:St cx d.heap.size d.heap (lN 0 f) hE:=by
  refine⟨rfl,au _,λh e c=>absurd (jP c).1 dj,λh U e S c=>absurd (jP c).1 dj,λh e c=>absurd (jP c).1 dj,λh e c=>absurd (jP c).1 dj,λa hr=>b.pS a hr,λr q v=> ?_⟩;have:=b.x6 r q v;refine this.cut ?_;obtain⟨_,_,_,_,_,_,_,_,_,K,_⟩:=this.lm;exact .je _ λj L=>(K j L).2.low 0
 refine(E d.heap.size d (lN 0 f) x hE Q D.cn).mono λj C ⟨⟨ae,O,W,g,X⟩,Y⟩=> ?_;have B:∀a,a<d.heap.size->¬f.oD a->C.heap[a]? =d.heap[a]? :=λa i l=>(g.ext.mT a i λG=>l (L6.1 G)).1;have t:Ext d.heap f C.heap f:=by
  refine⟨g.ext.size,λa i l=>⟨B a i λhr=>l (.inr hr),l⟩,λh e c=>⟨e,c,.inl rfl⟩,rfl,λa i hr=>g.ext.kept a i hr⟩
 refine⟨⟨f,O.plain hr,⟨b.wf,aS b.fit g.ext.size,λh e c=> ?_,b.inj,b.low,b.apart,λa hr=>bE (b.pS a hr) g.ext.size,λr q v=>(b.x6 r q v).ext t⟩,⟨t,g.os,g.tape,g.output⟩,xu.refl _ _⟩,kE.refl b.wf⟩;obtain⟨n,m,J⟩:=b.box h e c;exact⟨n,m,J.ext t (B e.iD (b.lt c) (b.apart h e c))⟩
def KT{c:aj}{b:List T}{d:T}{a:H}(h:kI P cx c (b.map cn) d):pP P cx ⟨c,b,a,d,a⟩:=
 λe j k f i g=>h e j k f a i g.cn
structure f7 where
 α:Type
 A:α->List T
 pre:α->Prop
 R:α->T
 inj:∀a b,A a=A b->R a=R b
structure kA where
 pre:List T->H->Prop
 post:List T->H->T->H->Prop
structure fq where
 p:aj->aa f7
 h:aj->aa kA
open Classical in
def rl(P:ai)(cx:Ctx)(f:fq)(d:aj)(c:List T):aa T:=match f.p d with
 |none=>none
 |some a=>if e:∃b,a.pre b/\a.A b=c/\kI P cx d c (a.R b)then some (a.R e.choose)else none
open Classical in
def hl(P:ai)(cx:Ctx)(g:fq)(c:aj)(b:List T)(d:H):aa (T×H):=match g.h c with
 |none=>none
 |some e=>if f:∃a:T×H,e.post b d a.1 a.2/\pP P cx ⟨c,b,d,a.1,a.2⟩then some f.choose else none
def wy(h:H)(d:Nat)(v:T):aa T:=dJ (freeze h 0 d v) λv=>some (cn v)
def fz(b:H)(a:T):aa T:=dJ (ir b 0 a) λa=>some (cn a)
def ry(b:H)(a:T):aa T:=dJ (jX b 0 a) λa=>some (cn a)
def Ps(b:H)(a:List T):aa (List T):=fw (ry b) a
mutual
def jE:T->Bool
 | .bool _| .int _ _| .str _| .j4| .dC _ _| .fO| .kq| .ko=>true
 | .agg a=>nQ a
 |_=>false
def nQ:List T->Bool
 | []=>true
 |x::a=>jE x&&nQ a
end
def qk(P:ai)(cx:Ctx)(d:fq):iG:=λc a b=>match Ps b a with
 |none=>hl P cx d c a b
 |some f=>match rl P cx d c f with
  |none=>hl P cx d c a b
  |some e=>if(lz e||nQ a)=true then some (e,b)else hl P cx d c a b
def qQ{f g j:Type}(b:f->aa g)(d:g->j):∀a:List f,fw (λc=>dJ (b c) λe=>some (d e)) a=dJ (fw b a) λi=>some (i.map d):=by
 intro a;induction a with
 |nil=>rfl
 |cons c a h=>
  rw[jn,jn,h];cases b c with
  |none=>rfl
  |some e=>simp only[dO];cases fw b a<;>rfl
def Hv{e:H}{c d:List T}(a:Ps e c=some d):∃b,fw (jX e 0) c=some b/\d=b.map cn:=by
 unfold Ps ry at a;rw[qQ]at a;obtain⟨b,hl,a⟩:=dA.1 a;simp only[ar]at a;exact⟨b,hl,a.symm⟩
mutual
def rR(e:H)(g d:Nat):(b:T)->jE b=true->(∀c,b≠ .agg c)->freeze e g (d+1) b=some b
 | .bool _,_,_=>rfl
 | .int _ _,_,_=>rfl
 | .str _,_,_=>rfl
 | .j4,_,_=>rfl
 | .dC _ _,_,_=>rfl
 | .fO,_,_=>rfl
 | .kq,_,_=>rfl
 | .ko,_,_=>rfl
 | .agg c,_,f=>absurd rfl (f c)
 | .undef,a,_=>by simp[jE]at a
 | .ptr ..,a,_=>by simp[jE]at a
 | .je _,a,_=>by simp[jE]at a
 | .arr ..,a,_=>by simp[jE]at a
 | .func ..,a,_=>by simp[jE]at a
 | .iface ..,a,_=>by simp[jE]at a
 | .iter _,a,_=>by simp[jE]at a
 | .map _,a,_=>by simp[jE]at a
 | .m7,a,_=>by simp[jE]at a
 | .tuple _,a,_=>by simp[jE]at a
end
def pM(b:H){a:T}(c:jE a=true)(e:∀d,a≠ .agg d):ir b 0 a=some a:=by
 have:=rR b 0 11 a c e;cases a<;>first|exact this|(simp[jE]at c)
def A9{a:List T}(c:nQ a=true):∀b∈a,jE b=true:=by
 induction a with
 |nil=>intro b hx;simp at hx
 |cons e a d=>
  intro b hx;rw[nQ,aB]at c;rcases List.mem_cons.1 hx with rfl|hx
  ·exact c.1
  ·exact d c.2 b hx
def Pr{b:H}{a e:List T}{base:Nat}{o:af Obj}{t:Mu}{j:List am}(m:fQ o t a j)(p:nQ a=true)(n:Ps b a=some e):e=a.map cn:=by
 obtain⟨v,hl,rfl⟩:=Hv n;have:fw (jX b 0) a=some a:=by
  refine rM λh f=> ?_;have d:=A9 p h f;obtain⟨w,r⟩:=m.mem f;cases h with
  |agg l=>
   show(dJ (fw (ir b 0) l) λs=>some (T.agg s))=_;obtain⟨u,rfl,_,q⟩:=r.oR;rw[rM λi g=>pM b (A9 (by rw[jE]at d;exact d) i g) (λk c=>by have:=q i g;rw[c]at this;simp[T.scalar]at this)];rfl
  |_=>exact pM b d (λk c=>by simp at c)
 rw[this]at hl;simp only[ar]at hl;rw[hl]
def FX{f:fq}{c:aj}{b:List T}{d:T}(a:rl P cx f c b=some d):kI P cx c b d:=by
 unfold rl at a;split at a
 ·simp at a
 ·split at a
  ·rename_i e;simp only[ar]at a;subst a;exact e.choose_spec.2.2
  ·simp at a
def BP{h:fq}{c:aj}{b:List T}{d e:H}{f:T}(a:hl P cx h c b d=some (f,e)):pP P cx ⟨c,b,d,f,e⟩:=by
 unfold hl at a;split at a
 ·simp at a
 ·split at a
  ·rename_i g;simp only[ar]at a;have:=g.choose_spec.2;rw[a]at this;exact this
  ·simp at a
def Ch(P:ai)(cx:Ctx)(j:fq):mR P cx (qk P cx j):=by
 intro m k n q o a base f g d e b;unfold qk at a;split at a
 ·exact BP a base f g d e b
 ·rename_i l h;split at a
  ·exact BP a base f g d e b
  ·rename_i r hr;split at a
   ·rename_i c;simp only[ar,ay]at a;obtain⟨rfl,rfl⟩:=a;rw[bP]at c;rcases c with c|c
    ·obtain⟨p,hl,rfl⟩:=Hv h;exact KU (FX hr) hl c base f g d e b
    ·have i:=Pr (base:=base) b c h;subst i;exact KT (FX hr) base f g d e b
   ·exact BP a base f g d e b
def f7.Ok(P:ai)(cx:Ctx)(c:aj)(b:f7):Prop:=∀a,b.pre a->kI P cx c (b.A a) (b.R a)
def gF{g:fq}{c:aj}{a:f7}(ht:g.p c=some a)(h:a.Ok P cx c)(b:a.α)(e:a.pre b):rl P cx g c (a.A b)=some (a.R b):=by
 have f:∃d,a.pre d/\a.A d=a.A b/\kI P cx c (a.A b) (a.R d):=⟨b,e,rfl,h b e⟩;unfold rl;rw[ht];simp only;rw[dif_pos f,a.inj _ _ f.choose_spec.2.1]
def kA.Ok(P:ai)(cx:Ctx)(f:aj)(c:kA):Prop:=∀a b,c.pre a b->∃e d,c.post a b e d/\pP P cx ⟨f,a,b,e,d⟩
def D3{tb:fq}{d:aj}{c:kA}(ht:tb.h d=some c)(l:c.Ok P cx d){a:List T}{b:H}(m:c.pre a b):∃i e,hl P cx tb d a b=some (i,e)/\c.post a b i e:=by
 obtain⟨i,e,j,k⟩:=l a b m;have f:∃g:T×H,c.post a b g.1 g.2/\pP P cx ⟨d,a,b,g.1,g.2⟩:=⟨(i,e),j,k⟩;refine⟨f.choose.1,f.choose.2,?_,f.choose_spec.1⟩;unfold hl;rw[ht];simp only;rw[dif_pos f]
def AF{b:fq}{a:aj}(ht:b.p a=none)(c:List T):rl P cx b a c=none:=by unfold rl;rw[ht]
def ZX(e:aa T)(c:Bool)(d:H)(a:aa (T×H)):aa (T×H):=match e with
 |none=>a
 |some b=>if(lz b||c)=true then some (b,d)else a
@[simp] theorem ZW (b:Bool) (c:H) (a:aa (T×H)):ZX none b c a=a:=id rfl
@[simp] theorem OX (a:T) (b:Bool) (c:H) (d:aa (T×H)):ZX (some a) b c d=if(lz a||b)=true then some (a,c)else d:=id rfl
def cfW(P:ai)(cx:Ctx)(e:fq)(c:aj)(a:List T)(d:H)(b:aa (List T)):aa (T×H):=match b with
 |none=>hl P cx e c a d
 |some b=>ZX (rl P cx e c b) (nQ a) d (hl P cx e c a d)
@[simp] theorem OW (d:fq) (b:aj) (a:List T) (c:H):cfW P cx d b a c none=hl P cx d b a c:=id rfl
@[simp] theorem OV (d:fq) (b:aj) (a e:List T) (c:H):cfW P cx d b a c (some e)=ZX (rl P cx d b e) (nQ a) c (hl P cx d b a c):=id rfl
def OY(d:fq)(c:aj)(a:List T)(b:H):qk P cx d c a b=cfW P cx d c a b (Ps b a):=by
 unfold qk cfW ZX;cases Ps b a with
 |none=>rfl
 |some e=>rfl
end
end
noncomputable section
section
variable {cx:Ctx}{h:H}
@[simp] theorem acM (a:ak) (b:Int):fz h (.int a b)=some (.int a b):=id rfl
@[simp] theorem aaS (a:Bool):fz h (.bool a)=some (.bool a):=id rfl
@[simp] theorem acK (a:List Nat):fz h (.str a)=some (.str a):=id rfl
@[simp] theorem JZ (a:List T) (b:Bool):fz h (.dC a b)=some (sl (a.map cn)):=by
 show some (cn (.dC a b))=_;rw[mL]
@[simp] theorem UR (a b c d:Nat):fz h (.ptr a b c d)=none:=by
 unfold fz ir;simp
@[simp] theorem aaY (c:Nat) (a:ak) (b:Int):wy h (c+1) (.int a b)=some (.int a b):=id rfl
@[simp] theorem ZJ (b:Nat) (a:Bool):wy h (b+1) (.bool a)=some (.bool a):=id rfl
@[simp] theorem aaW (b:Nat) (a:List Nat):wy h (b+1) (.str a)=some (.str a):=id rfl
@[simp] theorem Ou (c:Nat) (a:List T) (b:Bool):wy h (c+1) (.dC a b)=some (sl (a.map cn)):=by
 show some (cn (.dC a b))=_;rw[mL]
@[simp] theorem Q3 (b:Nat) (a:List T):wy h (b+1) (.agg a)=dJ (fw (wy h b) a) λc=>some (.agg c):=by
 show(dJ (dJ (fw (freeze h 0 b) a) λc=>some (T.agg c)) λd=>some (cn d))=_;unfold wy;rw[qQ];cases fw (freeze h 0 b) a with
 |none=>rfl
 |some c=>simp[jz]
def fW(d e b c:Nat)(m:Bool):h.jc (.arr d e b c m)=dJ (h.get d) λa=>fP (decide (a.ep=e)) (if a.it=true then none else if b+c<=a.ee.length then some ((a.ee.drop b).take c)else none):=by
 show(dJ (h.get d) λa=>iJ.casesOn a λ_ g _ _ f l=>fP (Nat.beq g e) (Bool.casesOn f (dJ (jF b l) λn=>takeN c n) none))=_;cases h.get d with
 |none=>rfl
 |some a=>
  obtain⟨p,g,q,o,f,i⟩:=a;simp only[dO,um];congr 1;cases f with
  |true=>rfl
  |false=>
   simp only[cd,br,ls,mX];by_cases j:b<=i.length
   ·rw[aq j,dO];by_cases k:b+c<=i.length
    ·rw[aq k,aq dq]
    ·rw[ao k,ao dq]
   ·rw[ao j,ao dj];rfl
def xd(i a c e d:Nat)(k:Bool):wy h (i+1) (.arr a c e d k)=dJ (h.jc (.arr a c e d k)) λf=>dJ (fw (wy h i) f) λb=>some (sl b):=by
 have p:freeze h 0 (i+1) (.arr a c e d k)=fP (Nat.ble 0 a) (dJ (h.get a) λg=>iJ.casesOn g λ_ j _ exact l m=>
  fP (Nat.beq j c) (@Bool.rec (λ_=>aa T) (dJ (dJ (jF e m) λb=>takeN d b) λf=>dJ (fw (freeze h 0 i) f) λn=>
   @List.rec T (λ_=>aa T) (@List.rec T (λ_=>aa T) (@Bool.rec (λ_=>aa T) (some T.fO) (some (T.dC [] false)) exact) (λ_ _ _=>some T.fO) m) (λ_ _ _=>some (T.dC n k)) n) none l)):=rfl
 have q:h.jc (.arr a c e d k)=dJ (h.get a) λg=>iJ.casesOn g λ_ j _ _ l m=>fP (Nat.beq j c) (@Bool.rec (λ_=>aa (List T)) (dJ (jF e m) λb=>takeN d b) none l):=rfl;unfold wy;rw[p,q];rw[show Nat.ble 0 a=true by simp,gX];cases h.get a with
 |none=>rfl
 |some g=>
  obtain⟨r,j,s,o,l,f⟩:=g;simp only[dO];cases Nat.beq j c with
  |false=>rfl
  |true=>
   simp only[gX];cases l with
   |true=>rfl
   |false=>
    simp only;cases (dJ (jF e f) λb=>takeN d b)with
    |none=>rfl
    |some ZO=>
     simp only[dO];rw[qQ];cases fw (freeze h 0 i) ZO with
     |none=>rfl
     |some J6=>
      simp only[dO];cases J6 with
      |nil=>
       cases f with
       |nil=>cases o<;>simp[mL,sl]
       |cons=>simp[sl]
      |cons g b=>simp[mL]
@[simp] theorem uZ (a b e d:Nat) (c:Bool):fz h (.arr a b e d c)=dJ (h.jc (.arr a b e d c)) λf=>dJ (fw (wy h 11) f) λg=>some (sl g):=by
 rw[<-xd];unfold fz wy ir;simp only;rw[show Nat.ble 0 a=true by simp]
def Kf(a:List T):cn (sl a)=sl (a.map cn):=by
 cases a with
 |nil=>rfl
 |cons c b=>exact mL (c::b) false
def ZE(a:List T):fz h (sl a)=some (sl (a.map cn)):=by cases a<;>first|rfl|exact JZ _ _
def US(b:Nat)(a:List T):wy h (b+1) (sl a)=some (sl (a.map cn)):=by cases a<;>first|rfl|exact Ou b _ _
@[simp] theorem ac2 {d:Type} (a:d->T) (c:List d) (e:∀b,cn (a b)=a b):cn (sl (c.map a))=sl (c.map a):=by
 rw[Kf,cF];congr 2;funext b;exact e b
@[simp] theorem acL {d:Type} (a:d->T) (c:List d) (e:∀b,cn (a b)=a b):fz h (sl (c.map a))=some (sl (c.map a)):=by
 rw[ZE,cF];congr 3;funext b;exact e b
@[simp] theorem aaX {d:Type} (e:Nat) (a:d->T) (c:List d) (f:∀b,cn (a b)=a b):wy h (e+1) (sl (c.map a))=some (sl (c.map a)):=by
 rw[US,cF];congr 3;funext b;exact f b
@[simp] theorem BD {e:Type} (c:T->aa T) (a:e->T) (d:List e) (f:∀b,c (a b)=some (a b)):fw c (d.map a)=some (d.map a):=rM λb g=>by
 obtain⟨i,_,rfl⟩:=List.mem_map.1 g;exact f i
@[simp] theorem Q2 (a:List T):ry h (.agg a)=dJ (fw (fz h) a) λb=>some (.agg b):=by
 show(dJ (dJ (fw (ir h 0) a) λb=>some (T.agg b)) λc=>some (cn c))=_;unfold fz;rw[qQ];cases fw (ir h 0) a with
 |none=>rfl
 |some b=>simp[jz]
@[simp] theorem aaV (a:ak) (b:Int):ry h (.int a b)=some (.int a b):=id rfl
@[simp] theorem ZH (a:Bool):ry h (.bool a)=some (.bool a):=id rfl
@[simp] theorem aaT (a:List Nat):ry h (.str a)=some (.str a):=id rfl
@[simp] theorem ZF (a:List T) (b:Bool):ry h (.dC a b)=fz h (.dC a b):=id rfl
@[simp] theorem acN (a:List T):ry h (sl a)=fz h (sl a):=by cases a<;>rfl
@[simp] theorem J2 (a b e d:Nat) (c:Bool):ry h (.arr a b e d c)=fz h (.arr a b e d c):=id rfl
@[simp] theorem aaU (a b c d:Nat):ry h (.ptr a b c d)=none:=UR (h:=h) a b c d
@[simp] theorem abk:Ps h []=some []:=id rfl
@[simp] theorem Z3 (b:T) (a:List T):Ps h (b::a)=dJ (ry h b) λd=>dJ (Ps h a) λc=>some (d::c):=id rfl
@[simp] theorem TU:nQ []=true:=by rw[nQ]
@[simp] theorem Ss (b:T) (a:List T):nQ (b::a)=(jE b&&nQ a):=by rw[nQ]
@[simp] theorem VW (a:ak) (b:Int):jE (.int a b)=true:=by rw[jE]
@[simp] theorem TW (a:Bool):jE (.bool a)=true:=by rw[jE]
@[simp] theorem VV (a:List Nat):jE (.str a)=true:=by rw[jE]
@[simp] theorem TV (a:List T) (b:Bool):jE (.dC a b)=true:=by rw[jE]
@[simp] theorem Su:jE .fO=true:=by rw[jE]
@[simp] theorem Yh (a:List T):jE (sl a)=true:=by cases a<;>simp[sl]
@[simp] theorem VY (a:List T):jE (.agg a)=nQ a:=by rw[jE]
@[simp] theorem VX (a b e d:Nat) (c:Bool):jE (.arr a b e d c)=false:=by simp[jE]
@[simp] theorem SQ:nV []=true:=by rw[nV]
@[simp] theorem Qu (b:T) (a:List T):nV (b::a)=(lz b&&nV a):=by rw[nV]
@[simp] theorem T9 (a:ak) (b:Int):lz (.int a b)=true:=by rw[lz]
@[simp] theorem SR (a:Bool):lz (.bool a)=true:=by rw[lz]
@[simp] theorem Qw:lz .fO=true:=by rw[lz]
@[simp] theorem Qv (a:List T):lz (.tuple a)=nV a:=by rw[lz]
@[simp] theorem JW (a:List T):mB (sl a)=mh a:=by cases a<;>simp[sl]
@[simp] theorem aaI {c:Type} (a:c->T) (b:List c) (d:∀e,mB (a e)=true):mh (b.map a)=true:=Lt a d b
@[simp] theorem ZY (a:List T):(sl a).cells=[sl a]:=by cases a<;>rfl
@[simp] theorem aaR (a:List T):(sl a).gD=true:=by cases a<;>rfl
@[simp] theorem Zz (a b e d:Nat) (c:Bool):(T.arr a b e d c).gD=true:=id rfl
@[simp] theorem Zx (a b c d:Nat):(T.ptr a b c d).gD=true:=id rfl
@[simp] theorem Wy (a b e d:Nat) (c:Bool):(T.arr a b e d c).cells=[.arr a b e d c]:=id rfl
@[simp] theorem Ww (a b c d:Nat):(T.ptr a b c d).cells=[.ptr a b c d]:=id rfl
@[simp] theorem aaJ (b:Ty) (a:List T) (d:ab) (c:b.u= .slice d):CQ cx h b (sl a)=some (.val (.int .i64 a.length) h):=by cases a<;>simp[sl,c]
@[simp] theorem aaP (c:Ty) (a:List T) (b:Nat):kf h c (sl a) b=dJ (a[b]?) λd=>fP (decide (d.cells.length=c.size)) (some (.val (.je d.cells) h)):=by cases a<;>simp[sl];rfl
@[simp] theorem On (a:List T):h.jc (sl a)=some a:=by cases a<;>rfl
def yE{a b:List T}(c:sl a=sl b):a=b:=by
 cases a<;>cases b<;>simp[sl]at c
 ·rfl
 ·rw[c.1,c.2]
def jt{f:Type}{a:f->T}(g:∀d e,a d=a e->d=e){b c:List f}(i:sl (b.map a)=sl (c.map a)):b=c:=by
 have:=yE i;exact(List.map_inj_right g).1 this
@[simp] theorem dM (b:iJ) (a:Nat):(h.cons b).get a=if a=h.size then some b else h.get a:=by
 rw[H.get_eq,H.get_eq];show(if a<h.size+1 then(b::h.eY)[h.size+1-1-a]? else none)=_;by_cases c:a=h.size
 ·subst c;rw[aq dj,aq rfl];simp
 ·rw[ao c];by_cases d:a<h.size
  ·rw[aq dj,aq d,show h.size+1-1-a=(h.size-1-a)+1 by omega];simp
  ·rw[ao dj,ao d]
def dE{a:Nat}{x:iJ}(n:h.get a=some x)(d:iJ)(e:Nat):(dQ h a d).get e=if e=a then some d else h.get e:=by
 have c:=xJ n d;generalize dQ h a d=i at*
 obtain⟨b,j,f⟩:=h;have l:a<b:=H.ej n;have c:(fP (Nat.blt a b) (dJ (kj f (Nat.sub (Nat.sub b 1) a) d) λk=> @Bool.rec (λ_=>aa H) (some ⟨b,j,k⟩) (some ⟨b,a,k⟩) (Nat.blt a j)))=some i:=c;rw[show Nat.blt a b=true by rw[aG];exact l,gX,km]at c;by_cases hl:Nat.sub (Nat.sub b 1) a<f.length
 ·rw[aq hl,dO]at c;have r:i.size=b/\i.eY=f.set (b-1-a) d:=by
   cases o:Nat.blt a j<;>rw[o]at c<;>simp only[ar]at c<;>subst c<;>exact⟨rfl,rfl⟩
  obtain⟨p,q⟩:=r;rw[H.get_eq,H.get_eq,p,q];have hl:b-1-a<f.length:=hl;by_cases m:e=a
  ·subst m;rw[aq l,aq rfl];simp[hl]
  ·rw[ao m];simp only;by_cases g:e<b
   ·rw[aq g,aq g,cA dj]
   ·rw[ao g,ao g]
 ·rw[ao hl]at c;simp at c
@[simp] theorem fG (b:Nat) (f:iJ):(dQ h b f).size=h.size:=by
 unfold dQ;cases a:h.put b f with
 |none=>rfl
 |some g=>
  obtain⟨c,e,i⟩:=h;have a:(fP (Nat.blt b c) (dJ (kj i (Nat.sub (Nat.sub c 1) b) f) λd=> @Bool.rec (λ_=>aa H) (some ⟨c,e,d⟩) (some ⟨c,b,d⟩) (Nat.blt b e)))=some g:=a;obtain⟨_,a⟩:=dI.1 a;obtain⟨d,_,a⟩:=dA.1 a;show g.size=c;cases j:Nat.blt b e<;>rw[j]at a<;>simp only[ar]at a<;>subst a<;>rfl
@[simp] theorem abw (b:Nat) (g:iJ):Hp (dQ h b g)=Hp h:=by
 unfold dQ;cases a:h.put b g with
 |none=>rfl
 |some i=>
  obtain⟨d,f,j⟩:=h;have a:(fP (Nat.blt b d) (dJ (kj j (Nat.sub (Nat.sub d 1) b) g) λe=> @Bool.rec (λ_=>aa H) (some ⟨d,f,e⟩) (some ⟨d,b,e⟩) (Nat.blt b f)))=some i:=a;obtain⟨_,a⟩:=dI.1 a;obtain⟨e,c,a⟩:=dA.1 a;rw[km]at c;split at c
  ·simp only[ar]at c;subst c;show Hp i=_;unfold Hp;cases k:Nat.blt b f<;>rw[k]at a<;>simp only[ar]at a<;>subst a<;>simp
  ·simp at c
@[simp] theorem Em (a:Nat):ew h h a=true:=by
 unfold ew;cases h.get a<;>simp
def zK{b:Nat}{e:iJ}(d:h.get b=some e)(f:iJ){a:Nat}(c:a≠b):ew h (dQ h b f) a=true:=by
 unfold ew;rw[dE d,ao c];cases h.get a<;>simp
def LH(h:H)(a:List T):aa T:=dJ (iT h 0 (js a)) λb=>some (cn b)
@[simp] theorem UU (a:T) (b:a.gD=true):LH h [a]=ry h a:=by
 cases a<;>first|rfl|(simp[T.gD]at b)
def G7(a:List T):(dJ (iT h 0 (.tuple a)) λc=>some (cn c))=dJ (fw (ry h) a) λb=>some (.tuple b):=by
 show(dJ (dJ (fw (jX h 0) a) λb=>some (T.tuple b)) λc=>some (cn c))=_;unfold ry;rw[qQ];cases fw (jX h 0) a with
 |none=>rfl
 |some b=>simp[tK]
@[simp] theorem acO (b c:T) (a:List T):LH h (b::c::a)=dJ (fw (ry h) (b::c::a)) λd=>some (.tuple d):=G7 (b::c::a)
def PO(h:H)(a:List T)(b:T):Prop:=Hp h/\LH h a=some b
def RW(a:List T)(b:T):PO h a b=(Hp h/\LH h a=some b):=rfl
attribute [simp] RW
end
section
variable {P:ai}{cx:Ctx}{cf:iG}{mask:Nat}
def pt:List (Nat×f7)->aj->aa f7
 | [],_=>none
 |(b,d)::c,a=>if a=b then some d else pt c a
def ht:List (Nat×kA)->aj->aa kA
 | [],_=>none
 |(b,d)::c,a=>if a=b then some d else ht c a
@[simp] theorem ab3 (a:aj):pt [] a=none:=id rfl
@[simp] theorem aaD (b:Nat) (d:f7) (c:List (Nat×f7)) (a:aj):pt ((b,d)::c) a=if a=b then some d else pt c a:=id rfl
@[simp] theorem acH (a:aj):ht [] a=none:=id rfl
@[simp] theorem aaQ (b:Nat) (d:kA) (c:List (Nat×kA)) (a:aj):ht ((b,d)::c) a=if a=b then some d else ht c a:=id rfl
def fc{k:Env->H->Out}(d:Nat)(s:d<9223372036854775808)(f:Nat->fJ->H->Prop){j:iw}
 (p:∀c a h,c<d->binop .add (.int .i64 (c:Int)) (.int .i64 1)=some (.int .i64 ((c:Int)+1))->f c a h->W (k ⟨a,.nil⟩ h) (w9 (λe h=>e.tmps= .nil/\f (c+1) e.vars h) j))
 (b:∀a h,f d a h->W (k ⟨a,.nil⟩ h) (w9 (λe h=>False) j))
 {o:Nat} (q:d<o) {a:fJ} {h:H} (i:f 0 a h):W (nH k o ⟨a,.nil⟩ h) j:=by
 refine PD d f (λc a h u i=> ?_) q (aw d) i;rcases aD c d with n|t
 ·obtain⟨g,e,l,m,b⟩:=p c a h n (gY dj dj) i;refine⟨g,e,l,m,?_⟩;cases g with
  |normal=>exact⟨b.1,n,b.2⟩
  |exit r=>exact b
  |ret=>exact b
 ·have:c=d:=dj;subst this;obtain⟨g,e,l,m,b⟩:=b a h i;refine⟨g,e,l,m,?_⟩;cases g with
  |normal=>exact b.elim
  |exit r=>exact b
  |ret=>exact b
def yp{c:Func}(a:ww ⟨c,mask,false,none⟩=true):∃b,c.body=some b:=by
 unfold ww at a;simp only at a;cases d:c.body with
 |none=>rw[d]at a;simp at a
 |some b=>exact⟨b,rfl⟩
def WT(B:P.follows .mixedOrders=true)(iH:iM P cx){l:aj}{b:Func}{r:DL}(g:FE P cx l b mask r)(x:mR P cx cf){a:List T}{n:T}(hl:mh a=true)(C:a.length<=b.ntmps)(i:Nat)
 (I:∀v,mS v 0 a->W (jh cx cf i mask r (b.body.getD .skip) ⟨v,.nil⟩ hE) (BM cx mask b.results.toList λt h=>PO h t n)):kI P cx l a n:=by
 have Q:∃c,cn c=n/\rU cx cf i b mask false a hE=some (c,hE):=by
  obtain⟨u,G,_,A⟩:=lQ mask b.ntmps 0 a C;obtain⟨R,y,h,d,J,t,hr,D,f⟩:=Cw (I u A);have d:=pA _ g.dr _ _ _ d;obtain⟨w,e⟩:=yp g.ok;rw[e]at d;unfold LH at f;obtain⟨c,f,s⟩:=dA.1 f;simp only[ar]at s;refine⟨c,s,?_⟩;unfold rU;rw[e];simp only;rw[G,dO];have d:jL cx cf i mask w ⟨u,.nil⟩ ⟨0,0,[]⟩=some (R,y,h):=d;rw[d,dO,ks];have E:=nR hr;rcases J with rfl|rfl<;>(simp only;rw[E,dO];exact GH D f)
 obtain⟨c,rfl,e⟩:=Q;have z:kI P cx l a c:=xK (ll _ hl) λj p q k o m=>
  oH (F:=⟨b,mask,false,none⟩) B iH g.at_ g.ok cf x i a hE c hE e j p q k o m
 intro j p q k h o m;refine(z j p q k h o m).mono λU V ⟨⟨S,K,L,M,N⟩,O⟩=> ?_;exact⟨⟨S,K.cn,L,M,N⟩,O⟩
end
end
noncomputable section
structure Fr(lo:Nat)(h h':H):Prop where
 size:h.size<=h'.size
 hp:Hp h->Hp h'
 get:∀c,c<lo->h'.get c=h.get c
 low:lo<=h.low->lo<=h'.low
def Fr.refl(a:Nat)(h:H):Fr a h h:=⟨au _,id,λ_ _=>rfl,id⟩
def Fr.trans{d:Nat}{h g i:H}(a:Fr d h g)(b:Fr d g i):Fr d h i:=⟨aS a.size b.size,λc=>b.hp (a.hp c),λf j=>(b.get f j).trans (a.get f j),λc=>b.low (a.low c)⟩
def Fr.cons{lo:Nat}{h:H}(hl:lo<=h.size)(a:iJ):Fr lo h (h.cons a):=⟨dp,dp,λb c=>by simp;omega,id⟩
def MT(h:H)(b:Nat)(i:iJ)(c:Nat)(k:c<=h.low)(m:c<=b):c<=(dQ h b i).low:=by
 unfold dQ;cases a:h.put b i with
 |none=>exact k
 |some j=>
  obtain⟨d,g,l⟩:=h;have a:(fP (Nat.blt b d) (dJ (kj l (Nat.sub (Nat.sub d 1) b) i) λf=> @Bool.rec (λ_=>aa H) (some ⟨d,g,f⟩) (some ⟨d,b,f⟩) (Nat.blt b g)))=some j:=a;obtain⟨_,a⟩:=dI.1 a;obtain⟨f,_,a⟩:=dA.1 a;show c<=j.low;cases n:Nat.blt b g<;>rw[n]at a<;>simp only[ar]at a<;>subst a
  ·exact k
  ·exact m
def Fr.put{b:Nat}{h:H}{a:Nat}{x:iJ}(g:h.get a=some x)(f:b<=a)(d:iJ):Fr b h (dQ h a d):=⟨dp,dp,λc j=>by rw[dE g,ao dj],λi=>MT h a d b i f⟩
def rm(h:H)(g:Nat)(d:T)(i:Nat)(b:List T):Prop:=
 (d= .dC [] false/\b=[])\/∃a c j f,g<=a/\d= .arr a c 0 b.length false/\h.get a=some ⟨i,c,j,f,false,b⟩
def rm.nil(h:H)(a b:Nat):rm h a (.dC [] false) b []:= .inl ⟨rfl,rfl⟩
def rm.cons{h:H}{lo:Nat}{f:T}{d:Nat}{b:List T}(a:rm h lo f d b)(n:iJ):rm (h.cons n) lo f d b:=by
 rcases a with a|⟨g,i,m,j,k,l,c⟩
 ·exact .inl a
 ·have:=H.ej c;exact .inr ⟨g,i,m,j,k,l,by rw[dM,ao dj];exact c⟩
def rm.gD{h:H}{d:Nat}{a:T}{f:Nat}{b:List T}(c:rm h d a f b):a.gD=true:=by
 rcases c with⟨rfl,_⟩|⟨g,i,m,j,k,rfl,l⟩<;>rfl
def rm.cells{h:H}{d:Nat}{a:T}{f:Nat}{b:List T}(c:rm h d a f b):a.cells=[a]:=by
 rcases c with⟨rfl,_⟩|⟨g,i,m,j,k,rfl,l⟩<;>rfl
def rm.fz{h:H}{i:Nat}{d:T}{j:Nat}{c b:List T}(g:rm h i d j c)(a:fw (wy h 11) c=some b):TI.fz h d=some (sl b):=by
 rcases g with⟨rfl,rfl⟩|⟨k,l,o,m,n,rfl,f⟩
 ·have a:some []=some b:=a;simp only[ar]at a;subst a;simp
 ·rw[uZ,fW,f];simp[a]
def rm.ry{h:H}{i:Nat}{d:T}{j:Nat}{a b:List T}(c:rm h i d j a)(g:fw (wy h 11) a=some b):TI.ry h d=some (sl b):=by
 rw[<-c.fz g];rcases c with⟨rfl,_⟩|⟨k,l,p,m,n,rfl,o⟩<;>rfl
@[simp] theorem V8 {cx:Ctx} {mask:Nat} {e:Env} {h:H} (a:List ah) (b c:ab):iW (.call ⟨.builtin .append,a.toArray,#[b,c]⟩) cx mask e h=dJ (fw (fy cx mask e) a) λd=>(match d with| [f,g]=>iK cx h b c f g|_=>none):=rfl
def m8{b:Nat}{a:List T}(c:∀e∈a,e.cells.length=b):fits b a=true:=by
 cases a with
 |nil=>rfl
 |cons e a=>
  show Nat.beq (kx e.cells) b=true;rw[jq,c e dp];simp
def om{h:H}{b bytes:Nat}{a:List T}(f:∀e∈a,e.cells.length=b)(c:1<=bytes)(d:a.length*bytes<=70368744177664):
 h.iU b bytes [] a=some (.arr h.size 0 0 a.length false,h.cons ⟨b,0,0,false,false,a⟩):=by
 unfold H.iU;rw[qm,dO,jq,iq,dO,m8 f,m8 dp];simp[c,d]
def vh{h:H}{f bytes c d i:Nat}{j:Bool}{a b:List T}(g:h.get c=some ⟨f,d,i,j,false,a⟩)(m:∀e∈b,e.cells.length=f)(k:1<=bytes)(l:(a.length+b.length)*bytes<=70368744177664):
 h.lO f bytes c d a.length b=some (.arr c (d+1) 0 (a++b).length false,dQ h c ⟨f,d+1,i+1,false,false,a++b⟩):=by
 unfold H.lO;rw[g];simp only[dO,mX,au,bo,aL,qm,jq,iq,m8 m,xJ g];simp[k,l,bh]
def rm.app{cx:Ctx}{h:H}{k:Nat}{c:T}{a:Nat}{d:List T}(o:rm h k c a d)(w:k<=h.size){r s l:ab}{B C b:Ty}(F:cx.ty r=some B)(G:B.u= .slice l)(I:cx.ty l=some b)(J:cx.ty s=some C)(K:C.u= .slice l)(z:b.size=a)(v:1<=b.bytes)
 {x:T} {xs:List T} (M:h.jc x=some xs) (p:∀e∈xs,e.cells.length=a) (y:(d.length+xs.length)*b.bytes<=70368744177664):
 ∃D m,iK cx h r s c x=some (.val D m)/\rm m k D a (d++xs)/\Fr k h m:=by
 have L:iK cx h r s c x=jl (h.append b.size b.bytes c xs):=by
  unfold iK pN mY;rw[F,dO,J,dO];simp only[G,I,K,M,dO];rw[z,m8 p,gX]
 rw[L,z];cases xs with
 |nil=>
  refine⟨c,h,?_,by simpa using o,Fr.refl _ _⟩;show jl (fP (oa c) (some (c,h)))=_;rcases o with⟨rfl,_⟩|⟨i,j,t,E,_,rfl,_⟩<;>rfl
 |cons f g=>
  rcases o with⟨rfl,rfl⟩|⟨i,j,t,E,A,rfl,q⟩
  ·refine⟨.arr h.size 0 0 (f::g).length false,h.cons ⟨a,0,0,false,false,f::g⟩,?_,.inr ⟨h.size,0,0,false,w,rfl,dp⟩,Fr.cons w _⟩;show jl (h.iU a b.bytes [] (f::g))=_;rw[om p v (by simpa using y)];rfl
  ·refine⟨.arr i (j+1) 0 (d++f::g).length false,dQ h i ⟨a,j+1,t+1,false,false,d++f::g⟩,?_,.inr ⟨i,j+1,t+1,false,A,rfl,by rw[dE q,aq rfl]⟩,Fr.put q A _⟩;show jl (h.lO a b.bytes i j d.length (f::g))=_;rw[vh q p v y];rfl
def rm.mM{cx:Ctx}{h:H}{c:Nat}{o:T}{a:Nat}{i:List T}(v:rm h c o a i)(s:c<=h.size){j k:ab}{n d:Ty}(l:cx.ty j=some n)(m:n.u= .slice k)(p:cx.ty k=some d)(w:d.size=a)(q:1<=d.bytes)
 {e:T} (r:e.cells.length=a) (t:(i.length+1)*d.bytes<=70368744177664):
 ∃g b,iK cx (h.cons ⟨a,0,0,true,false,[e]⟩) j j o (.arr h.size 0 0 1 false)=some (.val g b)/\rm b c g a (i++[e])/\Fr c h b:=by
 obtain⟨g,b,y,z,A⟩:=(v.cons ⟨a,0,0,true,false,[e]⟩).app (x:= .arr h.size 0 0 1 false) (xs:=[e]) dq l m p l m w q (by rw[fW];simp) (by simpa using r) (by simpa using t);exact⟨g,b,y,z,(Fr.cons s _).trans A⟩
@[simp] theorem Oh (h:H) (a:iJ):(h.cons a).low=h.low:=id rfl
@[simp] theorem F5 (h:H) (f c:iJ) (g:Nat) (j:g=h.size) (hl:h.low<=h.size):dQ (h.cons f) g c=h.cons c:=by
 subst j;obtain⟨a,b,d⟩:=h;unfold dQ;have:(H.cons ⟨a,b,d⟩ f).put a c=some (H.cons ⟨a,b,d⟩ c):=by
  show(fP (Nat.blt a (a+1)) (dJ (kj (f::d) (Nat.sub (Nat.sub (a+1) 1) a) c) λi=> @Bool.rec (λ_=>aa H) (some ⟨a+1,b,i⟩) (some ⟨a+1,a,i⟩) (Nat.blt a b)))=some ⟨a+1,b,c::d⟩;rw[show Nat.blt a (a+1)=true by rw[aG];omega,gX,km,show Nat.sub (Nat.sub (a+1) 1) a=0 by show a+1-1-a=0;omega];simp only[aZ,Nat.zero_lt_succ,bo,cJ,dO];rw[show Nat.blt a b=false by rw[cj];intro k;rw[aG]at k;simp at hl;omega]
 rw[this];rfl
@[simp] theorem aay (h:H) (i d:iJ) (a:Nat) (j:a<h.size):dQ (h.cons i) a d=(dQ h a d).cons i:=by
 obtain⟨b,c,f⟩:=h;have j:a<b:=j;have k:(H.cons ⟨b,c,f⟩ i).put a d=fP (Nat.blt a (b+1)) (dJ (kj (i::f) (Nat.sub (Nat.sub (b+1) 1) a) d) λg=> @Bool.rec (λ_=>aa H) (some ⟨b+1,c,g⟩) (some ⟨b+1,a,g⟩) (Nat.blt a c)):=rfl;have l:(⟨b,c,f⟩:H).put a d=fP (Nat.blt a b) (dJ (kj f (Nat.sub (Nat.sub b 1) a) d) λg=> @Bool.rec (λ_=>aa H) (some ⟨b,c,g⟩) (some ⟨b,a,g⟩) (Nat.blt a c)):=rfl;unfold dQ;rw[k,l,show Nat.blt a (b+1)=true by rw[aG];omega,show Nat.blt a b=true by rw[aG];exact j,gX,gX,km,km,
  show Nat.sub (Nat.sub (b+1) 1) a=Nat.sub (Nat.sub b 1) a+1 by show b+1-1-a=b-1-a+1;omega]
 by_cases hl:Nat.sub (Nat.sub b 1) a<f.length
 ·rw[aq (by simpa using hl),aq hl,dO,dO];cases Nat.blt a c<;>rfl
 ·rw[ao (by simpa using hl),ao hl];rfl
def dP(a:List T)(b:Nat)(c:List T):mt (.agg a) b c=dJ (kt a b c) λd=>some (.agg d):=rfl
attribute [simp] dP
@[simp] theorem VZ (b:ak) (c:Int) (a:T):mt (.int b c) 0 [a]=some a:=id rfl
@[simp] theorem TX (b:Bool) (a:T):mt (.bool b) 0 [a]=some a:=id rfl
@[simp] theorem UT (a:Nat):kU [] a=false:=id rfl
@[simp] theorem Tb (b d a:Nat) (c:List (Nat×Nat)):kU ((b,d)::c) a=(decide (b=a)||kU c a):=by
 unfold kU;rw[List.any_cons];congr 1
@[simp] theorem Zs (a b:Nat):y9 [] a b=false:=id rfl
@[simp] theorem Wl (c d a b:Nat) (f:List (Nat×Nat)):y9 ((c,d)::f) a b=((decide (c=a)&&decide (d=b))||y9 f a b):=by
 unfold y9;rw[List.any_cons];congr 1
@[simp] theorem IX (a:List (Nat×Nat)) (b:Nat) (h:H) (c:List (Nat×Nat)):u4 a b h h c=True:=by unfold u4;simp
@[simp] theorem Zb {f:Type} (a b:Nat) (d:f) (c:List (Nat×f)):List.lookup a ((b,d)::c)=if a=b then some d else List.lookup a c:=by
 rw[List.lookup_cons];by_cases h:a=b
 ·subst h;simp
 ·rw[ao h,show(a==b)=false by simpa using h]
def Kd(a:T):Nat:=a.cells.length
@[simp] theorem abi (a:ak) (b:Int):Kd (.int a b)=1:=id rfl
@[simp] theorem ZU (a:Bool):Kd (.bool a)=1:=id rfl
@[simp] theorem abh (a:List Nat):Kd (.str a)=1:=id rfl
def Ma(cx:Ctx)(h:H)(c:Ty)(d:T)(f a b:aa Nat):aa kW:=fP (jg cx h c.u d) (fP (yX a b) (val h (oy (asSlice c.u d) f a b)))
def V6(cx:Ctx)(mask:Nat)(e:Env)(a:aa ah):aa (aa Nat):=jx cx mask e a
section
variable {cx:Ctx}{mask:Nat}{e:Env}{h:H}
@[simp] theorem YT:V6 cx mask e none=some none:=id rfl
@[simp] theorem YS (a:ah):V6 cx mask e (some a)=dJ (fy cx mask e a) λc=>dJ (oZ c) λb=>some (some b):=id rfl
@[simp] theorem YV (g:ab) (a:ah) (d b c:aa ah):iW (.slice g a d b c) cx mask e h=dJ (cx.ty g) λf=>dJ (fy cx mask e a) λa=>dJ (V6 cx mask e d) λd=>dJ (V6 cx mask e b) λb=>dJ (V6 cx mask e c) λc=>Ma cx h f a d b c:=by
 show(dJ (cx.ty g) λf=>dJ (fy cx mask e a) λa=>fP (jg cx h f.u a)<|dJ (jx cx mask e d) λd=>dJ (jx cx mask e b) λb=>dJ (jx cx mask e c) λc=>fP (yX b c) (val h (oy (asSlice f.u a) d b c)))=_;unfold V6 Ma;congr 1;funext f;congr 1;funext a;cases jg cx h f.u a with
 |true=>rfl
 |false=>
  simp only[LM];cases jx cx mask e d<;>simp;cases jx cx mask e b<;>simp;cases jx cx mask e c<;>simp
def Rn{d:Type}(c:List d)(b a:Nat)(g:b<=a)(f:a<=c.length):I4 c b a=some ((c.drop b).take (a-b)):=by
 unfold I4;rw[ls,aq dj,dO,mX];rw[aq dq];rfl
def MA(d:List T)(a b:Nat)(m:a<=b)(l:b<=d.length)(f c:aa Nat)(k:fN f 0=a)(g:fN c d.length=b):oy (sl d) f c none=some (sl ((d.drop a).take (b-a))):=by
 cases d with
 |nil=>
  have n:b=0:=by simpa using l
  subst n;have o:a=0:=dj;subst o;show(fP (Nat.beq (fN f 0) 0) (fP (Nat.beq (fN c 0) 0) (some T.fO)))=_;have g:fN c 0=0:=g;rw[k,g];rfl
 |cons j i=>
  show sH (j::i) false (fN f 0) (fN c (kx (j::i))) none=_;rw[jq,k,g];unfold sH;rw[Rn _ _ _ m l,dO,show Nat.ble a b=true by simpa using m,gX];cases (List.take (b-a) (List.drop a (j::i)))<;>rfl
def HY{d i:Ty}{f:ab}(g:d.u= .slice f)(ht:cx.ty f=some i){a:List T}(l:∀j∈a,j.cells.length=i.size){c b:aa Nat}(n:fN c 0<=fN b a.length)(m:fN b a.length<=a.length):
 Ma cx h d (sl a) c b none=some (.val (sl ((a.drop (fN c 0)).take (fN b a.length-fN c 0))) h):=by
 unfold Ma;have k:jg cx h d.u (sl a)=true:=by
  rw[g];unfold jg;simp only[ht];cases a with
  |nil=>rfl
  |cons j o=>exact m8 l
 rw[k,gX,show yX b none=true from rfl,gX,show asSlice d.u (sl a)=sl a by rw[g];rfl,MA a _ _ n m c b rfl rfl];rfl
@[simp] theorem abO {j:Type} (i d:Ty) (g:ab) (a:j->T) (b:List j) (c:Nat) (m:i.u= .slice g) (ht:cx.ty g=some d) (k:∀n,Kd (a n)=d.size) (l:c<=b.length):Ma cx h i (sl (b.map a)) none (some c) none=some (.val (sl ((b.take c).map a)) h):=by
 rw[HY m ht (by simpa using λf _=>show(a f).cells.length=d.size from k f) (by simp[fN]) (by simpa[fN]using l)];simp[fN,List.map_take]
@[simp] theorem Yf {j:Type} (i d:Ty) (g:ab) (a:j->T) (b:List j) (c:Nat) (m:i.u= .slice g) (ht:cx.ty g=some d) (k:∀n,Kd (a n)=d.size) (l:c<=b.length):Ma cx h i (sl (b.map a)) (some c) none none=some (.val (sl ((b.drop c).map a)) h):=by
 rw[HY m ht (by simpa using λf _=>show(a f).cells.length=d.size from k f) (by simpa[fN]using l) (by simp[fN])];simp only[fN,aH,<-List.map_drop];rw[bF dp]
@[simp] theorem aax {k:Type} (j f:Ty) (i:ab) (a:k->T) (d:List k) (c b:Nat) (o:j.u= .slice i) (ht:cx.ty i=some f) (l:∀p,Kd (a p)=f.size) (n:c<=b) (m:b<=d.length):Ma cx h j (sl (d.map a)) (some c) (some b) none=some (.val (sl (((d.drop c).take (b-c)).map a)) h):=by
 rw[HY o ht (by simpa using λg _=>show(a g).cells.length=f.size from l g) (by simpa[fN]using n) (by simpa[fN]using m)];simp[fN,List.map_take,List.map_drop]
@[simp] theorem Jy (g k:Ty) (i:ab) (a c f d b:Nat) (s:Bool) (l:iJ) (j:g.u= .slice i) (ht:cx.ty i=some k) (n:h.get a=some l) (p:l.sz=k.size) (o:b<=d):Ma cx h g (.arr a c f d false) none (some b) none=some (.val (.arr a c f b false) h):=by
 unfold Ma;have m:jg cx h g.u (.arr a c f d false)=true:=by
  rw[j];unfold jg;simp only[ht,n,p,Nat.beq_refl]
 rw[m,gX,show yX (some b) none=true from rfl,gX,show asSlice g.u (.arr a c f d false)= .arr a c f d false by rw[j];rfl];show val h (fP (Nat.ble 0 b) (fP (Nat.ble b d) (dJ (f6 (Nat.add f 0)) λr=>dJ (f6 (Nat.sub b 0)) λq=>some (T.arr a c r q false))))=_;simp[o]
def Wt(cx:Ctx)(h:H)(d b:ab)(c:Ty)(a:T):aa kW:=match c.u with
 | .slice _=>val h (Co cx b a)
 | .str=>(match a with
  | .str _=>val h (conv cx b a)
  |_=>val h (FP cx h d a))
 |_=>val h (conv cx b a)
@[simp] theorem Ur (b a:ab) (c:ah):iW (.convert b a c) cx mask e h=dJ (cx.ty b) λ_=>dJ (fy cx mask e c) λd=>dJ (cx.ty a) λf=>Wt cx h b a f d:=rfl
def Fg{k d:ab}{b:Ty}{c g:ak}{a:Int}(i:cx.ty d=some b)(f:b.u= .int c)(j:Jp c a=a):Wt cx h k d b (.int g a)=some (.val (.int c a) h):=by
 unfold Wt;rw[f];show val h (dJ (cx.ty d) λb=>match b.u with
  | .int c=>(match(T.int g a)with| .int _ a=>o8 c a|_=>none)
  | .str=>_
  |_=>none)=_
 rw[i,dO,f];simp[o8,j]
@[simp] theorem abg (k c:ab) (b:Ty) (j:ak) (a:Int) (g:cx.ty c=some b) (i:b.u= .int .i64) (d: -9223372036854775808<=a) (f:a<9223372036854775808):Wt cx h k c b (.int j a)=some (.val (.int .i64 a) h):=Fg g i (jr d f)
@[simp] theorem QP (f:ab) (a b:ah):iW (.makeSlice f a b) cx mask e h=dJ (cx.ty f) λd=>(match d.u with
 | .slice g=>dJ (cx.ty g) λc=>dJ (fy cx mask e a) λa=>dJ (fy cx mask e b) λb=>dJ (oZ a) λa=>dJ (oZ b) λb=>
  fP (decide (1<=c.size))<|fP (decide (1<=c.bytes))<|fP (decide (a<=b)) (fP (decide (b*c.bytes<=70368744177664)) (some (.val (.arr h.size 0 0 a false) (h.cons ⟨c.size,0,0,decide (a=b),false,List.replicate a c.jV⟩))))
 |_=>none):=by
 show(dJ (cx.ty f) λd=>_)=_;congr 1;funext d;cases d.u<;>first|rfl|skip
 rename_i g;simp only[m6,H.kv,Kr,um,DT,zx];rfl
@[simp] theorem SW (b:aj) (a:List ah):iW (.makeFunc (.func b) #[] a.toArray) cx mask e h=dJ (fw (fy cx mask e) a) λc=>some (.val (.func b c) h):=by
 show(dJ (pi cx mask e a) λa=>val h (some (T.func b a)))=_;simp
end
def rm.RG{cx:Ctx}{h:H}{d:Nat}{q:T}{c:Nat}{k:Type}{a:k->T}{i:List k}(y:rm h d q c (i.map a))(v:d<=h.size){j m:ab}{p f:Ty}(n:cx.ty j=some p)(o:p.u= .slice m)(r:cx.ty m=some f)(z:f.size=c)(s:1<=f.bytes)
 (t:∀x,Kd (a x)=c) (xs:List k) (w:(i.length+xs.length)*f.bytes<=70368744177664):
 ∃g b,iK cx h j j q (sl (xs.map a))=some (.val g b)/\rm b d g c ((i++xs).map a)/\Fr d h b:=by
 obtain⟨g,b,A,B,C⟩:=y.app (x:=sl (xs.map a)) (xs:=xs.map a) v n o r n o z s dp (by simpa using λl _=>show(a l).cells.length=c from t l) (by simpa using w);exact⟨g,b,A,by rw[List.map_append];exact B,C⟩
def rm.Pt{cx:Ctx}{h:H}{f:Nat}{o:T}{d:Nat}{l:Type}{b:l->T}{j:List l}(x:rm h f o d (j.map b))(v:f<=h.size){k m:ab}{n g:Ty}(p:cx.ty k=some n)(q:n.u= .slice m)(r:cx.ty m=some g)(y:g.size=d)(s:1<=g.bytes)
 (t:∀a,Kd (b a)=d) (a:l) (w:(j.length+1)*g.bytes<=70368744177664):
 ∃i c,iK cx (h.cons ⟨d,0,0,true,false,[b a]⟩) k k o (.arr h.size 0 0 1 false)=some (.val i c)/\rm c f i d ((j++[a]).map b)/\Fr f h c:=by
 obtain⟨i,c,z,A,B⟩:=x.mM v p q r y s (e:=b a) (t a) (by simpa using w);exact⟨i,c,z,by rw[List.map_append];exact A,B⟩
def rm.fzM{h:H}{j:Nat}{b:T}{k:Nat}{d:Type}{f:d->T}{a:List d}(i:rm h j b k (a.map f))(g:∀c,wy h 11 (f c)=some (f c)):TI.ry h b=some (sl (a.map f)):=i.ry (BD _ _ _ g)
def gH{c:ai}{cx:Ctx}{tb:fq}{b:f7}(l:c.follows .mixedOrders=true)(iH:iM c cx){g:aj}{d:Func}{mask:Nat}{f:DL}(o:FE c cx g d mask f)(i:b.α->Nat)(hl:∀a,mh (b.A a)=true)(m:∀a,(b.A a).length<=d.ntmps)
 (n:∀a,b.pre a->∀j,mS j 0 (b.A a)->W (jh cx (qk c cx tb) (i a) mask f (d.body.getD .skip) ⟨j,.nil⟩ hE) (BM cx mask d.results.toList λp h=>PO h p (b.R a))):b.Ok c cx g:=
 λa k=>WT l iH o (Ch c cx tb) (hl a) (m a) (i a) (n a k)
attribute [simp] OY
end
noncomputable section
abbrev qp(a:T)(c:List T)(g:Nat):Prop:=a.cells=c/\Kd a=g/\(∀d e,mt a d e=dJ (kt c d e) λh=>some (.agg h))/\a.gD=true/\cn a=a/\(∀b,ry b a=some a)/\(∀b f,wy b (f+2) a=some a)/\jE a=true/\mB a=true
def mp{a b:List Nat}:T.str a=T.str b->a=b:=dp 
def gh{c:ak}{a b:Int}:T.int c a=T.int c b->a=b:=dp 
def rS{a b:Bool}:T.bool a=T.bool b->a=b:=dp 
def gW{f:Type}{a:f->T}(h:∀d e,a d=a e->d=e)(b c:List f)(g:sl (b.map a)=sl (c.map a)):b=c:=jt h g
def A4(b:U)(a:Nat)(c:T):Ty:=⟨b,1,a,false,[c]⟩
def sr(d:List (Nat×Nat))(c a:Nat)(b:Bool)(e:List T):Ty:=⟨.struct d,c,a,b,e⟩
def Qe(d c e a:Nat)(b:Bool)(f:List T):Ty:=⟨.array d c,e,a,b,f⟩
@[simp] theorem adi (b:U) (a:Nat) (c:T):(A4 b a c).size=1/\(A4 b a c).bytes=a/\(A4 b a c).u=b:=⟨rfl,rfl,rfl⟩
@[simp] theorem adm (d:List (Nat×Nat)) (a c:Nat) (e:Bool) (b:List T):(sr d a c e b).size=a/\(sr d a c e b).bytes=c/\(sr d a c e b).u= .struct d/\(sr d a c e b).jV= .agg b/\(sr d a c e b).zero=b/\∀f,jW (sr d a c e b) f=dJ (takeN a f) λg=>some (.agg g):=⟨rfl,rfl,rfl,rfl,rfl,λ_=>rfl⟩
abbrev Mm(a:ak)(b:Nat):Ty:=A4 (.int a) b (.int a 0)
abbrev tyB:Ty:=A4 .bool 1 (.bool false)
abbrev tyZ:Ty:=A4 .str 16 (.str [])
abbrev Aq(a:Nat):Ty:=A4 (.slice a) 24 (.dC [] false)
abbrev L9(a:Nat):Ty:=A4 (.ptr a) 8 .j4
@[simp] theorem adk (d:ak) (c:Nat) (b:T):(A4 (.int d) c b).jV=b/\∀a,jW (A4 (.int d) c b) a=a[0]? :=⟨rfl,λa=>kl a 0⟩
@[simp] theorem adl (c:Nat) (b:T):(A4 .bool c b).jV=b/\∀a,jW (A4 .bool c b) a=a[0]? :=⟨rfl,λa=>kl a 0⟩
@[simp] theorem adg (c:Nat) (b:T):(A4 .str c b).jV=b/\∀a,jW (A4 .str c b) a=a[0]? :=⟨rfl,λa=>kl a 0⟩
@[simp] theorem adh (d c:Nat) (b:T):(A4 (.slice d) c b).jV=b/\∀a,jW (A4 (.slice d) c b) a=a[0]? :=⟨rfl,λa=>kl a 0⟩
@[simp] theorem adj (d c:Nat) (b:T):(A4 (.ptr d) c b).jV=b/\∀a,jW (A4 (.ptr d) c b) a=a[0]? :=⟨rfl,λa=>kl a 0⟩
def iL{b:ai}{cx:Ctx}{d:aj}{a:Func}(e:Nat)(c:DL)(f:b.funcs[d]? =some a)(g:ww ⟨a,e,false,none⟩=true:=by kernel_rfl)(h:mm c (a.body.getD .skip)=true:=by kernel_rfl):FE b cx d a e c:=⟨f,g,h⟩
def gq(cx:Ctx)(c:Func)(f:Nat)(e:Bool):pF:=λb g a d=>rU cx b g c f e a d
def acJ{a:ai}{cx:Ctx}(g:a.follows .mixedOrders=true)(iH:iM a cx){e:aj}{b:Func}{d:Nat}{c:Bool}(f:a.funcs[e]? =some b)(h:ww ⟨b,d,c,none⟩=true:=by kernel_rfl):lI a cx e (gq cx b d c):=oH (F:=⟨b,d,c,none⟩) g iH f h
end
end Go.TI
