/- Texts TiWalk to TiData. -/
import Derived.Test.YtmaeadedikngoaaGreatDoorA8
import Derived.KernelRfl
set_option linter.all false
namespace Go.TI
theorem dC{p:Prop}(h:p:=by kernel_rfl):p:=h
end Go.TI
namespace Go.TI
noncomputable section
noncomputable section
variable {cx:Ctx}{cf:iL}{mask:Nat}{e:Env}{h:H}
attribute [simp] Ox kY jr H.kz
@[simp] theorem YL (c b:fN) (a:Nat):fG cx mask ⟨c,b⟩ (.tmp a)=if(mask>>>a)&&&1=1 then dH c a else dH b a:=AV c b a
@[simp] theorem YM (a:ak) (b:Int):fG cx mask e (.const (.int a b))=some (.int a b):=rfl
@[simp] theorem Wd (a:Bool):fG cx mask e (.const (.bool a))=some (.bool a):=rfl
@[simp] theorem Wc:fG cx mask e (.const (.slice none 0 0))=some (.dF [] false):=rfl
@[simp] theorem Ns (b:ByteArray):fG cx mask e (.const (.string b))=some (.str (b.data.toList.map UInt8.toNat)):=by
 show(dM (zH b.data.toList) λa=>some (T.str a))=_;have:∀a:List UInt8,zH a=some (a.map UInt8.toNat):=by
  intro a;induction a with
  |nil=>rfl
  |cons f a c=>
   show(dM (gh f.toNat) λg=>dM (zH a) λd=>some (g::d))=_;rw[c];simp
 rw[this];rfl
@[simp] theorem La (a:aj):fG cx mask e (.func a)=some (.func a []):=rfl
@[simp] theorem F7 (a:List ah):pq cx mask e a=fD (fG cx mask e) a:=rfl
def jX(a:Int):aa Nat:=if 0<=a then some a.toNat else none
@[simp] theorem V1 (b:ak) (a:Int):o9 (.int b a)=jX a:=by
 unfold jX;cases a with
 |ofNat c=>rw[aq dt];rfl
 |negSucc c=>rw[ao dq];rfl
@[simp] theorem HY (a:Nat):jX (a:Int)=some a:=by unfold jX;rw[aq dq];rfl
@[simp] theorem TX (a:Nat):jX (no_index (OfNat.ofNat a):Int)=some a:=HY a
def ei{a:Int}(h:0<=a):jX a=some a.toNat:=by unfold jX;rw[aq h]
@[simp] theorem aaP (a:ah):ja (.move a) cx mask e h=val h (fG cx mask e a):=rfl
@[simp] theorem Wh (a:ah):ja (.assign a) cx mask e h=val h (fG cx mask e a):=rfl
def mF(a:aa T)(b c:aa lh):aa lh:=dM a λa=>match a with| .bool d=>if d=true then b else c|_=>none
@[simp] theorem dZ (c:Bool) (a b:aa lh):mF (some (.bool c)) a b=if c=true then a else b:=rfl
@[simp] theorem QZ (a b c:ah):ja (.pick a b c) cx mask e h=mF (fG cx mask e a) (val h (fG cx mask e b)) (val h (fG cx mask e c)):=by
 show(dM (fG cx mask e a) λa=>_)=_;unfold mF;cases fG cx mask e a with
 |none=>rfl
 |some f=>cases f<;>first|rfl|(rename_i d;cases d<;>rfl)
@[simp] theorem UT (a:Ty):wc cx a=(match a.u with
 | .array _ b=>Option.casesOn (cx.ty b) false λd=>(match d.u with| .int c=>CM c .u8|_=>false)
 |_=>false):=rfl
@[simp] theorem Za (b:ab):ja (.alloc b) cx mask e h=dM (cx.ty b) λa=>if wc cx a=true then some (.val (.ptr h.size 0 0 0) (h.cons (kX 1 true a.zero)))else some (.val (.ptr h.size 0 0 0) (h.cons (kX a.size true [a.j1]))):=by
 show(dM (cx.ty b) λa=>_)=_;cases cx.ty b with
 |none=>rfl
 |some a=>
  simp only[dR];cases wc cx a<;>simp
@[simp] theorem DC (b:Nat) (c:Bool) (a:List T):kX b c a=⟨b,0,0,c,false,a⟩:=rfl
@[simp] theorem acw (d:ab) (b:ah):ja (.box d b) cx mask e h=dM (fG cx mask e b) λa=>fT a.gJ (some (.val (.ptr h.size 0 0 0) (h.cons ⟨a.cells.length,0,0,true,false,[a]⟩))):=by
 show(dM (fG cx mask e b) λa=>fT a.gJ (jp (h.new (λc=> .ptr c 0 0 0) (kX (kC a.cells) true [a]))))=_;simp
def xd(cx:Ctx)(mask:Nat)(e:Env):List (Nat×ah)->aa (List (Nat×T))
 | []=>some []
 |(b,d)::c=>dM (fG cx mask e d) λa=>fT a.gJ (dM (xd cx mask e c) λf=>some ((b,a)::f))
@[simp] theorem Un:xd cx mask e []=some []:=rfl
@[simp] theorem F6 (a:Nat) (c:ah) (b:List (Nat×ah)):xd cx mask e ((a,c)::b)=dM (fG cx mask e c) λd=>fT d.gJ (dM (xd cx mask e b) λf=>some ((a,d)::f)):=rfl
def Bz(a:List (Nat×ah)):partsOf cx mask e a=xd cx mask e a:=by
 induction a with
 |nil=>rfl
 |cons i a g=>
  obtain⟨f,c⟩:=i;show(dM (dM (fG cx mask e c) λb=>fT b.gJ (some (f,b))) λk=>dM (partsOf cx mask e a) λj=>some (k::j))=_;rw[g,F6];cases fG cx mask e c with
  |none=>rfl
  |some b=>cases d:b.gJ<;>simp[d]
def Cc(cx:Ctx)(c:List (Nat×ab)):List (Nat×T)->List T->aa (List T)
 | [],a=>some a
 |(g,d)::i,a=>dM (c[g]?) λb=>dM (cx.ty b.2) λj=>fT (decide (d.cells.length=j.size)) (dM (kx a b.1 d.cells) λf=>Cc cx c i f)
@[simp] theorem Wy (b:List (Nat×ab)) (a:List T):Cc cx b [] a=some a:=rfl
@[simp] theorem IZ (a:List (Nat×ab)) (f:Nat) (b:T) (g:List (Nat×T)) (c:List T):Cc cx a ((f,b)::g) c=dM (a[f]?) λd=>dM (cx.ty d.2) λj=>fT (decide (b.cells.length=j.size)) (dM (kx c d.1 b.cells) λi=>Cc cx a g i):=rfl
def E8(g:List (Nat×ab)):∀(c:List (Nat×T)) (f:List T),mf (λb=>dM (lM g b) λa=>dM (cx.ty a.2) λd=>some (a.1,d.size)) c f=Cc cx g c f:=by
 intro c;induction c with
 |nil=>intro f;rfl
 |cons m c l=>
  intro f;obtain⟨b,j⟩:=m;show(dM (dM (lM g b) λa=>dM (cx.ty a.2) λd=>some (a.1,d.size)) λi=>fT (Nat.beq (kC j.cells) i.2) (dM (kx f i.1 j.cells) λk=>mf (λb=>dM (lM g b) λa=>dM (cx.ty a.2) λd=>some (a.1,d.size)) c k))=_;rw[IZ,ks];cases g[b]? with
  |none=>rfl
  |some a=>
   simp only[dR];cases cx.ty a.2 with
   |none=>rfl
   |some d=>simp only[dR,jt,uv,l]
def Cg(b:Nat):List (Nat×T)->List T->aa (List T)
 | [],a=>some a
 |(f,c)::g,a=>fT (decide (c.cells.length=b)) (dM (kx a (f*b) c.cells) λd=>Cg b g d)
@[simp] theorem WA (b:Nat) (a:List T):Cg b [] a=some a:=rfl
@[simp] theorem I1 (a d:Nat) (b:T) (f:List (Nat×T)) (c:List T):Cg a ((d,b)::f) c=fT (decide (b.cells.length=a)) (dM (kx c (d*a) b.cells) λg=>Cg a f g):=rfl
def C3(a:Nat):∀(b:List (Nat×T)) (c:List T),mf (λd=>some (Nat.mul d a,a)) b c=Cg a b c:=by
 intro b;induction b with
 |nil=>intro c;rfl
 |cons j b i=>
  intro c;obtain⟨d,f⟩:=j;show(fT (Nat.beq (kC f.cells) a) (dM (kx c (Nat.mul d a) f.cells) λg=>mf (λd=>some (Nat.mul d a,a)) b g))=_;simp only[jt,uv,i,I1];rfl
@[simp] theorem V5 (c b:T) (a:List T):kx (c::a) 0 [b]=some (b::a):=by rw[sN];simp
@[simp] theorem V4 (f c d:T) (a b:List T):kx (f::a) 0 (c::d::b)=dM (kx a 0 (d::b)) λg=>some (c::g):=by
 rw[sN,sN];simp only[aZ,Nat.zero_add,List.take_zero,List.nil_append];by_cases hl:b.length+1<=a.length
 ·rw[aq dq,aq dq];simp
 ·rw[ao dq,ao dq];rfl
@[simp] theorem Yo (a:T) (b d:List T) (c:Nat):kx (a::b) (c+1) d=dM (kx b c d) λf=>some (a::f):=rfl
def Ji(cx:Ctx)(h:H)(b:Ty)(c:List (Nat×T)):aa lh:=match b.u with
 | .struct f=>dM (Cc cx f c b.zero) λa=>some (.val (.agg a) h)
 | .array _ d=>dM (cx.ty d) λg=>dM (Cg g.size c b.zero) λa=>some (.val (.agg a) h)
 |_=>none
@[simp] theorem WN (a:Ty) (c:List (Nat×T)):Ji cx h a c=(match a.u with
 | .struct f=>dM (Cc cx f c a.zero) λb=>some (.val (.agg b) h)
 | .array _ d=>dM (cx.ty d) λg=>dM (Cg g.size c a.zero) λb=>some (.val (.agg b) h)
 |_=>none):=rfl
@[simp] theorem Y9 (c:ab) (a:List (Nat×ah)):ja (.build c a.toArray) cx mask e h=dM (cx.ty c) λb=>dM (xd cx mask e a) λa=>Ji cx h b a:=by
 show(dM (cx.ty c) λb=>dM (partsOf cx mask e a) λa=>_)=_;rw[Bz];congr 1;funext b;congr 1;funext a;unfold Ji;cases b.u<;>first|rfl|(simp only[E8,C3,xH])
def zw(c:Nat):List (Nat×T)->List T->aa (List T)
 | [],a=>some a
 |(b,d)::f,a=>fT (decide (d.cells.length=c)) (fT (decide (b<a.length)) (zw c f (a.set b d)))
@[simp] theorem Vb (b:Nat) (a:List T):zw b [] a=some a:=rfl
@[simp] theorem Hl (c b:Nat) (d:T) (f:List (Nat×T)) (a:List T):zw c ((b,d)::f) a=fT (decide (d.cells.length=c)) (fT (decide (b<a.length)) (zw c f (a.set b d))):=rfl
def E7(c:Nat):∀(b:List (Nat×T)) (a:List T),oR c b a=zw c b a:=by
 intro b;induction b with
 |nil=>intro a;rfl
 |cons k b j=>
  intro a;obtain⟨d,f⟩:=k;show(fT (Nat.beq (kC f.cells) c) (dM (kr a d f) λg=>oR c b g))=_;simp only[jt,uv,j,Hl,kt];by_cases i:d<a.length<;>simp[i]
@[simp] theorem Qd (f:ab) (b:Nat) (c:List (Nat×ah)):ja (.buildSlice f b c.toArray) cx mask e h=dM (cx.ty f) λd=>(match d.u with
 | .slice g=>dM (cx.ty g) λa=>dM (xd cx mask e c) λc=>fT (decide (1<=a.size))<|fT (decide (b*a.size<=65536)) (dM (zw a.size c (List.replicate b a.j1)) λi=>
  some (.val (.arr h.size 0 0 b false) (h.cons ⟨a.size,0,0,true,false,i⟩)))
 |_=>none):=by
 show(dM (cx.ty f) λd=>_)=_;congr 1;funext d;cases d.u<;>first|rfl|skip
 rename_i g;simp only[Bz,E7,ng,H.kz,KA,DC,zO];rfl
@[simp] theorem aaQ (b:ab) (a:ah):ja (.load b a) cx mask e h=dM (cx.ty b) λc=>dM (fG cx mask e a) λa=>val h (h.load c a):=rfl
def ldB(a:iN)(c d f:Nat)(g:Ty):aa T:=fT (decide (a.ep=c)) (if a.it=true then none else dM (a.em[d]?) λe=>dM (jJ f e.cells) λb=>j2 g b)
@[simp] theorem UN (l b m:Nat) (k f:Bool) (c:List T) (a d g:Nat) (i:Ty):ldB ⟨l,b,m,k,f,c⟩ a d g i=fT (decide (b=a)) (if f=true then none else dM (c[d]?) λe=>dM (jJ g e.cells) λj=>j2 i j):=id rfl
@[simp] theorem UM (j:Ty) (b c f i:Nat):h.load j (.ptr b c f i)=dM (h.get b) λa=>ldB a c f i j:=by
 show(dM (dM (h.get b) λa=>iN.casesOn a λ_ d _ _ g l=>fT (Nat.beq d c) (Bool.casesOn g (lM l f) none)) λe=>dM (jJ i e.cells) λk=>j2 j k)=_;cases h.get b with
 |none=>rfl
 |some a=>
  obtain⟨o,d,p,n,g,m⟩:=a;simp only[dR,UN,uv,ks];cases decide (d=c)<;>cases g<;>simp
def FO(h:H)(c:Nat)(a:iN)(f b g:Nat)(i:List T):aa H:=fT (decide (a.ep=f)) (if a.it=true then none else dM (a.em[b]?) λe=>dM (mz e g i) λd=>some (dT h c ⟨a.sz,a.ep,a.ver+1,a.exact,false,a.em.set b d⟩))
@[simp] theorem T1 (d k a l:Nat) (g i:Bool) (b:List T) (f c j:Nat) (m:List T):FO h d ⟨k,a,l,g,i,b⟩ f c j m=fT (decide (a=f)) (if i=true then none else dM (b[c]?) λe=>dM (mz e j m) λn=>some (dT h d ⟨k,a,l+1,g,false,b.set c n⟩)):=id rfl
def xQ{a:Nat}{o:iN}(c:h.get a=some o)(f:iN):h.put a f=some (dT h a f):=by
 have:∃d,h.put a f=some d:=by
  obtain⟨b,j,g⟩:=h;rw[H.get_eq]at c;simp only at c;by_cases i:a<b
  ·rw[aq i]at c;have hl:b-1-a<g.length:=by
    rcases aD (b-1-a) g.length with n|l
    ·exact n
    ·rw[aK l]at c;simp at c
   show∃d,(fT (Nat.blt a b) (dM (kr g (Nat.sub (Nat.sub b 1) a) f) λk=> @Bool.rec (λ_=>aa H) (some ⟨b,j,k⟩) (some ⟨b,a,k⟩) (Nat.blt a j)))=some d;rw[show Nat.blt a b=true by rw[aG];exact i,ij,kt,aq (by show b-1-a<_;omega),dR];cases Nat.blt a j<;>exact⟨_,rfl⟩
  ·rw[ao i]at c;simp at c
 obtain⟨d,m⟩:=this;unfold dT;rw[m];rfl
@[simp] theorem aaG (l:Ty) (b i a g:Nat) (c:T):h.store l (.ptr b i a g) c=fT (decide (c.cells.length=l.size)) (dM (h.get b) λf=>FO h b f i a g c.cells):=by
 show(fT (Nat.beq (kC c.cells) l.size) (dM (h.get b) λf=>iN.casesOn f λp j q exact k n=>
  fT (Nat.beq j i) (@Bool.rec (λ_=>aa H) (dM (lM n a) λe=>dM (mz e g c.cells) λm=>dM (kr n a m) λd=>
   dM (gh (Nat.succ q)) λv=>h.put b ⟨p,j,v,exact,false,d⟩) none k)))=_
 simp only[jt,uv];cases r:h.get b with
 |none=>rfl
 |some f=>
  obtain⟨p,j,q,w,k,d⟩:=f;simp only[dR,T1];congr 1;congr 1;cases k with
  |true=>rfl
  |false=>
   simp only[ks,cd,br];cases o:d[a]? with
   |none=>rfl
   |some e=>
    simp only[dR];cases mz e g c.cells with
    |none=>rfl
    |some m=>
     have t:a<d.length:=by
      rcases aD a d.length with u|s
      ·exact u
      ·rw[aK s]at o;simp at o
     simp only[dR,kt,aq t,iw,xQ r]
@[simp] theorem Y3 (b:ab) (a d:ah):ja (.store b a d) cx mask e h=dM (cx.ty b) λg=>dM (fG cx mask e a) λa=>dM (fG cx mask e d) λc=>fT c.gJ (dM (h.store g a c) λf=>some (.val .undef f)):=rfl
def ncW(h:H)(a:T):aa lh:=match a with| .ptr .. | .ji _| .func .. =>some (.val a h)|_=>none
@[simp] theorem aaR (a b c d:Nat):ncW h (.ptr a b c d)=some (.val (.ptr a b c d) h):=rfl
@[simp] theorem Te (a:ah):ja (.nilCheck a) cx mask e h=dM (fG cx mask e a) λb=>ncW h b:=rfl
@[simp] theorem Wm (d f:ah) (b:ak) (c:Int) (a:T):Ai d f (.int b c) a=true:=id rfl
@[simp] theorem Wl (c d:ah) (b:List Nat) (a:T):Ai c d (.str b) a=true:=id rfl
@[simp] theorem UF (c d:ah) (b:Bool) (a:T):Ai c d (.bool b) a=true:=id rfl
@[simp] theorem acv (g j:ab) (c d:ah):ja (.binOp .eql g c d j) cx mask e h=dM (cx.ty g) λi=>dM (fG cx mask e c) λa=>dM (fG cx mask e d) λb=>fT (Ai c d a b) (dM (Mo cx i a b) λf=>some (.val (.bool f) h)):=by
 show(dM (cx.ty g) λi=>dM (fG cx mask e c) λa=>dM (fG cx mask e d) λb=>fT (Ai c d a b) (dM (Mo cx i a b) λf=>val h (wz f)))=_;simp
@[simp] theorem acm (g j:ab) (c d:ah):ja (.binOp .neq g c d j) cx mask e h=dM (cx.ty g) λi=>dM (fG cx mask e c) λa=>dM (fG cx mask e d) λb=>fT (Ai c d a b) (dM (Mo cx i a b) λf=>some (.val (.bool !f) h)):=by
 show(dM (cx.ty g) λi=>dM (fG cx mask e c) λa=>dM (fG cx mask e d) λb=>fT (Ai c d a b) (dM (Mo cx i a b) λf=>val h (wz (!f))))=_;simp
@[simp] theorem abd (d:Ty) (a:ak) (b c:Int) (f:d.u= .int a):Mo cx d (.int a b) (.int a c)=some (decide (b=c)):=by unfold Mo;rw[f];simp
@[simp] theorem abc (c:Ty) (a b:List Nat) (d:c.u= .str):Mo cx c (.str a) (.str b)=some (decide (a=b)):=by unfold Mo;rw[d];simp
@[simp] theorem ZZ (c:Ty) (a b:Bool) (d:c.u= .bool):Mo cx c (.bool a) (.bool b)=some (a==b):=by unfold Mo;rw[d];simp
def wF(c:BinOp)(d f:aa T)(h:H):aa lh:=dM d λa=>dM f λb=>val h (binop c a b)
@[simp] theorem ZF (c:BinOp) (a b:T):wF c (some a) (some b) h=val h (binop c a b):=rfl
@[simp] theorem acx (c d:ab) (a b:ah):ja (.binOp .add c a b d) cx mask e h=wF .add (fG cx mask e a) (fG cx mask e b) h:=rfl
@[simp] theorem acj (c d:ab) (a b:ah):ja (.binOp .sub c a b d) cx mask e h=wF .sub (fG cx mask e a) (fG cx mask e b) h:=rfl
@[simp] theorem acn (c d:ab) (a b:ah):ja (.binOp .mul c a b d) cx mask e h=wF .mul (fG cx mask e a) (fG cx mask e b) h:=rfl
@[simp] theorem acl (c d:ab) (a b:ah):ja (.binOp .quo c a b d) cx mask e h=wF .quo (fG cx mask e a) (fG cx mask e b) h:=rfl
@[simp] theorem ack (c d:ab) (a b:ah):ja (.binOp .rem c a b d) cx mask e h=wF .rem (fG cx mask e a) (fG cx mask e b) h:=rfl
@[simp] theorem acq (c d:ab) (a b:ah):ja (.binOp .lss c a b d) cx mask e h=wF .lss (fG cx mask e a) (fG cx mask e b) h:=rfl
@[simp] theorem acr (c d:ab) (a b:ah):ja (.binOp .leq c a b d) cx mask e h=wF .leq (fG cx mask e a) (fG cx mask e b) h:=rfl
@[simp] theorem act (c d:ab) (a b:ah):ja (.binOp .gtr c a b d) cx mask e h=wF .gtr (fG cx mask e a) (fG cx mask e b) h:=rfl
@[simp] theorem acu (c d:ab) (a b:ah):ja (.binOp .geq c a b d) cx mask e h=wF .geq (fG cx mask e a) (fG cx mask e b) h:=rfl
@[simp] theorem adA (a:UnOp) (d:ab) (b:ah):ja (.unOp a d b) cx mask e h=dM (fG cx mask e b) λc=>val h (unop a c):=rfl
@[simp] theorem Q2 (c:ab) (a:ah) (b:Nat):ja (.fieldAddr c a b) cx mask e h=dM (wg cx c b) λd=>dM (fG cx mask e a) λa=>faV d.1 h a:=rfl
@[simp] theorem U7 (c:ab) (a:Nat):wg cx c a=dM (cx.ty c) λd=>(match d.u with| .struct b=>b[a]? |_=>none):=by
 show(dM (cx.ty c) λd=>match d.u with| .struct b=>lM b a|_=>none)=_;simp
def fdW(h:H)(off:Nat)(c:Ty)(d:T):aa lh:=match d with| .agg a=>dM (jJ off a) λb=>val h (j2 c b)|_=>none
@[simp] theorem aba (off:Nat) (b:Ty) (a:List T):fdW h off b (.agg a)=dM (jJ off a) λc=>val h (j2 b c):=rfl
@[simp] theorem Y6 (d:ab) (a:ah) (b:Nat):ja (.field d a b) cx mask e h=dM (wg cx d b) λc=>dM (cx.ty c.2) λf=>dM (fG cx mask e a) λa=>fdW h c.1 f a:=rfl
def ixW(cx:Ctx)(h:H)(g:Ty)(d:T)(c:Nat):aa lh:=match g.u with
 | .slice a=>dM (cx.ty a) λb=>km h b d c
 | .array f a=>dM (cx.ty a) λb=>oh h f b d c
 |_=>none
@[simp] theorem acM (f:Ty) (d:T) (b:Nat):ixW cx h f d b=(match f.u with
 | .slice a=>dM (cx.ty a) λc=>km h c d b
 | .array g a=>dM (cx.ty a) λc=>oh h g c d b
 |_=>none):=rfl
@[simp] theorem Q1 (c:ab) (b a:ah):ja (.indexAddr c b a) cx mask e h=dM (cx.ty c) λf=>dM (fG cx mask e b) λb=>dM (fG cx mask e a) λa=>dM (o9 a) λd=>ixW cx h f b d:=rfl
@[simp] theorem LL (d:Ty) (b:List T) (f:Bool) (c:Nat):km h d (.dF b f) c=dM (b[c]?) λa=>fT (decide (a.cells.length=d.size)) (some (.val (.ji a.cells) h)):=by
 show(dM (lM b c) λa=>fT (Nat.beq (kC a.cells) d.size) (some (lh.val (.ji a.cells) h)))=_;simp
@[simp] theorem OI (i:Ty) (a c g f:Nat) (j:Bool) (d:Nat):km h i (.arr a c g f j) d=fT (decide (d<f)) (dM (h.get a) λb=>fT (decide (b.sz=i.size))<|fT (decide (b.ep=c)) (some (.val (.ptr a c (g+d) 0) h))):=by
 show(fT (Nat.blt d f) (dM (h.get a) λb=>fT (Nat.beq b.sz i.size)<|fT (Nat.beq b.ep c) (dM (gh (Nat.add g d)) λk=>some (lh.val (.ptr a c k 0) h))))=_;simp
def icW(cx:Ctx)(h:H)(l:Ty)(c:T)(a:Nat):aa lh:=match l.u with
 | .str=>(match c with| .str k=>dM (k[a]?) λd=>some (.val (.int .u8 d) h)|_=>none)
 | .array i g=>(match c with
  | .agg f=>dM (cx.ty g) λb=>fT (decide (a<i)) (dM (jJ (a*b.size) f) λj=>val h (j2 b j))
  |_=>none)
 |_=>none
@[simp] theorem acN (d:Ty) (b:T) (a:Nat):icW cx h d b a=(match d.u with
 | .str=>(match b with| .str l=>dM (l[a]?) λf=>some (.val (.int .u8 f) h)|_=>none)
 | .array j i=>(match b with
  | .agg g=>dM (cx.ty i) λc=>fT (decide (a<j)) (dM (jJ (a*c.size) g) λk=>val h (j2 c k))
  |_=>none)
 |_=>none):=rfl
@[simp] theorem Y5 (d:ab) (a b:ah):ja (.index d a b) cx mask e h=dM (cx.ty d) λf=>dM (fG cx mask e a) λa=>dM (fG cx mask e b) λb=>dM (o9 b) λc=>icW cx h f a c:=by
 show(dM (cx.ty d) λf=>dM (fG cx mask e a) λa=>dM (fG cx mask e b) λb=>dM (o9 b) λc=>match f.u with
  | .str=>(match a with| .str n=>dM (lM n c) λi=>val h (some (.int .u8 (.ofNat i)))|_=>none)
  | .array l k=>(match a with
   | .agg j=>dM (cx.ty k) λg=>fT (Nat.blt c l) (dM (jJ (Nat.mul c g.size) j) λm=>val h (j2 g m))
   |_=>none)
  |_=>none)=_
 simp only[ks,RP,xH];rfl
@[simp] theorem UC (b:ah) (a:Nat):ja (.extract b a) cx mask e h=dM (fG cx mask e b) λc=>exV h c a:=rfl
@[simp] theorem Y8 (b:aj) (a:List ah) (f:af ab):ja (.call ⟨.value (.func b),a.toArray,f⟩) cx mask e h=dM (fD (fG cx mask e) a) λc=>some (.call b c):=by
 show(dM (pq cx mask e a) λa=>dM (some (T.func b [])) λg=>match g with
  | .func b d=>dM (Db a d) λc=>some (lh.call b c)
  |_=>none)=_
 simp
def Z5(c:List T)(d:T):aa lh:=match d with| .func b a=>some (.call b (c++a))|_=>none
@[simp] theorem WH (c:List T) (b:aj) (a:List T):Z5 c (.func b a)=some (.call b (c++a)):=rfl
@[simp] theorem Y7 (c:Tmp) (a:List ah) (i:af ab):ja (.call ⟨.value (.tmp c),a.toArray,i⟩) cx mask e h=dM (fD (fG cx mask e) a) λb=>dM (fG cx mask e (.tmp c)) λd=>Z5 b d:=by
 show(dM (pq cx mask e a) λa=>dM (fG cx mask e (.tmp c)) λd=>match d with
  | .func g f=>dM (Db a f) λb=>some (lh.call g b)
  |_=>none)=_
 simp only[F7,qr,dR];rfl
@[simp] theorem acs (a:List ah) (b:ab):ja (.call ⟨.builtin .len,a.toArray,#[b]⟩) cx mask e h=dM (fD (fG cx mask e) a) λc=>(match c with| [d]=>L8 cx h [b] d|_=>none):=rfl
def CX(cx:Ctx)(h:H)(g:Ty)(a:T):aa lh:=match g.u with
 | .str=>(match a with| .str f=>some (.val (.int .i64 f.length) h)|_=>none)
 | .slice _=>(match a with
  | .dF b _=>some (.val (.int .i64 b.length) h)
  | .fR=>some (.val (.int .i64 0) h)
  | .arr _ _ _ c _=>some (.val (.int .i64 c) h)
  |_=>none)
 | .array d _=>some (.val (.int .i64 d) h)
 |_=>none
def AT(b:Ty)(a:T):CX cx h b a=(match b.u with
 | .str=>(match a with| .str g=>some (.val (.int .i64 g.length) h)|_=>none)
 | .slice _=>(match a with
  | .dF c _=>some (.val (.int .i64 c.length) h)
  | .fR=>some (.val (.int .i64 0) h)
  | .arr _ _ _ d _=>some (.val (.int .i64 d) h)
  |_=>none)
 | .array f _=>some (.val (.int .i64 f) h)
 |_=>none):=rfl
@[simp] theorem Zl (b:Ty) (a:List Nat) (c:b.u= .str):CX cx h b (.str a)=some (.val (.int .i64 a.length) h):=by rw[AT,c]
@[simp] theorem DH (b:Ty) (a:List T) (c:Bool) (f:ab) (d:b.u= .slice f):CX cx h b (.dF a c)=some (.val (.int .i64 a.length) h):=by rw[AT,d]
@[simp] theorem LF (a:Ty) (c:ab) (b:a.u= .slice c):CX cx h a .fR=some (.val (.int .i64 0) h):=by rw[AT,b]
@[simp] theorem Oy (b:Ty) (c d i a:Nat) (f:Bool) (j:ab) (g:b.u= .slice j):CX cx h b (.arr c d i a f)=some (.val (.int .i64 a) h):=by rw[AT,g]
@[simp] theorem abt (a:ab) (c:T):L8 cx h [a] c=dM (cx.ty a) λb=>CX cx h b c:=by
 show(dM (lM [a] 0) λa=>dM (cx.ty a) λb=>_)=_;simp only[ks,List.getElem?_cons_zero,dR];congr 1;funext b;unfold CX;cases b.u<;>first|rfl|(cases c<;>first|rfl|(simp;try rfl))
@[simp] theorem aco (a:List ah) (b:af ab):ja (.call ⟨.builtin .min,a.toArray,b⟩) cx mask e h=dM (fD (fG cx mask e) a) λc=>kR .min cx h b.toList c:=rfl
@[simp] theorem acp (a:List ah) (b:af ab):ja (.call ⟨.builtin .max,a.toArray,b⟩) cx mask e h=dM (fD (fG cx mask e) a) λc=>kR .max cx h b.toList c:=rfl
@[simp] theorem acz (f:List ab) (c:ak) (a b:Int):kR .min cx h f [.int c a,.int c b]=some (.val (.int c (min a b)) h):=by
 show val h (fT (CM c c) (wZ c (@Bool.rec (λ_=>Int) a b (J7 b a))))=_;rw[qW,ij,nY,v8];simp only[xH,ar,lh.val.injEq,T.int.injEq,true_and,and_true];by_cases d:b<a
 ·rw[aT d];show b=min a b;omega
 ·rw[aM d];show a=min a b;omega
@[simp] theorem acA (f:List ab) (c:ak) (a b:Int):kR .max cx h f [.int c a,.int c b]=some (.val (.int c (max a b)) h):=by
 show val h (fT (CM c c) (wZ c (@Bool.rec (λ_=>Int) a b (J7 a b))))=_;rw[qW,ij,nY,v8];simp only[xH,ar,lh.val.injEq,T.int.injEq,true_and,and_true];by_cases d:a<b
 ·rw[aT d];show b=max a b;omega
 ·rw[aM d];show a=max a b;omega
end
end
noncomputable section
abbrev hE:H:=⟨0,0,[]⟩
structure FC(P:ai)(cx:Ctx)(f:aj)(fn:Func)(mask:Nat)(dl:DL):Prop where
 at_:P.funcs[f]? =some fn
 ok:wE ⟨fn,mask,false,none⟩=true
 dr:mt dl (fn.body.getD .skip)=true
def mY(a:fN):Nat->List T->Prop
 |_,[]=>True
 |i,b::c=>dH a i=some b/\mY a (i+1) c
@[simp] theorem V0 (b:fN) (a:Nat):mY b a []=True:=rfl
@[simp] theorem TP (b:fN) (a:Nat) (c:T) (d:List T):mY b a (c::d)=(dH b a=some c/\mY b (a+1) d):=rfl
def md(mask:Nat):∀(d a:Nat) (f:List T),f.length<=d->∃b,lV mask d a f=some b/\(∀c,c<a->dH b c=none)/\mY b a f:=by
 intro d;induction d with
 |zero=>
  intro a f hl;have:f=[]:=aY dq;subst this;exact⟨.nil,rfl,λ_ _=>rfl,trivial⟩
 |succ d q=>
  intro a f hl;have s:∀(e:List T) (b:fN) (c:Nat) (m:T) (g:Nat),c<g->mY b g e->mY (.cons c m b) g e:=by
   intro e;induction e with
   |nil=>intro _ _ _ _ _ _;trivial
   |cons l e r=>
    intro b c m g t o;exact⟨by rw[kY,ao dq];exact o.1,r b c m (g+1) dq o.2⟩
  cases f with
  |nil=>
   obtain⟨b,i,j,n⟩:=q (a+1) [] dt;show∃b,(dM (gh (Nat.succ a)) λk=> @Bool.rec (λ_=>aa fN) (lV mask d k []) (dM (lV mask d k []) λh=>some (.cons a .undef h)) (jW mask a))=some b/\_;rw[iw,dR];cases jW mask a with
   |false=>exact⟨b,i,λc p=>j c dq,trivial⟩
   |true=>
    refine⟨.cons a .undef b,?_,λc p=> ?_,trivial⟩
    ·show(dM (lV mask d (a+1) []) λh=>some (fN.cons a .undef h))=_;rw[i];rfl
    ·rw[kY,ao dq];exact j c dq
  |cons l e=>
   obtain⟨b,i,j,n⟩:=q (a+1) e (by simp at hl;omega);refine⟨.cons a l b,?_,λc p=> ?_,?_,s _ _ _ _ _ dq n⟩
   ·show(dM (gh (Nat.succ a)) λk=>dM (lV mask d k e) λh=>some (fN.cons a l h))=_;rw[iw,dR,i];rfl
   ·rw[kY,ao dq];exact j c dq
   ·rw[kY,aq rfl]
def zJ(cx:Ctx)(mask:Nat)(d:List ResultVar)(e:fN)(b:H)(c:List T->Prop):Prop:=∃a,mD cx mask ⟨e,.nil⟩ b d=some a/\c a
section
variable {P:ai}{cx:Ctx}{cf:iL}{mask:Nat}
@[simp] theorem aal (e:fN) (c:H) (b:List T->Prop):zJ cx mask [] e c b=b []:=by
 apply propext;constructor
 ·rintro⟨d,hl,a⟩;have hl:some []=some d:=hl;simp only[ar]at hl;subst hl;exact a
 ·exact λa=>⟨[],rfl,a⟩
def WV(c:aa T)(b:T->Prop):Prop:=∃a,c=some a/\b a
@[simp] theorem abB (b:T) (d:T->Prop):WV (some b) d=d b:=by
 apply propext;constructor
 ·rintro⟨e,c,a⟩;simp only[ar]at c;subst c;exact a
 ·exact λa=>⟨b,rfl,a⟩
def D2(k:ResultVar)(l:List ResultVar)(b:fN)(c:H)(i:List T->Prop):zJ cx mask (k::l) b c i=
 WV (ResultVar.casesOn k (λh=>Env.get mask ⟨b,.nil⟩ h) (λm h=>dM (Env.get mask ⟨b,.nil⟩ m) λn=>dM (cx.ty h) λo=>c.load o n)) λa=>zJ cx mask l b c λj=>i (a::j):=by
 apply propext;unfold zJ WV mD;simp only[jr];constructor
 ·rintro⟨j,hl,d⟩;obtain⟨a,f,hl⟩:=dD.1 hl;obtain⟨g,e,hl⟩:=dD.1 hl;simp only[ar]at hl;subst hl;exact⟨a,f,g,e,d⟩
 ·rintro⟨a,f,g,e,d⟩;refine⟨a::g,?_,d⟩;rw[f,dR,e];rfl
@[simp] theorem aak (e:Tmp) (d:List ResultVar) (a:fN) (b:H) (c:List T->Prop):zJ cx mask (.tmp e::d) a b c=WV (Env.get mask ⟨a,.nil⟩ e) λg=>zJ cx mask d a b λf=>c (g::f):=D2 _ d a b c
@[simp] theorem WZ (e:Tmp) (f:ab) (d:List ResultVar) (b:fN) (a:H) (c:List T->Prop):zJ cx mask (.cell e f::d) b a c=WV (dM (Env.get mask ⟨b,.nil⟩ e) λh=>dM (cx.ty f) λi=>a.load i h) λj=>zJ cx mask d b a λg=>c (j::g):=D2 _ d b a c
def BU(cx:Ctx)(mask:Nat)(e:List ResultVar)(d:List T->H->Prop):iB:=
 ⟨λb a=>zJ cx mask e b.vars a λc=>d c a,λ_ _ _=>False,λb a=>zJ cx mask e b.vars a λc=>d c a⟩
@[simp] theorem acL (d:List ResultVar) (c:List T->H->Prop) (b:Env) (a:H):(BU cx mask d c).n b a=zJ cx mask d b.vars a λe=>c e a:=rfl
@[simp] theorem acK (d:List ResultVar) (c:List T->H->Prop) (b:Env) (a:H):(BU cx mask d c).r b a=zJ cx mask d b.vars a λe=>c e a:=rfl
def CE{g:Out}{h:List ResultVar}{f:List T->H->Prop}(i:W g (BU cx mask h f)):∃c b a,g=some (c,b,a)/\(c= .normal\/c= .ret)/\zJ cx mask h b.vars a λj=>f j a:=by
 obtain⟨c,b,a,e,d⟩:=i;cases c with
 |normal=>exact⟨_,b,a,e,.inl rfl,d⟩
 |exit k=>exact d.elim
 |ret=>exact⟨_,b,a,e,.inr rfl,d⟩
def nU{j:List ResultVar}{a:Env}{g:H}{k:List T}(hl:mD cx mask ⟨a.vars,.nil⟩ g j=some k):mD cx mask a g j=some k:=by
 unfold mD at*
 induction j generalizing k with
 |nil=>exact hl
 |cons n j s=>
  rw[jr]at hl|-;obtain⟨b,e,hl⟩:=dD.1 hl;obtain⟨t,o,hl⟩:=dD.1 hl;simp only[ar]at hl;subst hl;have m:∀l b,Env.get mask ⟨a.vars,.nil⟩ l=some b->Env.get mask a l=some b:=by
   intro l b i;obtain⟨v,u⟩:=a;rw[AV]at i|-;split at i
   ·rename_i p;rw[aq p];exact i
   ·simp[DG]at i
  have r:(@ResultVar.rec (λ_=>aa T) (λc=>Env.get mask a c) (λf c=>dM (Env.get mask a f) λd=>dM (cx.ty c) λh=>g.load h d) n)=some b:=by
   cases n with
   |tmp c=>exact m c b e
   |cell f c=>
    have e:(dM (Env.get mask ⟨a.vars,.nil⟩ f) λd=>dM (cx.ty c) λh=>g.load h d)=some b:=e;obtain⟨d,q,e⟩:=dD.1 e;show(dM (Env.get mask a f) λd=>dM (cx.ty c) λh=>g.load h d)=some b;rw[m f d q];exact e
  refine dD.2 ⟨b,r,dD.2 ⟨t,s o,rfl⟩⟩
end
def PP{l:Env->H->Out}(e:Nat)(g:Nat->fN->H->Prop){k:iB}
 (p:∀a d b,a<=e->g a d b->W (l ⟨d,.nil⟩ b) (xi (λc b=>c.tmps= .nil/\a<e/\g (a+1) c.vars b) k)) {j:Nat} (r:e<j) {a:Nat} (i:a<=e) {d:fN} {b:H} (h:g a d b):W (nL l j ⟨d,.nil⟩ b) k:=by
 refine PN (σ:=Nat) (I:=λa c b=>a<=e/\c.tmps= .nil/\g a c.vars b) (m:=λa=>e-a) ?_ j a _ _ dq ⟨i,rfl,h⟩;rintro a ⟨d,t⟩ b ⟨i,ht,h⟩;simp only at ht h;subst ht;obtain⟨n,c,o,q,f⟩:=p a d b i h;refine⟨n,c,o,q,?_⟩;cases n with
 |normal=>exact⟨a+1,by have:=f.2.1;omega,by have:=f.2.1;omega,f.1,f.2.2⟩
 |exit s=>exact f
 |ret=>exact f
@[simp] theorem adT:Hp hE=True:=by simp[Hp]
@[simp] theorem aar (b:H) (c:iN):Hp (b.cons c)=Hp b:=by
 apply propext;constructor
 ·intro a;unfold Hp at*;simp[H.cons]at a;exact a
 ·exact λa=>R5 a c
end
noncomputable section
mutual
def cn:T->T
 | .dF b c=>(match b with| []=> .fR|e::b=> .dF (Vs (e::b)) false)
 | .agg a=> .agg (Vs a)
 | .tuple a=> .tuple (Vs a)
 |v=>v
def Vs:List T->List T
 | []=>[]
 |x::a=>cn x::Vs a
end
def Fi:∀a:List T,Vs a=a.map cn
 | []=>by rw[Vs];rfl
 |x::b=>by rw[Vs,Fi b];rfl
def mQ(a:List T)(b:Bool):cn (.dF a b)=sl (a.map cn):=by
 cases a with
 |nil=>rw[cn];rfl
 |cons c a=>rw[cn,Fi];rfl
def jE(a:List T):cn (.agg a)= .agg (a.map cn):=by rw[cn,Fi]
def tR(a:List T):cn (.tuple a)= .tuple (a.map cn):=by rw[cn,Fi]
@[simp] theorem O7:cn .undef= .undef:=by simp[cn]
@[simp] theorem Kt (a:Bool):cn (.bool a)=(.bool a):=by simp[cn]
@[simp] theorem Fh (a:ak) (b:Int):cn (.int a b)=(.int a b):=by simp[cn]
@[simp] theorem Fg (a:List Nat):cn (.str a)=(.str a):=by simp[cn]
@[simp] theorem Kq:cn .ka= .ka:=by simp[cn]
@[simp] theorem Vp (a b c d:Nat):cn (.ptr a b c d)=(.ptr a b c d):=by simp[cn]
@[simp] theorem Kn (a:List T):cn (.ji a)=(.ji a):=by simp[cn]
@[simp] theorem Hr:cn .fR= .fR:=by simp[cn]
@[simp] theorem Vr (a b e d:Nat) (c:Bool):cn (.arr a b e d c)=(.arr a b e d c):=by simp[cn]
@[simp] theorem RD (b:aj) (a:List T):cn (.func b a)=(.func b a):=by simp[cn]
@[simp] theorem Ks:cn .kv= .kv:=by simp[cn]
@[simp] theorem Kr:cn .ku= .ku:=by simp[cn]
@[simp] theorem O9 (a:ab) (b:T):cn (.iface a b)=(.iface a b):=by simp[cn]
@[simp] theorem RC (a:Nat):cn (.iter a)=(.iter a):=by simp[cn]
@[simp] theorem Vq (a:Nat):cn (.map a)=(.map a):=by simp[cn]
@[simp] theorem RB:cn .nh= .nh:=by simp[cn]
def DW(a:T):(cn a).scalar=a.scalar:=by
 cases a with
 |dF c d=>rw[mQ];cases c<;>rfl
 |agg b=>rw[jE];rfl
 |tuple b=>rw[tR];rfl
 |_=>simp
def Ht(a:T):(cn a).cells=a.cells.map cn:=by
 cases a with
 |dF c d=>rw[mQ];cases c<;>(show [_]=[_];rw[mQ])
 |agg b=>rw[jE];rfl
 |tuple b=>rw[tR];show [_]=[_];rw[tR]
 |_=>simp[T.cells]
def RE(a:List T):fa (a.map cn)=(fa a).map cn:=by
 induction a with
 |nil=>rfl
 |cons c a b=>
  unfold fa at*
  simp only[aR,cD,b,Ht,List.map_append]
def j8.cn{a:T}(c:j8 a):j8 (cn a):=by
 induction c with
 |dF b n _ f=>
  rw[mQ];cases b with
  |nil=>exact .fR
  |cons j b=>
   exact .dF _ _ (λa d=>by
    obtain⟨g,e,rfl⟩:=List.mem_map.1 (show a∈(j::b).map Go.TI.cn from d);exact f g e)
 |agg h _ f=>
  rw[jE];exact .agg _ (λa d=>by
   obtain⟨g,e,rfl⟩:=List.mem_map.1 d;exact f g e)
 |ji h c=>rw[Kn];exact .ji h c
 |bool i=>rw[Kt];exact .bool i
 |int k l=>rw[Fh];exact .int k l
 |str m=>rw[Fg];exact .str m
 |ka=>rw[Kq];exact .ka
 |fR=>rw[Hr];exact .fR
 |kv=>rw[Ks];exact .kv
 |ku=>rw[Kr];exact .ku
def fg.cn{hp:af Obj}{μ:Mu}{e:T}{s:am}(d:fg hp μ e s):fg hp μ (cn e) s:=by
 induction d with
 |m7 x g=>rw[mQ];exact .fR g 0
 |dF m n x t off u N arr r fz B A hl Q H i p hr k=>
  rw[mQ];show fg hp μ (.dF (Go.TI.cn m::n.map Go.TI.cn) false) _;have z:fa (Go.TI.cn m::n.map Go.TI.cn)=(fa (m::n)).map Go.TI.cn:=RE (m::n);have:=fg.dF (hp:=hp) (μ:=μ) (Go.TI.cn m) (n.map Go.TI.cn) false t off u N arr r fz B A (by simpa using hl) dt (λe j=> ?_) ?_ ?_ ?_
  ·simpa using this
  ·have j:e∈(m::n).map Go.TI.cn:=j;obtain⟨c,b,rfl⟩:=List.mem_map.1 j;rw[Ht,aH];exact H c b
  ·rw[z,aH];exact i
  ·intro e j;rw[z]at j;obtain⟨c,b,rfl⟩:=List.mem_map.1 j;exact⟨by rw[DW];exact(p c b).1,(p c b).2.cn⟩
  ·intro f e a;rw[z,aQ]at a;cases b:(fa (m::n))[f]? with
   |none=>rw[b]at a;simp at a
   |some c=>rw[b]at a;simp at a;subst a;exact k f c b
 |agg v q i p hr k=>
  rw[jE];refine .agg _ q (by simpa using i) (λe j=> ?_) λf e a=> ?_
  ·obtain⟨c,b,rfl⟩:=List.mem_map.1 j;rw[DW];exact p c b
  ·rw[aQ]at a;cases b:v[f]? with
   |none=>rw[b]at a;simp at a
   |some c=>rw[b]at a;simp at a;subst a;exact k f c b
 |tuple O q i hr k=>
  rw[tR];refine .tuple _ q (by simpa using i) λf e a=> ?_;rw[aQ]at a;cases b:O[f]? with
  |none=>rw[b]at a;simp at a
  |some c=>rw[b]at a;simp at a;subst a;exact k f c b
 |ji v t off arr r fz B A i p hr k=>rw[Kn];exact .ji v t off arr r fz B A i p hr
 |undef=>rw[O7];exact .undef
 |bool h=>rw[Kt];exact .bool h
 |int f K=>rw[Fh];exact .int f K
 |str M d=>rw[Fg];exact .str M d
 |ka=>rw[Kq];exact .ka
 |ptr h w C I l g o y G=>rw[Vp];exact .ptr h w C I l g o y G
 |fR g u=>rw[Hr];exact .fR g u
 |arr h w L J x l g E o y hl d=>rw[Vr];exact .arr h w L J x l g E o y hl d
 |func F D q i hr k=>rw[RD];exact .func F D q i hr
 |kv=>rw[Ks];exact .kv
 |ku=>rw[Kr];exact .ku
 |iface r e s d k=>rw[O9];exact .iface r e s d
 |iter h l g o d=>rw[RC];exact .iter h l g o d
 |map h l C o d=>rw[Vq];exact .map h l C o d
 |nh=>rw[RB];exact .nh
def fV.cn{f:af Obj}{h:Mu}{c:List T}{d:List am}(e:fV f h c d):fV f h (c.map Go.TI.cn) d:=by
 refine⟨by simpa using e.1,λg j a=> ?_⟩;rw[aQ]at a;cases b:c[g]? with
 |none=>rw[b]at a;simp at a
 |some i=>rw[b]at a;simp at a;subst a;exact(e.2 g i b).cn
mutual
def lK:T->Bool
 | .bool _| .int _ _| .str _| .ka| .kv| .ku| .nh| .fR=>true
 | .agg a=>nZ a
 | .tuple a=>nZ a
 |_=>false
def nZ:List T->Bool
 | []=>true
 |x::a=>lK x&&nZ a
end
def Ad{a:List T}(c:nZ a=true):∀b∈a,lK b=true:=by
 induction a with
 |nil=>intro b hx;simp at hx
 |cons e a d=>
  intro b hx;rw[nZ,aB]at c;rcases List.mem_cons.1 hx with rfl|hx
  ·exact c.1
  ·exact d c.2 b hx
def fg.plain{n o:af Obj}{r s:Mu}{a:T}{i:am}(f:fg n r a i)(c:lK a=true):fg o s a i:=by
 induction f with
 |bool k=>exact .bool k
 |int d p=>exact .int d p
 |str q f=>exact .str q f
 |ka=>exact .ka
 |kv=>exact .kv
 |ku=>exact .ku
 |nh=>exact .nh
 |fR j l=>exact .fR j l
 |agg t e g m hr h=>
  rw[lK]at c;exact .agg _ e g m λd a b=>h d a b (Ad c a (ax b))
 |tuple u e g hr h=>
  rw[lK]at c;exact .tuple _ e g λd a b=>h d a b (Ad c a (ax b))
 |_=>simp[lK]at c
section
variable {P:ai}{cx:Ctx}
def Mg{b:Mu}{a:Nat}:mR (lZ 0 b) a↔b.oH a:=by
 constructor
 ·rintro(⟨e,d,c,_⟩|hr)
  ·exact absurd (jT c).1 dq
  ·exact hr
 ·exact λhr=> .inr hr
def K4{y:aj}{o k:List T}{w:T}{s:H}(E:kM P cx y (k.map cn) w)(u:fD (j3 s 0) o=some k)(hr:lK w=true):pT P cx ⟨y,o,s,w,s⟩:=by
 intro V d f x b A;have D:fV d.heap (lZ 0 f) k x.toList:=by
  have z:iv (λj R=>∀p,fg d.heap f j p->fg d.heap (lZ 0 f) R p) o k:=iv.map (λn m Z M p F=>pP b F M) u;refine⟨by rw[<-z.length];exact A.1,λN j I=> ?_⟩;obtain⟨n,m,u⟩:=z.get I;exact u _ (A.2 N n m)
 have Q:St cx d.heap.size d.heap (lZ 0 f) hE:=by
  refine⟨rfl,au _,λh e c=>absurd (jT c).1 dq,λh U e S c=>absurd (jT c).1 dq,λh e c=>absurd (jT c).1 dq,λh e c=>absurd (jT c).1 dq,λa hr=>b.pW a hr,λr q v=> ?_⟩;have:=b.yh r q v;refine this.cut ?_;obtain⟨_,_,_,_,_,_,_,_,_,K,_⟩:=this.ly;exact .ji _ λj L=>(K j L).2.low 0
 refine(E d.heap.size d (lZ 0 f) x hE Q D.cn).mono λj C ⟨⟨ae,O,W,g,X⟩,Y⟩=> ?_;have B:∀a,a<d.heap.size->¬f.oH a->C.heap[a]? =d.heap[a]? :=λa i l=>(g.ext.mZ a i λG=>l (Mg.1 G)).1;have t:Ext d.heap f C.heap f:=by
  refine⟨g.ext.size,λa i l=>⟨B a i λhr=>l (.inr hr),l⟩,λh e c=>⟨e,c,.inl rfl⟩,rfl,λa i hr=>g.ext.kept a i hr⟩
 refine⟨⟨f,O.plain hr,⟨b.wf,aS b.fit g.ext.size,λh e c=> ?_,b.inj,b.low,b.apart,λa hr=>bE (b.pW a hr) g.ext.size,λr q v=>(b.yh r q v).ext t⟩,⟨t,g.os,g.tape,g.output⟩,xE.refl _ _⟩,kJ.refl b.wf⟩;obtain⟨n,m,J⟩:=b.box h e c;exact⟨n,m,J.ext t (B e.iI (b.lt c) (b.apart h e c))⟩
def K3{c:aj}{b:List T}{d:T}{a:H}(h:kM P cx c (b.map cn) d):pT P cx ⟨c,b,a,d,a⟩:=
 λe j k f i g=>h e j k f a i g.cn
structure gu where
 α:Type
 A:α->List T
 pre:α->Prop
 R:α->T
 inj:∀a b,A a=A b->R a=R b
structure kH where
 pre:List T->H->Prop
 post:List T->H->T->H->Prop
structure fy where
 p:aj->aa gu
 h:aj->aa kH
open Classical in
def rl(P:ai)(cx:Ctx)(f:fy)(d:aj)(c:List T):aa T:=match f.p d with
 |none=>none
 |some a=>if e:∃b,a.pre b/\a.A b=c/\kM P cx d c (a.R b)then some (a.R e.choose)else none
open Classical in
def hl(P:ai)(cx:Ctx)(g:fy)(c:aj)(b:List T)(d:H):aa (T×H):=match g.h c with
 |none=>none
 |some e=>if f:∃a:T×H,e.post b d a.1 a.2/\pT P cx ⟨c,b,d,a.1,a.2⟩then some f.choose else none
def wG(h:H)(d:Nat)(v:T):aa T:=dM (freeze h 0 d v) λv=>some (cn v)
def fz(b:H)(a:T):aa T:=dM (iy b 0 a) λa=>some (cn a)
def rF(b:H)(a:T):aa T:=dM (j3 b 0 a) λa=>some (cn a)
def PC(b:H)(a:List T):aa (List T):=fD (rF b) a
mutual
def jI:T->Bool
 | .bool _| .int _ _| .str _| .ka| .dF _ _| .fR| .kv| .ku=>true
 | .agg a=>nT a
 |_=>false
def nT:List T->Bool
 | []=>true
 |x::a=>jI x&&nT a
end
def qp(P:ai)(cx:Ctx)(d:fy):iL:=λc a b=>match PC b a with
 |none=>hl P cx d c a b
 |some f=>match rl P cx d c f with
  |none=>hl P cx d c a b
  |some e=>if(lK e||nT a)=true then some (e,b)else hl P cx d c a b
def qU{f g j:Type}(b:f->aa g)(d:g->j):∀a:List f,fD (λc=>dM (b c) λe=>some (d e)) a=dM (fD b a) λi=>some (i.map d):=by
 intro a;induction a with
 |nil=>rfl
 |cons c a h=>
  rw[jr,jr,h];cases b c with
  |none=>rfl
  |some e=>simp only[dR];cases fD b a<;>rfl
def HD{e:H}{c d:List T}(a:PC e c=some d):∃b,fD (j3 e 0) c=some b/\d=b.map cn:=by
 unfold PC rF at a;rw[qU]at a;obtain⟨b,hl,a⟩:=dD.1 a;simp only[ar]at a;exact⟨b,hl,a.symm⟩
mutual
def rX(e:H)(g d:Nat):(b:T)->jI b=true->(∀c,b≠ .agg c)->freeze e g (d+1) b=some b
 | .bool _,_,_=>rfl
 | .int _ _,_,_=>rfl
 | .str _,_,_=>rfl
 | .ka,_,_=>rfl
 | .dF _ _,_,_=>rfl
 | .fR,_,_=>rfl
 | .kv,_,_=>rfl
 | .ku,_,_=>rfl
 | .agg c,_,f=>absurd rfl (f c)
 | .undef,a,_=>by simp[jI]at a
 | .ptr ..,a,_=>by simp[jI]at a
 | .ji _,a,_=>by simp[jI]at a
 | .arr ..,a,_=>by simp[jI]at a
 | .func ..,a,_=>by simp[jI]at a
 | .iface ..,a,_=>by simp[jI]at a
 | .iter _,a,_=>by simp[jI]at a
 | .map _,a,_=>by simp[jI]at a
 | .nh,a,_=>by simp[jI]at a
 | .tuple _,a,_=>by simp[jI]at a
end
def pQ(b:H){a:T}(c:jI a=true)(e:∀d,a≠ .agg d):iy b 0 a=some a:=by
 have:=rX b 0 11 a c e;cases a<;>first|exact this|(simp[jI]at c)
def Bh{a:List T}(c:nT a=true):∀b∈a,jI b=true:=by
 induction a with
 |nil=>intro b hx;simp at hx
 |cons e a d=>
  intro b hx;rw[nT,aB]at c;rcases List.mem_cons.1 hx with rfl|hx
  ·exact c.1
  ·exact d c.2 b hx
def PB{b:H}{a e:List T}{base:Nat}{o:af Obj}{t:Mu}{j:List am}(m:fV o t a j)(p:nT a=true)(n:PC b a=some e):e=a.map cn:=by
 obtain⟨v,hl,rfl⟩:=HD n;have:fD (j3 b 0) a=some a:=by
  refine rR λh f=> ?_;have d:=Bh p h f;obtain⟨w,r⟩:=m.mem f;cases h with
  |agg l=>
   show(dM (fD (iy b 0) l) λs=>some (T.agg s))=_;obtain⟨u,rfl,_,q⟩:=r.oY;rw[rR λi g=>pQ b (Bh (by rw[jI]at d;exact d) i g) (λk c=>by have:=q i g;rw[c]at this;simp[T.scalar]at this)];rfl
  |_=>exact pQ b d (λk c=>by simp at c)
 rw[this]at hl;simp only[ar]at hl;rw[hl]
def FV{f:fy}{c:aj}{b:List T}{d:T}(a:rl P cx f c b=some d):kM P cx c b d:=by
 unfold rl at a;split at a
 ·simp at a
 ·split at a
  ·rename_i e;simp only[ar]at a;subst a;exact e.choose_spec.2.2
  ·simp at a
def BX{h:fy}{c:aj}{b:List T}{d e:H}{f:T}(a:hl P cx h c b d=some (f,e)):pT P cx ⟨c,b,d,f,e⟩:=by
 unfold hl at a;split at a
 ·simp at a
 ·split at a
  ·rename_i g;simp only[ar]at a;have:=g.choose_spec.2;rw[a]at this;exact this
  ·simp at a
def Cr(P:ai)(cx:Ctx)(j:fy):mX P cx (qp P cx j):=by
 intro m k n q o a base f g d e b;unfold qp at a;split at a
 ·exact BX a base f g d e b
 ·rename_i l h;split at a
  ·exact BX a base f g d e b
  ·rename_i r hr;split at a
   ·rename_i c;simp only[ar,ay]at a;obtain⟨rfl,rfl⟩:=a;rw[bP]at c;rcases c with c|c
    ·obtain⟨p,hl,rfl⟩:=HD h;exact K4 (FV hr) hl c base f g d e b
    ·have i:=PB (base:=base) b c h;subst i;exact K3 (FV hr) base f g d e b
   ·exact BX a base f g d e b
def gu.Ok(P:ai)(cx:Ctx)(c:aj)(b:gu):Prop:=∀a,b.pre a->kM P cx c (b.A a) (b.R a)
def gU{g:fy}{c:aj}{a:gu}(ht:g.p c=some a)(h:a.Ok P cx c)(b:a.α)(e:a.pre b):rl P cx g c (a.A b)=some (a.R b):=by
 have f:∃d,a.pre d/\a.A d=a.A b/\kM P cx c (a.A b) (a.R d):=⟨b,e,rfl,h b e⟩;unfold rl;rw[ht];simp only;rw[dif_pos f,a.inj _ _ f.choose_spec.2.1]
def kH.Ok(P:ai)(cx:Ctx)(f:aj)(c:kH):Prop:=∀a b,c.pre a b->∃e d,c.post a b e d/\pT P cx ⟨f,a,b,e,d⟩
def DP{tb:fy}{d:aj}{c:kH}(ht:tb.h d=some c)(l:c.Ok P cx d){a:List T}{b:H}(m:c.pre a b):∃i e,hl P cx tb d a b=some (i,e)/\c.post a b i e:=by
 obtain⟨i,e,j,k⟩:=l a b m;have f:∃g:T×H,c.post a b g.1 g.2/\pT P cx ⟨d,a,b,g.1,g.2⟩:=⟨(i,e),j,k⟩;refine⟨f.choose.1,f.choose.2,?_,f.choose_spec.1⟩;unfold hl;rw[ht];simp only;rw[dif_pos f]
def AN{b:fy}{a:aj}(ht:b.p a=none)(c:List T):rl P cx b a c=none:=by unfold rl;rw[ht]
def Z7(e:aa T)(c:Bool)(d:H)(a:aa (T×H)):aa (T×H):=match e with
 |none=>a
 |some b=>if(lK b||c)=true then some (b,d)else a
@[simp] theorem Z6 (b:Bool) (c:H) (a:aa (T×H)):Z7 none b c a=a:=id rfl
@[simp] theorem Pc (a:T) (b:Bool) (c:H) (d:aa (T×H)):Z7 (some a) b c d=if(lK a||b)=true then some (a,c)else d:=id rfl
def cfW(P:ai)(cx:Ctx)(e:fy)(c:aj)(a:List T)(d:H)(b:aa (List T)):aa (T×H):=match b with
 |none=>hl P cx e c a d
 |some b=>Z7 (rl P cx e c b) (nT a) d (hl P cx e c a d)
@[simp] theorem Pb (d:fy) (b:aj) (a:List T) (c:H):cfW P cx d b a c none=hl P cx d b a c:=id rfl
@[simp] theorem Pa (d:fy) (b:aj) (a e:List T) (c:H):cfW P cx d b a c (some e)=Z7 (rl P cx d b e) (nT a) c (hl P cx d b a c):=id rfl
def Pd(d:fy)(c:aj)(a:List T)(b:H):qp P cx d c a b=cfW P cx d c a b (PC b a):=by
 unfold qp cfW Z7;cases PC b a with
 |none=>rfl
 |some e=>rfl
end
end
noncomputable section
section
variable {cx:Ctx}{h:H}
@[simp] theorem acT (a:ak) (b:Int):fz h (.int a b)=some (.int a b):=id rfl
@[simp] theorem aa2 (a:Bool):fz h (.bool a)=some (.bool a):=id rfl
@[simp] theorem acR (a:List Nat):fz h (.str a)=some (.str a):=id rfl
@[simp] theorem Kb (a:List T) (b:Bool):fz h (.dF a b)=some (sl (a.map cn)):=by
 show some (cn (.dF a b))=_;rw[mQ]
@[simp] theorem U3 (a b c d:Nat):fz h (.ptr a b c d)=none:=by
 unfold fz iy;simp
@[simp] theorem aa8 (c:Nat) (a:ak) (b:Int):wG h (c+1) (.int a b)=some (.int a b):=id rfl
@[simp] theorem ZT (b:Nat) (a:Bool):wG h (b+1) (.bool a)=some (.bool a):=id rfl
@[simp] theorem aa6 (b:Nat) (a:List Nat):wG h (b+1) (.str a)=some (.str a):=id rfl
@[simp] theorem OJ (c:Nat) (a:List T) (b:Bool):wG h (c+1) (.dF a b)=some (sl (a.map cn)):=by
 show some (cn (.dF a b))=_;rw[mQ]
@[simp] theorem Rf (b:Nat) (a:List T):wG h (b+1) (.agg a)=dM (fD (wG h b) a) λc=>some (.agg c):=by
 show(dM (dM (fD (freeze h 0 b) a) λc=>some (T.agg c)) λd=>some (cn d))=_;unfold wG;rw[qU];cases fD (freeze h 0 b) a with
 |none=>rfl
 |some c=>simp[jE]
def f7(d e b c:Nat)(m:Bool):h.jg (.arr d e b c m)=dM (h.get d) λa=>fT (decide (a.ep=e)) (if a.it=true then none else if b+c<=a.em.length then some ((a.em.drop b).take c)else none):=by
 show(dM (h.get d) λa=>iN.casesOn a λ_ g _ _ f l=>fT (Nat.beq g e) (Bool.casesOn f (dM (jJ b l) λn=>takeN c n) none))=_;cases h.get d with
 |none=>rfl
 |some a=>
  obtain⟨p,g,q,o,f,i⟩:=a;simp only[dR,uv];congr 1;cases f with
  |true=>rfl
  |false=>
   simp only[cd,br,lF,m9];by_cases j:b<=i.length
   ·rw[aq j,dR];by_cases k:b+c<=i.length
    ·rw[aq k,aq du]
    ·rw[ao k,ao du]
   ·rw[ao j,ao dq];rfl
def xm(i a c e d:Nat)(k:Bool):wG h (i+1) (.arr a c e d k)=dM (h.jg (.arr a c e d k)) λf=>dM (fD (wG h i) f) λb=>some (sl b):=by
 have p:freeze h 0 (i+1) (.arr a c e d k)=fT (Nat.ble 0 a) (dM (h.get a) λg=>iN.casesOn g λ_ j _ exact l m=>
  fT (Nat.beq j c) (@Bool.rec (λ_=>aa T) (dM (dM (jJ e m) λb=>takeN d b) λf=>dM (fD (freeze h 0 i) f) λn=>
   @List.rec T (λ_=>aa T) (@List.rec T (λ_=>aa T) (@Bool.rec (λ_=>aa T) (some T.fR) (some (T.dF [] false)) exact) (λ_ _ _=>some T.fR) m) (λ_ _ _=>some (T.dF n k)) n) none l)):=rfl
 have q:h.jg (.arr a c e d k)=dM (h.get a) λg=>iN.casesOn g λ_ j _ _ l m=>fT (Nat.beq j c) (@Bool.rec (λ_=>aa (List T)) (dM (jJ e m) λb=>takeN d b) none l):=rfl;unfold wG;rw[p,q];rw[show Nat.ble 0 a=true by simp,ij];cases h.get a with
 |none=>rfl
 |some g=>
  obtain⟨r,j,s,o,l,f⟩:=g;simp only[dR];cases Nat.beq j c with
  |false=>rfl
  |true=>
   simp only[ij];cases l with
   |true=>rfl
   |false=>
    simp only;cases (dM (jJ e f) λb=>takeN d b)with
    |none=>rfl
    |some ZY=>
     simp only[dR];rw[qU];cases fD (freeze h 0 i) ZY with
     |none=>rfl
     |some Kf=>
      simp only[dR];cases Kf with
      |nil=>
       cases f with
       |nil=>cases o<;>simp[mQ,sl]
       |cons=>simp[sl]
      |cons g b=>simp[mQ]
@[simp] theorem vd (a b e d:Nat) (c:Bool):fz h (.arr a b e d c)=dM (h.jg (.arr a b e d c)) λf=>dM (fD (wG h 11) f) λg=>some (sl g):=by
 rw[<-xm];unfold fz wG iy;simp only;rw[show Nat.ble 0 a=true by simp]
def Ko(a:List T):cn (sl a)=sl (a.map cn):=by
 cases a with
 |nil=>rfl
 |cons c b=>exact mQ (c::b) false
def ZO(a:List T):fz h (sl a)=some (sl (a.map cn)):=by cases a<;>first|rfl|exact Kb _ _
def U4(b:Nat)(a:List T):wG h (b+1) (sl a)=some (sl (a.map cn)):=by cases a<;>first|rfl|exact OJ b _ _
@[simp] theorem ada {d:Type} (a:d->T) (c:List d) (e:∀b,cn (a b)=a b):cn (sl (c.map a))=sl (c.map a):=by
 rw[Ko,cH];congr 2;funext b;exact e b
@[simp] theorem acS {d:Type} (a:d->T) (c:List d) (e:∀b,cn (a b)=a b):fz h (sl (c.map a))=some (sl (c.map a)):=by
 rw[ZO,cH];congr 3;funext b;exact e b
@[simp] theorem aa7 {d:Type} (e:Nat) (a:d->T) (c:List d) (f:∀b,cn (a b)=a b):wG h (e+1) (sl (c.map a))=some (sl (c.map a)):=by
 rw[U4,cH];congr 3;funext b;exact f b
@[simp] theorem BM {e:Type} (c:T->aa T) (a:e->T) (d:List e) (f:∀b,c (a b)=some (a b)):fD c (d.map a)=some (d.map a):=rR λb g=>by
 obtain⟨i,_,rfl⟩:=List.mem_map.1 g;exact f i
@[simp] theorem Re (a:List T):rF h (.agg a)=dM (fD (fz h) a) λb=>some (.agg b):=by
 show(dM (dM (fD (iy h 0) a) λb=>some (T.agg b)) λc=>some (cn c))=_;unfold fz;rw[qU];cases fD (iy h 0) a with
 |none=>rfl
 |some b=>simp[jE]
@[simp] theorem aa5 (a:ak) (b:Int):rF h (.int a b)=some (.int a b):=id rfl
@[simp] theorem ZR (a:Bool):rF h (.bool a)=some (.bool a):=id rfl
@[simp] theorem aa3 (a:List Nat):rF h (.str a)=some (.str a):=id rfl
@[simp] theorem ZP (a:List T) (b:Bool):rF h (.dF a b)=fz h (.dF a b):=id rfl
@[simp] theorem acU (a:List T):rF h (sl a)=fz h (sl a):=by cases a<;>rfl
@[simp] theorem Kc (a b e d:Nat) (c:Bool):rF h (.arr a b e d c)=fz h (.arr a b e d c):=id rfl
@[simp] theorem aa4 (a b c d:Nat):rF h (.ptr a b c d)=none:=U3 (h:=h) a b c d
@[simp] theorem abu:PC h []=some []:=id rfl
@[simp] theorem aad (b:T) (a:List T):PC h (b::a)=dM (rF h b) λd=>dM (PC h a) λc=>some (d::c):=id rfl
@[simp] theorem T5:nT []=true:=by rw[nT]
@[simp] theorem SE (b:T) (a:List T):nT (b::a)=(jI b&&nT a):=by rw[nT]
@[simp] theorem V7 (a:ak) (b:Int):jI (.int a b)=true:=by rw[jI]
@[simp] theorem T7 (a:Bool):jI (.bool a)=true:=by rw[jI]
@[simp] theorem V6 (a:List Nat):jI (.str a)=true:=by rw[jI]
@[simp] theorem T6 (a:List T) (b:Bool):jI (.dF a b)=true:=by rw[jI]
@[simp] theorem SF:jI .fR=true:=by rw[jI]
@[simp] theorem Yr (a:List T):jI (sl a)=true:=by cases a<;>simp[sl]
@[simp] theorem V9 (a:List T):jI (.agg a)=nT a:=by rw[jI]
@[simp] theorem V8 (a b e d:Nat) (c:Bool):jI (.arr a b e d c)=false:=by simp[jI]
@[simp] theorem Ta:nZ []=true:=by rw[nZ]
@[simp] theorem QF (b:T) (a:List T):nZ (b::a)=(lK b&&nZ a):=by rw[nZ]
@[simp] theorem Ul (a:ak) (b:Int):lK (.int a b)=true:=by rw[lK]
@[simp] theorem Tb (a:Bool):lK (.bool a)=true:=by rw[lK]
@[simp] theorem QH:lK .fR=true:=by rw[lK]
@[simp] theorem QG (a:List T):lK (.tuple a)=nZ a:=by rw[lK]
@[simp] theorem J8 (a:List T):mG (sl a)=mp a:=by cases a<;>simp[sl]
@[simp] theorem aaS {c:Type} (a:c->T) (b:List c) (d:∀e,mG (a e)=true):mp (b.map a)=true:=LD a d b
@[simp] theorem Z8 (a:List T):(sl a).cells=[sl a]:=by cases a<;>rfl
@[simp] theorem aa1 (a:List T):(sl a).gJ=true:=by cases a<;>rfl
@[simp] theorem ZJ (a b e d:Nat) (c:Bool):(T.arr a b e d c).gJ=true:=id rfl
@[simp] theorem ZH (a b c d:Nat):(T.ptr a b c d).gJ=true:=id rfl
@[simp] theorem WL (a b e d:Nat) (c:Bool):(T.arr a b e d c).cells=[.arr a b e d c]:=id rfl
@[simp] theorem WJ (a b c d:Nat):(T.ptr a b c d).cells=[.ptr a b c d]:=id rfl
@[simp] theorem aaT (b:Ty) (a:List T) (d:ab) (c:b.u= .slice d):CX cx h b (sl a)=some (.val (.int .i64 a.length) h):=by cases a<;>simp[sl,c]
@[simp] theorem aaZ (c:Ty) (a:List T) (b:Nat):km h c (sl a) b=dM (a[b]?) λd=>fT (decide (d.cells.length=c.size)) (some (.val (.ji d.cells) h)):=by cases a<;>simp[sl];rfl
@[simp] theorem OD (a:List T):h.jg (sl a)=some a:=by cases a<;>rfl
def yN{a b:List T}(c:sl a=sl b):a=b:=by
 cases a<;>cases b<;>simp[sl]at c
 ·rfl
 ·rw[c.1,c.2]
def jw{f:Type}{a:f->T}(g:∀d e,a d=a e->d=e){b c:List f}(i:sl (b.map a)=sl (c.map a)):b=c:=by
 have:=yN i;exact(List.map_inj_right g).1 this
@[simp] theorem dP (b:iN) (a:Nat):(h.cons b).get a=if a=h.size then some b else h.get a:=by
 rw[H.get_eq,H.get_eq];show(if a<h.size+1 then(b::h.fc)[h.size+1-1-a]? else none)=_;by_cases c:a=h.size
 ·subst c;rw[aq dq,aq rfl];simp
 ·rw[ao c];by_cases d:a<h.size
  ·rw[aq dq,aq d,show h.size+1-1-a=(h.size-1-a)+1 by omega];simp
  ·rw[ao dq,ao d]
def dI{a:Nat}{x:iN}(n:h.get a=some x)(d:iN)(e:Nat):(dT h a d).get e=if e=a then some d else h.get e:=by
 have c:=xQ n d;generalize dT h a d=i at*
 obtain⟨b,j,f⟩:=h;have l:a<b:=H.ez n;have c:(fT (Nat.blt a b) (dM (kr f (Nat.sub (Nat.sub b 1) a) d) λk=> @Bool.rec (λ_=>aa H) (some ⟨b,j,k⟩) (some ⟨b,a,k⟩) (Nat.blt a j)))=some i:=c;rw[show Nat.blt a b=true by rw[aG];exact l,ij,kt]at c;by_cases hl:Nat.sub (Nat.sub b 1) a<f.length
 ·rw[aq hl,dR]at c;have r:i.size=b/\i.fc=f.set (b-1-a) d:=by
   cases o:Nat.blt a j<;>rw[o]at c<;>simp only[ar]at c<;>subst c<;>exact⟨rfl,rfl⟩
  obtain⟨p,q⟩:=r;rw[H.get_eq,H.get_eq,p,q];have hl:b-1-a<f.length:=hl;by_cases m:e=a
  ·subst m;rw[aq l,aq rfl];simp[hl]
  ·rw[ao m];simp only;by_cases g:e<b
   ·rw[aq g,aq g,cC dq]
   ·rw[ao g,ao g]
 ·rw[ao hl]at c;simp at c
@[simp] theorem fJ (b:Nat) (f:iN):(dT h b f).size=h.size:=by
 unfold dT;cases a:h.put b f with
 |none=>rfl
 |some g=>
  obtain⟨c,e,i⟩:=h;have a:(fT (Nat.blt b c) (dM (kr i (Nat.sub (Nat.sub c 1) b) f) λd=> @Bool.rec (λ_=>aa H) (some ⟨c,e,d⟩) (some ⟨c,b,d⟩) (Nat.blt b e)))=some g:=a;obtain⟨_,a⟩:=dL.1 a;obtain⟨d,_,a⟩:=dD.1 a;show g.size=c;cases j:Nat.blt b e<;>rw[j]at a<;>simp only[ar]at a<;>subst a<;>rfl
@[simp] theorem abG (b:Nat) (g:iN):Hp (dT h b g)=Hp h:=by
 unfold dT;cases a:h.put b g with
 |none=>rfl
 |some i=>
  obtain⟨d,f,j⟩:=h;have a:(fT (Nat.blt b d) (dM (kr j (Nat.sub (Nat.sub d 1) b) g) λe=> @Bool.rec (λ_=>aa H) (some ⟨d,f,e⟩) (some ⟨d,b,e⟩) (Nat.blt b f)))=some i:=a;obtain⟨_,a⟩:=dL.1 a;obtain⟨e,c,a⟩:=dD.1 a;rw[kt]at c;split at c
  ·simp only[ar]at c;subst c;show Hp i=_;unfold Hp;cases k:Nat.blt b f<;>rw[k]at a<;>simp only[ar]at a<;>subst a<;>simp
  ·simp at c
@[simp] theorem D8 (a:Nat):eJ h h a=true:=by
 unfold eJ;cases h.get a<;>simp
def z7{b:Nat}{e:iN}(d:h.get b=some e)(f:iN){a:Nat}(c:a≠b):eJ h (dT h b f) a=true:=by
 unfold eJ;rw[dI d,ao c];cases h.get a<;>simp
def LT(h:H)(a:List T):aa T:=dM (iX h 0 (jv a)) λb=>some (cn b)
@[simp] theorem U6 (a:T) (b:a.gJ=true):LT h [a]=rF h a:=by
 cases a<;>first|rfl|(simp[T.gJ]at b)
def Hg(a:List T):(dM (iX h 0 (.tuple a)) λc=>some (cn c))=dM (fD (rF h) a) λb=>some (.tuple b):=by
 show(dM (dM (fD (j3 h 0) a) λb=>some (T.tuple b)) λc=>some (cn c))=_;unfold rF;rw[qU];cases fD (j3 h 0) a with
 |none=>rfl
 |some b=>simp[tR]
@[simp] theorem acV (b c:T) (a:List T):LT h (b::c::a)=dM (fD (rF h) (b::c::a)) λd=>some (.tuple d):=Hg (b::c::a)
def PY(h:H)(a:List T)(b:T):Prop:=Hp h/\LT h a=some b
def R7(a:List T)(b:T):PY h a b=(Hp h/\LT h a=some b):=rfl
attribute [simp] R7
end
section
variable {P:ai}{cx:Ctx}{cf:iL}{mask:Nat}
def pt:List (Nat×gu)->aj->aa gu
 | [],_=>none
 |(b,d)::c,a=>if a=b then some d else pt c a
def ht:List (Nat×kH)->aj->aa kH
 | [],_=>none
 |(b,d)::c,a=>if a=b then some d else ht c a
@[simp] theorem acb (a:aj):pt [] a=none:=id rfl
@[simp] theorem aaN (b:Nat) (d:gu) (c:List (Nat×gu)) (a:aj):pt ((b,d)::c) a=if a=b then some d else pt c a:=id rfl
@[simp] theorem acO (a:aj):ht [] a=none:=id rfl
@[simp] theorem aa0 (b:Nat) (d:kH) (c:List (Nat×kH)) (a:aj):ht ((b,d)::c) a=if a=b then some d else ht c a:=id rfl
def fh{k:Env->H->Out}(d:Nat)(s:d<9223372036854775808)(f:Nat->fN->H->Prop){j:iB}
 (p:∀c a h,c<d->binop .add (.int .i64 (c:Int)) (.int .i64 1)=some (.int .i64 ((c:Int)+1))->f c a h->W (k ⟨a,.nil⟩ h) (xi (λe h=>e.tmps= .nil/\f (c+1) e.vars h) j))
 (b:∀a h,f d a h->W (k ⟨a,.nil⟩ h) (xi (λe h=>False) j))
 {o:Nat} (q:d<o) {a:fN} {h:H} (i:f 0 a h):W (nL k o ⟨a,.nil⟩ h) j:=by
 refine PP d f (λc a h u i=> ?_) q (aw d) i;rcases aD c d with n|t
 ·obtain⟨g,e,l,m,b⟩:=p c a h n (il dq dq) i;refine⟨g,e,l,m,?_⟩;cases g with
  |normal=>exact⟨b.1,n,b.2⟩
  |exit r=>exact b
  |ret=>exact b
 ·have:c=d:=dq;subst this;obtain⟨g,e,l,m,b⟩:=b a h i;refine⟨g,e,l,m,?_⟩;cases g with
  |normal=>exact b.elim
  |exit r=>exact b
  |ret=>exact b
def yz{c:Func}(a:wE ⟨c,mask,false,none⟩=true):∃b,c.body=some b:=by
 unfold wE at a;simp only at a;cases d:c.body with
 |none=>rw[d]at a;simp at a
 |some b=>exact⟨b,rfl⟩
def Xc(B:P.follows .mixedOrders=true)(iG:iP P cx){l:aj}{b:Func}{r:DL}(g:FC P cx l b mask r)(x:mX P cx cf){a:List T}{n:T}(hl:mp a=true)(C:a.length<=b.ntmps)(i:Nat)
 (I:∀v,mY v 0 a->W (jm cx cf i mask r (b.body.getD .skip) ⟨v,.nil⟩ hE) (BU cx mask b.results.toList λt h=>PY h t n)):kM P cx l a n:=by
 have Q:∃c,cn c=n/\rZ cx cf i b mask false a hE=some (c,hE):=by
  obtain⟨u,G,_,A⟩:=md mask b.ntmps 0 a C;obtain⟨R,y,h,d,J,t,hr,D,f⟩:=CE (I u A);have d:=pH _ g.dr _ _ _ d;obtain⟨w,e⟩:=yz g.ok;rw[e]at d;unfold LT at f;obtain⟨c,f,s⟩:=dD.1 f;simp only[ar]at s;refine⟨c,s,?_⟩;unfold rZ;rw[e];simp only;rw[G,dR];have d:jP cx cf i mask w ⟨u,.nil⟩ ⟨0,0,[]⟩=some (R,y,h):=d;rw[d,dR,kw];have E:=nU hr;rcases J with rfl|rfl<;>(simp only;rw[E,dR];exact GD D f)
 obtain⟨c,rfl,e⟩:=Q;have z:kM P cx l a c:=xR (lx _ hl) λj p q k o m=>
  oL (F:=⟨b,mask,false,none⟩) B iG g.at_ g.ok cf x i a hE c hE e j p q k o m
 intro j p q k h o m;refine(z j p q k h o m).mono λU V ⟨⟨S,K,L,M,N⟩,O⟩=> ?_;exact⟨⟨S,K.cn,L,M,N⟩,O⟩
end
end
noncomputable section
structure Fr(lo:Nat)(h h':H):Prop where
 size:h.size<=h'.size
 hp:Hp h->Hp h'
 get:∀c,c<lo->h'.get c=h.get c
 low:lo<=h.low->lo<=h'.low
def Fr.refl(a:Nat)(h:H):Fr a h h:=⟨au _,id,λ_ _=>rfl,id⟩
def Fr.trans{d:Nat}{h g i:H}(a:Fr d h g)(b:Fr d g i):Fr d h i:=⟨aS a.size b.size,λc=>b.hp (a.hp c),λf j=>(b.get f j).trans (a.get f j),λc=>b.low (a.low c)⟩
def Fr.cons{lo:Nat}{h:H}(hl:lo<=h.size)(a:iN):Fr lo h (h.cons a):=⟨dt,dt,λb c=>by simp;omega,id⟩
def M4(h:H)(b:Nat)(i:iN)(c:Nat)(k:c<=h.low)(m:c<=b):c<=(dT h b i).low:=by
 unfold dT;cases a:h.put b i with
 |none=>exact k
 |some j=>
  obtain⟨d,g,l⟩:=h;have a:(fT (Nat.blt b d) (dM (kr l (Nat.sub (Nat.sub d 1) b) i) λf=> @Bool.rec (λ_=>aa H) (some ⟨d,g,f⟩) (some ⟨d,b,f⟩) (Nat.blt b g)))=some j:=a;obtain⟨_,a⟩:=dL.1 a;obtain⟨f,_,a⟩:=dD.1 a;show c<=j.low;cases n:Nat.blt b g<;>rw[n]at a<;>simp only[ar]at a<;>subst a
  ·exact k
  ·exact m
def Fr.put{b:Nat}{h:H}{a:Nat}{x:iN}(g:h.get a=some x)(f:b<=a)(d:iN):Fr b h (dT h a d):=⟨dt,dt,λc j=>by rw[dI g,ao dq],λi=>M4 h a d b i f⟩
def rC(h:H)(g:Nat)(d:T)(i:Nat)(b:List T):Prop:=
 (d= .dF [] false/\b=[])\/∃a c j f,g<=a/\d= .arr a c 0 b.length false/\h.get a=some ⟨i,c,j,f,false,b⟩
def rC.nil(h:H)(a b:Nat):rC h a (.dF [] false) b []:= .inl ⟨rfl,rfl⟩
def rC.cons{h:H}{lo:Nat}{f:T}{d:Nat}{b:List T}(a:rC h lo f d b)(n:iN):rC (h.cons n) lo f d b:=by
 rcases a with a|⟨g,i,m,j,k,l,c⟩
 ·exact .inl a
 ·have:=H.ez c;exact .inr ⟨g,i,m,j,k,l,by rw[dP,ao dq];exact c⟩
def rC.gJ{h:H}{d:Nat}{a:T}{f:Nat}{b:List T}(c:rC h d a f b):a.gJ=true:=by
 rcases c with⟨rfl,_⟩|⟨g,i,m,j,k,rfl,l⟩<;>rfl
def rC.cells{h:H}{d:Nat}{a:T}{f:Nat}{b:List T}(c:rC h d a f b):a.cells=[a]:=by
 rcases c with⟨rfl,_⟩|⟨g,i,m,j,k,rfl,l⟩<;>rfl
def rC.fz{h:H}{i:Nat}{d:T}{j:Nat}{c b:List T}(g:rC h i d j c)(a:fD (wG h 11) c=some b):TI.fz h d=some (sl b):=by
 rcases g with⟨rfl,rfl⟩|⟨k,l,o,m,n,rfl,f⟩
 ·have a:some []=some b:=a;simp only[ar]at a;subst a;simp
 ·rw[vd,f7,f];simp[a]
def rC.rF{h:H}{i:Nat}{d:T}{j:Nat}{a b:List T}(c:rC h i d j a)(g:fD (wG h 11) a=some b):TI.rF h d=some (sl b):=by
 rw[<-c.fz g];rcases c with⟨rfl,_⟩|⟨k,l,p,m,n,rfl,o⟩<;>rfl
@[simp] theorem Wi {cx:Ctx} {mask:Nat} {e:Env} {h:H} (a:List ah) (b c:ab):ja (.call ⟨.builtin .append,a.toArray,#[b,c]⟩) cx mask e h=dM (fD (fG cx mask e) a) λd=>(match d with| [f,g]=>iO cx h b c f g|_=>none):=rfl
def ni{b:Nat}{a:List T}(c:∀e∈a,e.cells.length=b):fits b a=true:=by
 cases a with
 |nil=>rfl
 |cons e a=>
  show Nat.beq (kC e.cells) b=true;rw[jt,c e dt];simp
def ou{h:H}{b bytes:Nat}{a:List T}(f:∀e∈a,e.cells.length=b)(c:1<=bytes)(d:a.length*bytes<=70368744177664):
 h.iY b bytes [] a=some (.arr h.size 0 0 a.length false,h.cons ⟨b,0,0,false,false,a⟩):=by
 unfold H.iY;rw[qr,dR,jt,iw,dR,ni f,ni dt];simp[c,d]
def vq{h:H}{f bytes c d i:Nat}{j:Bool}{a b:List T}(g:h.get c=some ⟨f,d,i,j,false,a⟩)(m:∀e∈b,e.cells.length=f)(k:1<=bytes)(l:(a.length+b.length)*bytes<=70368744177664):
 h.ma f bytes c d a.length b=some (.arr c (d+1) 0 (a++b).length false,dT h c ⟨f,d+1,i+1,false,false,a++b⟩):=by
 unfold H.ma;rw[g];simp only[dR,m9,au,bo,aL,qr,jt,iw,ni m,xQ g];simp[k,l,bh]
def rC.app{cx:Ctx}{h:H}{k:Nat}{c:T}{a:Nat}{d:List T}(o:rC h k c a d)(w:k<=h.size){r s l:ab}{B C b:Ty}(F:cx.ty r=some B)(G:B.u= .slice l)(I:cx.ty l=some b)(J:cx.ty s=some C)(K:C.u= .slice l)(z:b.size=a)(v:1<=b.bytes)
 {x:T} {xs:List T} (M:h.jg x=some xs) (p:∀e∈xs,e.cells.length=a) (y:(d.length+xs.length)*b.bytes<=70368744177664):
 ∃D m,iO cx h r s c x=some (.val D m)/\rC m k D a (d++xs)/\Fr k h m:=by
 have L:iO cx h r s c x=jp (h.append b.size b.bytes c xs):=by
  unfold iO pR nc;rw[F,dR,J,dR];simp only[G,I,K,M,dR];rw[z,ni p,ij]
 rw[L,z];cases xs with
 |nil=>
  refine⟨c,h,?_,by simpa using o,Fr.refl _ _⟩;show jp (fT (og c) (some (c,h)))=_;rcases o with⟨rfl,_⟩|⟨i,j,t,E,_,rfl,_⟩<;>rfl
 |cons f g=>
  rcases o with⟨rfl,rfl⟩|⟨i,j,t,E,A,rfl,q⟩
  ·refine⟨.arr h.size 0 0 (f::g).length false,h.cons ⟨a,0,0,false,false,f::g⟩,?_,.inr ⟨h.size,0,0,false,w,rfl,dt⟩,Fr.cons w _⟩;show jp (h.iY a b.bytes [] (f::g))=_;rw[ou p v (by simpa using y)];rfl
  ·refine⟨.arr i (j+1) 0 (d++f::g).length false,dT h i ⟨a,j+1,t+1,false,false,d++f::g⟩,?_,.inr ⟨i,j+1,t+1,false,A,rfl,by rw[dI q,aq rfl]⟩,Fr.put q A _⟩;show jp (h.ma a b.bytes i j d.length (f::g))=_;rw[vq q p v y];rfl
def rC.mJ{cx:Ctx}{h:H}{c:Nat}{o:T}{a:Nat}{i:List T}(v:rC h c o a i)(s:c<=h.size){j k:ab}{n d:Ty}(l:cx.ty j=some n)(m:n.u= .slice k)(p:cx.ty k=some d)(w:d.size=a)(q:1<=d.bytes)
 {e:T} (r:e.cells.length=a) (t:(i.length+1)*d.bytes<=70368744177664):
 ∃g b,iO cx (h.cons ⟨a,0,0,true,false,[e]⟩) j j o (.arr h.size 0 0 1 false)=some (.val g b)/\rC b c g a (i++[e])/\Fr c h b:=by
 obtain⟨g,b,y,z,A⟩:=(v.cons ⟨a,0,0,true,false,[e]⟩).app (x:= .arr h.size 0 0 1 false) (xs:=[e]) du l m p l m w q (by rw[f7];simp) (by simpa using r) (by simpa using t);exact⟨g,b,y,z,(Fr.cons s _).trans A⟩
@[simp] theorem Ow (h:H) (a:iN):(h.cons a).low=h.low:=id rfl
@[simp] theorem F2 (h:H) (f c:iN) (g:Nat) (j:g=h.size) (hl:h.low<=h.size):dT (h.cons f) g c=h.cons c:=by
 subst j;obtain⟨a,b,d⟩:=h;unfold dT;have:(H.cons ⟨a,b,d⟩ f).put a c=some (H.cons ⟨a,b,d⟩ c):=by
  show(fT (Nat.blt a (a+1)) (dM (kr (f::d) (Nat.sub (Nat.sub (a+1) 1) a) c) λi=> @Bool.rec (λ_=>aa H) (some ⟨a+1,b,i⟩) (some ⟨a+1,a,i⟩) (Nat.blt a b)))=some ⟨a+1,b,c::d⟩;rw[show Nat.blt a (a+1)=true by rw[aG];omega,ij,kt,show Nat.sub (Nat.sub (a+1) 1) a=0 by show a+1-1-a=0;omega];simp only[aZ,Nat.zero_lt_succ,bo,cM,dR];rw[show Nat.blt a b=false by rw[cj];intro k;rw[aG]at k;simp at hl;omega]
 rw[this];rfl
@[simp] theorem aaI (h:H) (i d:iN) (a:Nat) (j:a<h.size):dT (h.cons i) a d=(dT h a d).cons i:=by
 obtain⟨b,c,f⟩:=h;have j:a<b:=j;have k:(H.cons ⟨b,c,f⟩ i).put a d=fT (Nat.blt a (b+1)) (dM (kr (i::f) (Nat.sub (Nat.sub (b+1) 1) a) d) λg=> @Bool.rec (λ_=>aa H) (some ⟨b+1,c,g⟩) (some ⟨b+1,a,g⟩) (Nat.blt a c)):=rfl;have l:(⟨b,c,f⟩:H).put a d=fT (Nat.blt a b) (dM (kr f (Nat.sub (Nat.sub b 1) a) d) λg=> @Bool.rec (λ_=>aa H) (some ⟨b,c,g⟩) (some ⟨b,a,g⟩) (Nat.blt a c)):=rfl;unfold dT;rw[k,l,show Nat.blt a (b+1)=true by rw[aG];omega,show Nat.blt a b=true by rw[aG];exact j,ij,ij,kt,kt,
  show Nat.sub (Nat.sub (b+1) 1) a=Nat.sub (Nat.sub b 1) a+1 by show b+1-1-a=b-1-a+1;omega]
 by_cases hl:Nat.sub (Nat.sub b 1) a<f.length
 ·rw[aq (by simpa using hl),aq hl,dR,dR];cases Nat.blt a c<;>rfl
 ·rw[ao (by simpa using hl),ao hl];rfl
def dS(a:List T)(b:Nat)(c:List T):mz (.agg a) b c=dM (kx a b c) λd=>some (.agg d):=rfl
attribute [simp] dS
@[simp] theorem Wa (b:ak) (c:Int) (a:T):mz (.int b c) 0 [a]=some a:=id rfl
@[simp] theorem T8 (b:Bool) (a:T):mz (.bool b) 0 [a]=some a:=id rfl
@[simp] theorem U5 (a:Nat):kZ [] a=false:=id rfl
@[simp] theorem Tq (b d a:Nat) (c:List (Nat×Nat)):kZ ((b,d)::c) a=(decide (b=a)||kZ c a):=by
 unfold kZ;rw[List.any_cons];congr 1
@[simp] theorem ZC (a b:Nat):zk [] a b=false:=id rfl
@[simp] theorem Wv (c d a b:Nat) (f:List (Nat×Nat)):zk ((c,d)::f) a b=((decide (c=a)&&decide (d=b))||zk f a b):=by
 unfold zk;rw[List.any_cons];congr 1
@[simp] theorem I6 (a:List (Nat×Nat)) (b:Nat) (h:H) (c:List (Nat×Nat)):vh a b h h c=True:=by unfold vh;simp
@[simp] theorem Zk {f:Type} (a b:Nat) (d:f) (c:List (Nat×f)):List.lookup a ((b,d)::c)=if a=b then some d else List.lookup a c:=by
 rw[List.lookup_cons];by_cases h:a=b
 ·subst h;simp
 ·rw[ao h,show(a==b)=false by simpa using h]
def Km(a:T):Nat:=a.cells.length
@[simp] theorem abs (a:ak) (b:Int):Km (.int a b)=1:=id rfl
@[simp] theorem Z4 (a:Bool):Km (.bool a)=1:=id rfl
@[simp] theorem abr (a:List Nat):Km (.str a)=1:=id rfl
def Ml(cx:Ctx)(h:H)(c:Ty)(d:T)(f a b:aa Nat):aa lh:=fT (jl cx h c.u d) (fT (zg a b) (val h (oF (asSlice c.u d) f a b)))
def Wg(cx:Ctx)(mask:Nat)(e:Env)(a:aa ah):aa (aa Nat):=jB cx mask e a
section
variable {cx:Ctx}{mask:Nat}{e:Env}{h:H}
@[simp] theorem Y2:Wg cx mask e none=some none:=id rfl
@[simp] theorem Y1 (a:ah):Wg cx mask e (some a)=dM (fG cx mask e a) λc=>dM (o9 c) λb=>some (some b):=id rfl
@[simp] theorem Y4 (g:ab) (a:ah) (d b c:aa ah):ja (.slice g a d b c) cx mask e h=dM (cx.ty g) λf=>dM (fG cx mask e a) λa=>dM (Wg cx mask e d) λd=>dM (Wg cx mask e b) λb=>dM (Wg cx mask e c) λc=>Ml cx h f a d b c:=by
 show(dM (cx.ty g) λf=>dM (fG cx mask e a) λa=>fT (jl cx h f.u a)<|dM (jB cx mask e d) λd=>dM (jB cx mask e b) λb=>dM (jB cx mask e c) λc=>fT (zg b c) (val h (oF (asSlice f.u a) d b c)))=_;unfold Wg Ml;congr 1;funext f;congr 1;funext a;cases jl cx h f.u a with
 |true=>rfl
 |false=>
  simp only[LX];cases jB cx mask e d<;>simp;cases jB cx mask e b<;>simp;cases jB cx mask e c<;>simp
def Ry{d:Type}(c:List d)(b a:Nat)(g:b<=a)(f:a<=c.length):Jb c b a=some ((c.drop b).take (a-b)):=by
 unfold Jb;rw[lF,aq dq,dR,m9];rw[aq du];rfl
def ML(d:List T)(a b:Nat)(m:a<=b)(l:b<=d.length)(f c:aa Nat)(k:fQ f 0=a)(g:fQ c d.length=b):oF (sl d) f c none=some (sl ((d.drop a).take (b-a))):=by
 cases d with
 |nil=>
  have n:b=0:=by simpa using l
  subst n;have o:a=0:=dq;subst o;show(fT (Nat.beq (fQ f 0) 0) (fT (Nat.beq (fQ c 0) 0) (some T.fR)))=_;have g:fQ c 0=0:=g;rw[k,g];rfl
 |cons j i=>
  show sO (j::i) false (fQ f 0) (fQ c (kC (j::i))) none=_;rw[jt,k,g];unfold sO;rw[Ry _ _ _ m l,dR,show Nat.ble a b=true by simpa using m,ij];cases (List.take (b-a) (List.drop a (j::i)))<;>rfl
def H8{d i:Ty}{f:ab}(g:d.u= .slice f)(ht:cx.ty f=some i){a:List T}(l:∀j∈a,j.cells.length=i.size){c b:aa Nat}(n:fQ c 0<=fQ b a.length)(m:fQ b a.length<=a.length):
 Ml cx h d (sl a) c b none=some (.val (sl ((a.drop (fQ c 0)).take (fQ b a.length-fQ c 0))) h):=by
 unfold Ml;have k:jl cx h d.u (sl a)=true:=by
  rw[g];unfold jl;simp only[ht];cases a with
  |nil=>rfl
  |cons j o=>exact ni l
 rw[k,ij,show zg b none=true from rfl,ij,show asSlice d.u (sl a)=sl a by rw[g];rfl,ML a _ _ n m c b rfl rfl];rfl
@[simp] theorem abY {j:Type} (i d:Ty) (g:ab) (a:j->T) (b:List j) (c:Nat) (m:i.u= .slice g) (ht:cx.ty g=some d) (k:∀n,Km (a n)=d.size) (l:c<=b.length):Ml cx h i (sl (b.map a)) none (some c) none=some (.val (sl ((b.take c).map a)) h):=by
 rw[H8 m ht (by simpa using λf _=>show(a f).cells.length=d.size from k f) (by simp[fQ]) (by simpa[fQ]using l)];simp[fQ,List.map_take]
@[simp] theorem Yp {j:Type} (i d:Ty) (g:ab) (a:j->T) (b:List j) (c:Nat) (m:i.u= .slice g) (ht:cx.ty g=some d) (k:∀n,Km (a n)=d.size) (l:c<=b.length):Ml cx h i (sl (b.map a)) (some c) none none=some (.val (sl ((b.drop c).map a)) h):=by
 rw[H8 m ht (by simpa using λf _=>show(a f).cells.length=d.size from k f) (by simpa[fQ]using l) (by simp[fQ])];simp only[fQ,aH,<-List.map_drop];rw[bF dt]
@[simp] theorem aaH {k:Type} (j f:Ty) (i:ab) (a:k->T) (d:List k) (c b:Nat) (o:j.u= .slice i) (ht:cx.ty i=some f) (l:∀p,Km (a p)=f.size) (n:c<=b) (m:b<=d.length):Ml cx h j (sl (d.map a)) (some c) (some b) none=some (.val (sl (((d.drop c).take (b-c)).map a)) h):=by
 rw[H8 o ht (by simpa using λg _=>show(a g).cells.length=f.size from l g) (by simpa[fQ]using n) (by simpa[fQ]using m)];simp[fQ,List.map_take,List.map_drop]
@[simp] theorem JI (g k:Ty) (i:ab) (a c f d b:Nat) (s:Bool) (l:iN) (j:g.u= .slice i) (ht:cx.ty i=some k) (n:h.get a=some l) (p:l.sz=k.size) (o:b<=d):Ml cx h g (.arr a c f d false) none (some b) none=some (.val (.arr a c f b false) h):=by
 unfold Ml;have m:jl cx h g.u (.arr a c f d false)=true:=by
  rw[j];unfold jl;simp only[ht,n,p,Nat.beq_refl]
 rw[m,ij,show zg (some b) none=true from rfl,ij,show asSlice g.u (.arr a c f d false)= .arr a c f d false by rw[j];rfl];show val h (fT (Nat.ble 0 b) (fT (Nat.ble b d) (dM (gh (Nat.add f 0)) λr=>dM (gh (Nat.sub b 0)) λq=>some (T.arr a c r q false))))=_;simp[o]
def WF(cx:Ctx)(h:H)(d b:ab)(c:Ty)(a:T):aa lh:=match c.u with
 | .slice _=>val h (Cx cx b a)
 | .str=>(match a with
  | .str _=>val h (conv cx b a)
  |_=>val h (FN cx h d a))
 |_=>val h (conv cx b a)
@[simp] theorem UD (b a:ab) (c:ah):ja (.convert b a c) cx mask e h=dM (cx.ty b) λ_=>dM (fG cx mask e c) λd=>dM (cx.ty a) λf=>WF cx h b a f d:=rfl
def Fe{k d:ab}{b:Ty}{c g:ak}{a:Int}(i:cx.ty d=some b)(f:b.u= .int c)(j:Jx c a=a):WF cx h k d b (.int g a)=some (.val (.int c a) h):=by
 unfold WF;rw[f];show val h (dM (cx.ty d) λb=>match b.u with
  | .int c=>(match(T.int g a)with| .int _ a=>pi c a|_=>none)
  | .str=>_
  |_=>none)=_
 rw[i,dR,f];simp[pi,j]
@[simp] theorem abq (k c:ab) (b:Ty) (j:ak) (a:Int) (g:cx.ty c=some b) (i:b.u= .int .i64) (d: -9223372036854775808<=a) (f:a<9223372036854775808):WF cx h k c b (.int j a)=some (.val (.int .i64 a) h):=Fe g i (ju d f)
@[simp] theorem Q0 (f:ab) (a b:ah):ja (.makeSlice f a b) cx mask e h=dM (cx.ty f) λd=>(match d.u with
 | .slice g=>dM (cx.ty g) λc=>dM (fG cx mask e a) λa=>dM (fG cx mask e b) λb=>dM (o9 a) λa=>dM (o9 b) λb=>
  fT (decide (1<=c.size))<|fT (decide (1<=c.bytes))<|fT (decide (a<=b)) (fT (decide (b*c.bytes<=70368744177664)) (some (.val (.arr h.size 0 0 a false) (h.cons ⟨c.size,0,0,decide (a=b),false,List.replicate a c.j1⟩))))
 |_=>none):=by
 show(dM (cx.ty f) λd=>_)=_;congr 1;funext d;cases d.u<;>first|rfl|skip
 rename_i g;simp only[ng,H.kz,KA,uv,DC,zO];rfl
@[simp] theorem Tf (b:aj) (a:List ah):ja (.makeFunc (.func b) #[] a.toArray) cx mask e h=dM (fD (fG cx mask e) a) λc=>some (.val (.func b c) h):=by
 show(dM (pq cx mask e a) λa=>val h (some (T.func b a)))=_;simp
end
def rC.RS{cx:Ctx}{h:H}{d:Nat}{q:T}{c:Nat}{k:Type}{a:k->T}{i:List k}(y:rC h d q c (i.map a))(v:d<=h.size){j m:ab}{p f:Ty}(n:cx.ty j=some p)(o:p.u= .slice m)(r:cx.ty m=some f)(z:f.size=c)(s:1<=f.bytes)
 (t:∀x,Km (a x)=c) (xs:List k) (w:(i.length+xs.length)*f.bytes<=70368744177664):
 ∃g b,iO cx h j j q (sl (xs.map a))=some (.val g b)/\rC b d g c ((i++xs).map a)/\Fr d h b:=by
 obtain⟨g,b,A,B,C⟩:=y.app (x:=sl (xs.map a)) (xs:=xs.map a) v n o r n o z s dt (by simpa using λl _=>show(a l).cells.length=c from t l) (by simpa using w);exact⟨g,b,A,by rw[List.map_append];exact B,C⟩
def rC.PD{cx:Ctx}{h:H}{f:Nat}{o:T}{d:Nat}{l:Type}{b:l->T}{j:List l}(x:rC h f o d (j.map b))(v:f<=h.size){k m:ab}{n g:Ty}(p:cx.ty k=some n)(q:n.u= .slice m)(r:cx.ty m=some g)(y:g.size=d)(s:1<=g.bytes)
 (t:∀a,Km (b a)=d) (a:l) (w:(j.length+1)*g.bytes<=70368744177664):
 ∃i c,iO cx (h.cons ⟨d,0,0,true,false,[b a]⟩) k k o (.arr h.size 0 0 1 false)=some (.val i c)/\rC c f i d ((j++[a]).map b)/\Fr f h c:=by
 obtain⟨i,c,z,A,B⟩:=x.mJ v p q r y s (e:=b a) (t a) (by simpa using w);exact⟨i,c,z,by rw[List.map_append];exact A,B⟩
def rC.fzM{h:H}{j:Nat}{b:T}{k:Nat}{d:Type}{f:d->T}{a:List d}(i:rC h j b k (a.map f))(g:∀c,wG h 11 (f c)=some (f c)):TI.rF h b=some (sl (a.map f)):=i.rF (BM _ _ _ g)
def gX{c:ai}{cx:Ctx}{tb:fy}{b:gu}(l:c.follows .mixedOrders=true)(iG:iP c cx){g:aj}{d:Func}{mask:Nat}{f:DL}(o:FC c cx g d mask f)(i:b.α->Nat)(hl:∀a,mp (b.A a)=true)(m:∀a,(b.A a).length<=d.ntmps)
 (n:∀a,b.pre a->∀j,mY j 0 (b.A a)->W (jm cx (qp c cx tb) (i a) mask f (d.body.getD .skip) ⟨j,.nil⟩ hE) (BU cx mask d.results.toList λp h=>PY h p (b.R a))):b.Ok c cx g:=
 λa k=>Xc l iG o (Cr c cx tb) (hl a) (m a) (i a) (n a k)
attribute [simp] Pd
end
noncomputable section
abbrev qu(a:T)(c:List T)(g:Nat):Prop:=a.cells=c/\Km a=g/\(∀d e,mz a d e=dM (kx c d e) λh=>some (.agg h))/\a.gJ=true/\cn a=a/\(∀b,rF b a=some a)/\(∀b f,wG b (f+2) a=some a)/\jI a=true/\mG a=true
def mw{a b:List Nat}:T.str a=T.str b->a=b:=dt 
def gH{c:ak}{a b:Int}:T.int c a=T.int c b->a=b:=dt 
def rY{a b:Bool}:T.bool a=T.bool b->a=b:=dt 
def ig{f:Type}{a:f->T}(h:∀d e,a d=a e->d=e)(b c:List f)(g:sl (b.map a)=sl (c.map a)):b=c:=jw h g
def Bc(b:U)(a:Nat)(c:T):Ty:=⟨b,1,a,false,[c]⟩
def sL(d:List (Nat×Nat))(c a:Nat)(b:Bool)(e:List T):Ty:=⟨.struct d,c,a,b,e⟩
def Qo(d c e a:Nat)(b:Bool)(f:List T):Ty:=⟨.array d c,e,a,b,f⟩
@[simp] theorem adq (b:U) (a:Nat) (c:T):(Bc b a c).size=1/\(Bc b a c).bytes=a/\(Bc b a c).u=b:=⟨rfl,rfl,rfl⟩
@[simp] theorem adu (d:List (Nat×Nat)) (a c:Nat) (e:Bool) (b:List T):(sL d a c e b).size=a/\(sL d a c e b).bytes=c/\(sL d a c e b).u= .struct d/\(sL d a c e b).j1= .agg b/\(sL d a c e b).zero=b/\∀f,j2 (sL d a c e b) f=dM (takeN a f) λg=>some (.agg g):=⟨rfl,rfl,rfl,rfl,rfl,λ_=>rfl⟩
abbrev My(a:ak)(b:Nat):Ty:=Bc (.int a) b (.int a 0)
abbrev tyB:Ty:=Bc .bool 1 (.bool false)
abbrev tyZ:Ty:=Bc .str 16 (.str [])
abbrev Ay(a:Nat):Ty:=Bc (.slice a) 24 (.dF [] false)
abbrev Mj(a:Nat):Ty:=Bc (.ptr a) 8 .ka
@[simp] theorem ads (d:ak) (c:Nat) (b:T):(Bc (.int d) c b).j1=b/\∀a,j2 (Bc (.int d) c b) a=a[0]? :=⟨rfl,λa=>ks a 0⟩
@[simp] theorem adt (c:Nat) (b:T):(Bc .bool c b).j1=b/\∀a,j2 (Bc .bool c b) a=a[0]? :=⟨rfl,λa=>ks a 0⟩
@[simp] theorem ado (c:Nat) (b:T):(Bc .str c b).j1=b/\∀a,j2 (Bc .str c b) a=a[0]? :=⟨rfl,λa=>ks a 0⟩
@[simp] theorem adp (d c:Nat) (b:T):(Bc (.slice d) c b).j1=b/\∀a,j2 (Bc (.slice d) c b) a=a[0]? :=⟨rfl,λa=>ks a 0⟩
@[simp] theorem adr (d c:Nat) (b:T):(Bc (.ptr d) c b).j1=b/\∀a,j2 (Bc (.ptr d) c b) a=a[0]? :=⟨rfl,λa=>ks a 0⟩
def iQ{b:ai}{cx:Ctx}{d:aj}{a:Func}(e:Nat)(c:DL)(f:b.funcs[d]? =some a)(g:wE ⟨a,e,false,none⟩=true:=by kernel_rfl)(h:mt c (a.body.getD .skip)=true:=by kernel_rfl):FC b cx d a e c:=⟨f,g,h⟩
def gq(cx:Ctx)(c:Func)(f:Nat)(e:Bool):pJ:=λb g a d=>rZ cx b g c f e a d
def acQ{a:ai}{cx:Ctx}(g:a.follows .mixedOrders=true)(iG:iP a cx){e:aj}{b:Func}{d:Nat}{c:Bool}(f:a.funcs[e]? =some b)(h:wE ⟨b,d,c,none⟩=true:=by kernel_rfl):lO a cx e (gq cx b d c):=oL (F:=⟨b,d,c,none⟩) g iG f h
end
end Go.TI
