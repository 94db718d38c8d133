/- Texts TiWalk to TiData. -/
import Derived.Test.YtmaeadedikngoaaGreatDoorA8
import Derived.KernelRfl
set_option linter.unusedVariables false
set_option linter.unusedSimpArgs false
namespace Go.TI
noncomputable section
noncomputable section
variable {cx:Ctx}{cf:ir}{mask:Nat}{e:Env}{h:H}
attribute [simp] Nx kL jc H.j4
@[simp] theorem SM {b c:Type} (a:b->aa c):eK a []=some []:=rfl
@[simp] theorem Yq (c b:eZ) (a:Nat):eJ cx mask ⟨c,b⟩ (.tmp a)=if(mask>>>a)&&&1=1 then dt c a else dt b a:=Af c b a
@[simp] theorem Yr (a:ak) (b:Int):eJ cx mask e (.const (.int a b))=some (.int a b):=rfl
@[simp] theorem Wb (a:Bool):eJ cx mask e (.const (.bool a))=some (.bool a):=rfl
@[simp] theorem V5:eJ cx mask e (.const (.slice none 0 0))=some (.dq [] false):=rfl
@[simp] theorem V6:eJ cx mask e (.const (.pointer none))=some .jz:=rfl
@[simp] theorem V7:eJ cx mask e (.const (.map none))=some .mL:=rfl
@[simp] theorem V9:eJ cx mask e (.const .nilFunc)=some .j3:=rfl
@[simp] theorem V8:eJ cx mask e (.const .nilIface)=some .ka:=rfl
@[simp] theorem My (b:ByteArray):eJ cx mask e (.const (.string b))=some (.str (b.data.toList.map UInt8.toNat)):=by
 show(dB (yN b.data.toList) λa=>some (T.str a))=_
 have:∀a:List UInt8,yN a=some (a.map UInt8.toNat):=by
  intro a
  induction a with
  |nil=>rfl
  |cons f a c=>
   show(dB (fF f.toNat) λg=>dB (yN a) λd=>some (g::d))=_
   rw[c];simp
 rw[this];rfl
@[simp] theorem Kv (a:aj):eJ cx mask e (.func a)=some (.func a []):=rfl
@[simp] theorem Wa (a:Nat):eJ cx mask e (.global a)=dB (cx.gl a) λb=>some (.iT b):=rfl
@[simp] theorem Fg (a:List ah):oY cx mask e a=eK (eJ cx mask e) a:=rfl
def ke(a:Int):aa Nat:=if 0<=a then some a.toNat else none
@[simp] theorem VP (b:ak) (a:Int):mR (.int b a)=ke a:=by
 unfold ke
 cases a with
 |ofNat c=>rw[aq (by simp)];rfl
 |negSucc c=>rw[ao (by omega)];rfl
@[simp] theorem Hm (a:Nat):ke (a:Int)=some a:=by unfold ke;rw[aq (by omega)];rfl
@[simp] theorem Tt (a:Nat):ke (no_index (OfNat.ofNat a):Int)=some a:=Hm a
@[simp] theorem XS:ke 0=some 0:=id rfl
@[simp] theorem XR:ke 1=some 1:=id rfl
theorem dS{a:Int}(h:0<=a):ke a=some a.toNat:=by unfold ke;rw[aq h]
@[simp] theorem aaY (a:ah):iO (.move a) cx mask e h=val h (eJ cx mask e a):=rfl
@[simp] theorem Wf (a:ah):iO (.assign a) cx mask e h=val h (eJ cx mask e a):=rfl
def ls(a:aa T)(b c:aa kx):aa kx:=dB a λa=>match a with| .bool d=>if d=true then b else c|_=>none
@[simp] theorem dT (c:Bool) (a b:aa kx):ls (some (.bool c)) a b=if c=true then a else b:=rfl
@[simp] theorem PU (a b c:ah):iO (.pick a b c) cx mask e h=ls (eJ cx mask e a) (val h (eJ cx mask e b)) (val h (eJ cx mask e c)):=by
 show(dB (eJ cx mask e a) λa=>_)=_
 unfold ls
 cases eJ cx mask e a with
 |none=>rfl
 |some f=>cases f<;>first|rfl|(rename_i d;cases d<;>rfl)
@[simp] theorem UB (a:Ty):vm cx a=(match a.u with
 | .array _ b=>Option.casesOn (cx.ty b) false λd=>(match d.u with| .int c=>B5 c .u8|_=>false)
 |_=>false):=rfl
@[simp] theorem YO (b:ab):iO (.alloc b) cx mask e h=dB (cx.ty b) λa=>if vm cx a=true then some (.val (.ptr h.size 0 0 0) (h.cons (kz 1 true a.zero)))else some (.val (.ptr h.size 0 0 0) (h.cons (kz a.size true [a.jI]))):=by
 show(dB (cx.ty b) λa=>_)=_
 cases cx.ty b with
 |none=>rfl
 |some a=>
  simp only[dD]
  cases vm cx a<;>simp
@[simp] theorem CR (b:Nat) (c:Bool) (a:List T):kz b c a=⟨b,0,0,c,false,a⟩:=rfl
@[simp] theorem adw (d:ab) (b:ah):iO (.box d b) cx mask e h=dB (eJ cx mask e b) λa=>fy a.fT (some (.val (.ptr h.size 0 0 0) (h.cons ⟨a.cells.length,0,0,true,false,[a]⟩))):=by
 show(dB (eJ cx mask e b) λa=>fy a.fT (iV (h.new (λc=> .ptr c 0 0 0) (kz (kc a.cells) true [a]))))=_
 simp
def wE(cx:Ctx)(mask:Nat)(e:Env):List (Nat×ah)->aa (List (Nat×T))
 | []=>some []
 |(b,d)::c=>dB (eJ cx mask e d) λa=>fy a.fT (dB (wE cx mask e c) λf=>some ((b,a)::f))
@[simp] theorem TZ:wE cx mask e []=some []:=rfl
@[simp] theorem Ff (a:Nat) (c:ah) (b:List (Nat×ah)):wE cx mask e ((a,c)::b)=dB (eJ cx mask e c) λd=>fy d.fT (dB (wE cx mask e b) λf=>some ((a,d)::f)):=rfl
theorem AS(a:List (Nat×ah)):partsOf cx mask e a=wE cx mask e a:=by
 induction a with
 |nil=>rfl
 |cons i a g=>
  obtain⟨f,c⟩:=i
  show(dB (dB (eJ cx mask e c) λb=>fy b.fT (some (f,b))) λk=>dB (partsOf cx mask e a) λj=>some (k::j))=_
  rw[g,Ff]
  cases eJ cx mask e c with
  |none=>rfl
  |some b=>cases d:b.fT<;>simp[d]
def Bw(cx:Ctx)(c:List (Nat×ab)):List (Nat×T)->List T->aa (List T)
 | [],a=>some a
 |(g,d)::i,a=>dB (c[g]?) λb=>dB (cx.ty b.2) λj=>fy (decide (d.cells.length=j.size)) (dB (jY a b.1 d.cells) λf=>Bw cx c i f)
@[simp] theorem WK (b:List (Nat×ab)) (a:List T):Bw cx b [] a=some a:=rfl
@[simp] theorem Il (a:List (Nat×ab)) (f:Nat) (b:T) (g:List (Nat×T)) (c:List T):Bw cx a ((f,b)::g) c=dB (a[f]?) λd=>dB (cx.ty d.2) λj=>fy (decide (b.cells.length=j.size)) (dB (jY c d.1 b.cells) λi=>Bw cx a g i):=rfl
theorem Ep(g:List (Nat×ab)):∀(c:List (Nat×T)) (f:List T),lK (λb=>dB (kW g b) λa=>dB (cx.ty a.2) λd=>some (a.1,d.size)) c f=Bw cx g c f:=by
 intro c
 induction c with
 |nil=>intro f;rfl
 |cons m c l=>
  intro f
  obtain⟨b,j⟩:=m
  show(dB (dB (kW g b) λa=>dB (cx.ty a.2) λd=>some (a.1,d.size)) λi=>fy (Nat.beq (kc j.cells) i.2) (dB (jY f i.1 j.cells) λk=>lK (λb=>dB (kW g b) λa=>dB (cx.ty a.2) λd=>some (a.1,d.size)) c k))=_
  rw[Il,j9]
  cases g[b]? with
  |none=>rfl
  |some a=>
   simp only[dD]
   cases cx.ty a.2 with
   |none=>rfl
   |some d=>simp only[dD,iX,tU,l]
def Bz(b:Nat):List (Nat×T)->List T->aa (List T)
 | [],a=>some a
 |(f,c)::g,a=>fy (decide (c.cells.length=b)) (dB (jY a (f*b) c.cells) λd=>Bz b g d)
@[simp] theorem WL (b:Nat) (a:List T):Bz b [] a=some a:=rfl
@[simp] theorem Im (a d:Nat) (b:T) (f:List (Nat×T)) (c:List T):Bz a ((d,b)::f) c=fy (decide (b.cells.length=a)) (dB (jY c (d*a) b.cells) λg=>Bz a f g):=rfl
theorem Cn(a:Nat):∀(b:List (Nat×T)) (c:List T),lK (λd=>some (Nat.mul d a,a)) b c=Bz a b c:=by
 intro b
 induction b with
 |nil=>intro c;rfl
 |cons j b i=>
  intro c
  obtain⟨d,f⟩:=j
  show(fy (Nat.beq (kc f.cells) a) (dB (jY c (Nat.mul d a) f.cells) λg=>lK (λd=>some (Nat.mul d a,a)) b g))=_
  simp only[iX,tU,i,Im]
  rfl
@[simp] theorem VU (c b:T) (a:List T):jY (c::a) 0 [b]=some (b::a):=by rw[r6];simp
@[simp] theorem VT (f c d:T) (a b:List T):jY (f::a) 0 (c::d::b)=dB (jY a 0 (d::b)) λg=>some (c::g):=by
 rw[r6,r6]
 simp only[aZ,Nat.zero_add,List.take_zero,cy]
 by_cases hl:b.length+1<=a.length
 ·rw[aq (by omega),aq (by omega)];simp
 ·rw[ao (by omega),ao (by omega)];rfl
@[simp] theorem X0 (a:T) (b d:List T) (c:Nat):jY (a::b) (c+1) d=dB (jY b c d) λf=>some (a::f):=rfl
@[simp] theorem TA (b:T) (c d:List T) (a:Nat) [NeZero a]:jY (b::c) (no_index (OfNat.ofNat a)) d=dB (jY c (a-1) d) λg=>some (b::g):=by
 obtain⟨i,f⟩:=Nat.exists_eq_succ_of_ne_zero (NeZero.ne a)
 show jY (b::c) a d=_
 rw[f];rfl
def IF(cx:Ctx)(h:H)(b:Ty)(c:List (Nat×T)):aa kx:=match b.u with
 | .struct f=>dB (Bw cx f c b.zero) λa=>some (.val (.agg a) h)
 | .array _ d=>dB (cx.ty d) λg=>dB (Bz g.size c b.zero) λa=>some (.val (.agg a) h)
 |_=>none
@[simp] theorem W1 (a:Ty) (c:List (Nat×T)):IF cx h a c=(match a.u with
 | .struct f=>dB (Bw cx f c a.zero) λb=>some (.val (.agg b) h)
 | .array _ d=>dB (cx.ty d) λg=>dB (Bz g.size c a.zero) λb=>some (.val (.agg b) h)
 |_=>none):=rfl
@[simp] theorem YN (c:ab) (a:List (Nat×ah)):iO (.build c a.toArray) cx mask e h=dB (cx.ty c) λb=>dB (wE cx mask e a) λa=>IF cx h b a:=by
 show(dB (cx.ty c) λb=>dB (partsOf cx mask e a) λa=>_)=_
 rw[AS]
 congr 1;funext b;congr 1;funext a
 unfold IF
 cases b.u<;>first|rfl|(simp only[Ep,Cn,w9])
def yI(c:Nat):List (Nat×T)->List T->aa (List T)
 | [],a=>some a
 |(b,d)::f,a=>fy (decide (d.cells.length=c)) (fy (decide (b<a.length)) (yI c f (a.set b d)))
@[simp] theorem US (b:Nat) (a:List T):yI b [] a=some a:=rfl
@[simp] theorem Gt (c b:Nat) (d:T) (f:List (Nat×T)) (a:List T):yI c ((b,d)::f) a=fy (decide (d.cells.length=c)) (fy (decide (b<a.length)) (yI c f (a.set b d))):=rfl
theorem Eo(c:Nat):∀(b:List (Nat×T)) (a:List T),oE c b a=yI c b a:=by
 intro b
 induction b with
 |nil=>intro a;rfl
 |cons k b j=>
  intro a
  obtain⟨d,f⟩:=k
  show(fy (Nat.beq (kc f.cells) c) (dB (kf a d f) λg=>oE c b g))=_
  simp only[iX,tU,j,Gt,kh]
  by_cases i:d<a.length<;>simp[i]
@[simp] theorem Pa (f:ab) (b:Nat) (c:List (Nat×ah)):iO (.buildSlice f b c.toArray) cx mask e h=dB (cx.ty f) λd=>(match d.u with
 | .slice g=>dB (cx.ty g) λa=>dB (wE cx mask e c) λc=>fy (decide (1<=a.size))<|fy (decide (b*a.size<=65536)) (dB (yI a.size c (List.replicate b a.jI)) λi=>
  some (.val (.arr h.size 0 0 b false) (h.cons ⟨a.size,0,0,true,false,i⟩)))
 |_=>none):=by
 show(dB (cx.ty f) λd=>_)=_
 congr 1;funext d
 cases d.u<;>first|rfl|skip
 rename_i g
 simp only[AS,Eo,mU,H.j4,JW,CR,yS]
 rfl
@[simp] theorem aaZ (b:ab) (a:ah):iO (.load b a) cx mask e h=dB (cx.ty b) λc=>dB (eJ cx mask e a) λa=>val h (h.load c a):=rfl
def ldB(a:iE)(c d f:Nat)(g:Ty):aa T:=fy (decide (a.ep=c)) (if a.it=true then none else dB (a.dO[d]?) λe=>dB (je f e.cells) λb=>jK g b)
@[simp] theorem Ur (l b m:Nat) (k f:Bool) (c:List T) (a d g:Nat) (i:Ty):ldB ⟨l,b,m,k,f,c⟩ a d g i=fy (decide (b=a)) (if f=true then none else dB (c[d]?) λe=>dB (je g e.cells) λj=>jK i j):=id rfl
@[simp] theorem Up (j:Ty) (b c f i:Nat):h.load j (.ptr b c f i)=dB (h.get b) λa=>ldB a c f i j:=by
 show(dB (dB (h.get b) λa=>iE.casesOn a λ_ d _ _ g l=>fy (Nat.beq d c) (Bool.casesOn g (kW l f) none)) λe=>dB (je i e.cells) λk=>jK j k)=_
 cases h.get b with
 |none=>rfl
 |some a=>
  obtain⟨o,d,p,n,g,m⟩:=a
  simp only[dD,Ur,tU,j9]
  cases decide (d=c)<;>cases g<;>simp
def EZ(h:H)(c:Nat)(a:iE)(f b g:Nat)(i:List T):aa H:=fy (decide (a.ep=f)) (if a.it=true then none else dB (a.dO[b]?) λe=>dB (lr e g i) λd=>some (dI h c ⟨a.sz,a.ep,a.ver+1,a.exact,false,a.dO.set b d⟩))
@[simp] theorem Tz (d k a l:Nat) (g i:Bool) (b:List T) (f c j:Nat) (m:List T):EZ h d ⟨k,a,l,g,i,b⟩ f c j m=fy (decide (a=f)) (if i=true then none else dB (b[c]?) λe=>dB (lr e j m) λn=>some (dI h d ⟨k,a,l+1,g,false,b.set c n⟩)):=id rfl
theorem uu{a:Nat}{o:iE}(c:h.get a=some o)(f:iE):h.put a f=some (dI h a f):=by
 have:∃d,h.put a f=some d:=by
  obtain⟨b,j,g⟩:=h
  rw[H.get_eq]at c
  simp only at c
  by_cases i:a<b
  ·rw[aq i]at c
   have hl:b-1-a<g.length:=by
    rcases aD (b-1-a) g.length with n|l
    ·exact n
    ·rw[aM l]at c;simp at c
   show∃d,(fy (Nat.blt a b) (dB (kf g (Nat.sub (Nat.sub b 1) a) f) λk=> @Bool.rec (λ_=>aa H) (some ⟨b,j,k⟩) (some ⟨b,a,k⟩) (Nat.blt a j)))=some d
   rw[show Nat.blt a b=true by rw[aG];exact i,fO,kh,aq (by show b-1-a<_;omega),dD]
   cases Nat.blt a j<;>exact⟨_,rfl⟩
  ·rw[ao i]at c;simp at c
 obtain⟨d,m⟩:=this
 unfold dI;rw[m];rfl
@[simp] theorem aaO (l:Ty) (b i a g:Nat) (c:T):h.store l (.ptr b i a g) c=fy (decide (c.cells.length=l.size)) (dB (h.get b) λf=>EZ h b f i a g c.cells):=by
 show(fy (Nat.beq (kc c.cells) l.size) (dB (h.get b) λf=>iE.casesOn f λp j q exact k n=>
  fy (Nat.beq j i) (@Bool.rec (λ_=>aa H) (dB (kW n a) λe=>dB (lr e g c.cells) λm=>dB (kf n a m) λd=>
   dB (fF (Nat.succ q)) λv=>h.put b ⟨p,j,v,exact,false,d⟩) none k)))=_
 simp only[iX,tU]
 cases r:h.get b with
 |none=>rfl
 |some f=>
  obtain⟨p,j,q,w,k,d⟩:=f
  simp only[dD,Tz]
  congr 1;congr 1
  cases k with
  |true=>rfl
  |false=>
   simp only[j9,ci,bm]
   cases o:d[a]? with
   |none=>rfl
   |some e=>
    simp only[dD]
    cases lr e g c.cells with
    |none=>rfl
    |some m=>
     have t:a<d.length:=by
      rcases aD a d.length with u|s
      ·exact u
      ·rw[aM s]at o;simp at o
     simp only[dD,kh,aq t,gD,uu r]
@[simp] theorem YG (b:ab) (a d:ah):iO (.store b a d) cx mask e h=dB (cx.ty b) λg=>dB (eJ cx mask e a) λa=>dB (eJ cx mask e d) λc=>fy c.fT (dB (h.store g a c) λf=>some (.val .undef f)):=rfl
def ncW(h:H)(a:T):aa kx:=match a with| .ptr .. | .iT _| .func .. =>some (.val a h)|_=>none
@[simp] theorem aa0 (a b c d:Nat):ncW h (.ptr a b c d)=some (.val (.ptr a b c d) h):=rfl
@[simp] theorem YS (a:List T):ncW h (.iT a)=some (.val (.iT a) h):=rfl
@[simp] theorem YT (b:aj) (a:List T):ncW h (.func b a)=some (.val (.func b a) h):=rfl
@[simp] theorem SH (a:ah):iO (.nilCheck a) cx mask e h=dB (eJ cx mask e a) λb=>ncW h b:=rfl
@[simp] theorem Wm (d f:ah) (b:ak) (c:Int) (a:T):sx d f (.int b c) a=true:=id rfl
@[simp] theorem Wj (c d:ah) (b:List Nat) (a:T):sx c d (.str b) a=true:=id rfl
@[simp] theorem Uj (c d:ah) (b:Bool) (a:T):sx c d (.bool b) a=true:=id rfl
@[simp] theorem Wn (c d:ah) (b:List T) (a:T):sx c d (.agg b) a=true:=id rfl
@[simp] theorem Wl (g i:ah) (b c d f:Nat) (a:T):sx g i (.ptr b c d f) a=true:=id rfl
@[simp] theorem Uh (d f:ah) (c:aj) (b:List T) (a:T):sx d f (.func c b) a=true:=id rfl
@[simp] theorem Ug (b c:ah) (a:T):sx b c .j3 a=true:=id rfl
@[simp] theorem adv (g j:ab) (c d:ah):iO (.binOp .eql g c d j) cx mask e h=dB (cx.ty g) λi=>dB (eJ cx mask e c) λa=>dB (eJ cx mask e d) λb=>fy (sx c d a b) (dB (Lz cx i a b) λf=>some (.val (.bool f) h)):=by
 show(dB (cx.ty g) λi=>dB (eJ cx mask e c) λa=>dB (eJ cx mask e d) λb=>fy (sx c d a b) (dB (Lz cx i a b) λf=>val h (vQ f)))=_
 simp
@[simp] theorem adm (g j:ab) (c d:ah):iO (.binOp .neq g c d j) cx mask e h=dB (cx.ty g) λi=>dB (eJ cx mask e c) λa=>dB (eJ cx mask e d) λb=>fy (sx c d a b) (dB (Lz cx i a b) λf=>some (.val (.bool !f) h)):=by
 show(dB (cx.ty g) λi=>dB (eJ cx mask e c) λa=>dB (eJ cx mask e d) λb=>fy (sx c d a b) (dB (Lz cx i a b) λf=>val h (vQ (!f))))=_
 simp
@[simp] theorem abu (d:Ty) (a:ak) (b c:Int) (f:d.u= .int a):Lz cx d (.int a b) (.int a c)=some (decide (b=c)):=by unfold Lz;rw[f];simp
@[simp] theorem abt (c:Ty) (a b:List Nat) (d:c.u= .str):Lz cx c (.str a) (.str b)=some (decide (a=b)):=by unfold Lz;rw[d];simp
@[simp] theorem ZW (c:Ty) (a b:Bool) (d:c.u= .bool):Lz cx c (.bool a) (.bool b)=some (a==b):=by unfold Lz;rw[d];simp
def vZ(c:BinOp)(d f:aa T)(h:H):aa kx:=dB d λa=>dB f λb=>val h (binop c a b)
@[simp] theorem Zt (c:BinOp) (a b:T):vZ c (some a) (some b) h=val h (binop c a b):=rfl
@[simp] theorem adx (c d:ab) (a b:ah):iO (.binOp .add c a b d) cx mask e h=vZ .add (eJ cx mask e a) (eJ cx mask e b) h:=rfl
@[simp] theorem adj (c d:ab) (a b:ah):iO (.binOp .sub c a b d) cx mask e h=vZ .sub (eJ cx mask e a) (eJ cx mask e b) h:=rfl
@[simp] theorem adn (c d:ab) (a b:ah):iO (.binOp .mul c a b d) cx mask e h=vZ .mul (eJ cx mask e a) (eJ cx mask e b) h:=rfl
@[simp] theorem adl (c d:ab) (a b:ah):iO (.binOp .quo c a b d) cx mask e h=vZ .quo (eJ cx mask e a) (eJ cx mask e b) h:=rfl
@[simp] theorem adk (c d:ab) (a b:ah):iO (.binOp .rem c a b d) cx mask e h=vZ .rem (eJ cx mask e a) (eJ cx mask e b) h:=rfl
@[simp] theorem adq (c d:ab) (a b:ah):iO (.binOp .lss c a b d) cx mask e h=vZ .lss (eJ cx mask e a) (eJ cx mask e b) h:=rfl
@[simp] theorem adr (c d:ab) (a b:ah):iO (.binOp .leq c a b d) cx mask e h=vZ .leq (eJ cx mask e a) (eJ cx mask e b) h:=rfl
@[simp] theorem adt (c d:ab) (a b:ah):iO (.binOp .gtr c a b d) cx mask e h=vZ .gtr (eJ cx mask e a) (eJ cx mask e b) h:=rfl
@[simp] theorem adu (c d:ab) (a b:ah):iO (.binOp .geq c a b d) cx mask e h=vZ .geq (eJ cx mask e a) (eJ cx mask e b) h:=rfl
@[simp] theorem aeL (a:UnOp) (d:ab) (b:ah):iO (.unOp a d b) cx mask e h=dB (eJ cx mask e b) λc=>val h (unop a c):=rfl
@[simp] theorem PX (c:ab) (a:ah) (b:Nat):iO (.fieldAddr c a b) cx mask e h=dB (vq cx c b) λd=>dB (eJ cx mask e a) λa=>faV d.1 h a:=rfl
@[simp] theorem UO (c:ab) (a:Nat):vq cx c a=dB (cx.ty c) λd=>(match d.u with| .struct b=>b[a]? |_=>none):=by
 show(dB (cx.ty c) λd=>match d.u with| .struct b=>kW b a|_=>none)=_
 simp
def fdW(h:H)(off:Nat)(c:Ty)(d:T):aa kx:=match d with| .agg a=>dB (je off a) λb=>val h (jK c b)|_=>none
@[simp] theorem abr (off:Nat) (b:Ty) (a:List T):fdW h off b (.agg a)=dB (je off a) λc=>val h (jK b c):=rfl
@[simp] theorem YK (d:ab) (a:ah) (b:Nat):iO (.field d a b) cx mask e h=dB (vq cx d b) λc=>dB (cx.ty c.2) λf=>dB (eJ cx mask e a) λa=>fdW h c.1 f a:=rfl
@[simp] theorem WO {d:Type} (c:d) (b:List d) (a:Nat) [NeZero a]:je (no_index (OfNat.ofNat a)) (c::b)=je (a-1) b:=by
 obtain⟨g,f⟩:=Nat.exists_eq_succ_of_ne_zero (NeZero.ne a)
 show je a (c::b)=_
 rw[f];rfl
@[simp] theorem VR {d:Type} (c:d) (b:List d) (a:Nat) [NeZero a]:takeN (no_index (OfNat.ofNat a)) (c::b)=dB (takeN (a-1) b) λg=>some (c::g):=by
 obtain⟨i,f⟩:=Nat.exists_eq_succ_of_ne_zero (NeZero.ne a)
 show takeN a (c::b)=_
 rw[f];rfl
def ixW(cx:Ctx)(h:H)(g:Ty)(d:T)(c:Nat):aa kx:=match g.u with
 | .slice a=>dB (cx.ty a) λb=>kG h b d c
 | .array f a=>dB (cx.ty a) λb=>nT h f b d c
 |_=>none
@[simp] theorem adT (f:Ty) (d:T) (b:Nat):ixW cx h f d b=(match f.u with
 | .slice a=>dB (cx.ty a) λc=>kG h c d b
 | .array g a=>dB (cx.ty a) λc=>nT h g c d b
 |_=>none):=rfl
@[simp] theorem PW (c:ab) (b a:ah):iO (.indexAddr c b a) cx mask e h=dB (cx.ty c) λf=>dB (eJ cx mask e b) λb=>dB (eJ cx mask e a) λa=>dB (mR a) λd=>ixW cx h f b d:=rfl
@[simp] theorem K0 (d:Ty) (b:List T) (f:Bool) (c:Nat):kG h d (.dq b f) c=dB (b[c]?) λa=>fy (decide (a.cells.length=d.size)) (some (.val (.iT a.cells) h)):=by
 show(dB (kW b c) λa=>fy (Nat.beq (kc a.cells) d.size) (some (kx.val (.iT a.cells) h)))=_
 simp
@[simp] theorem NH (i:Ty) (a c g f:Nat) (j:Bool) (d:Nat):kG h i (.arr a c g f j) d=fy (decide (d<f)) (dB (h.get a) λb=>fy (decide (b.sz=i.size))<|fy (decide (b.ep=c)) (some (.val (.ptr a c (g+d) 0) h))):=by
 show(fy (Nat.blt d f) (dB (h.get a) λb=>fy (Nat.beq b.sz i.size)<|fy (Nat.beq b.ep c) (dB (fF (Nat.add g d)) λk=>some (kx.val (.ptr a c k 0) h))))=_
 simp
def icW(cx:Ctx)(h:H)(l:Ty)(c:T)(a:Nat):aa kx:=match l.u with
 | .str=>(match c with| .str k=>dB (k[a]?) λd=>some (.val (.int .u8 d) h)|_=>none)
 | .array i g=>(match c with
  | .agg f=>dB (cx.ty g) λb=>fy (decide (a<i)) (dB (je (a*b.size) f) λj=>val h (jK b j))
  |_=>none)
 |_=>none
@[simp] theorem adU (d:Ty) (b:T) (a:Nat):icW cx h d b a=(match d.u with
 | .str=>(match b with| .str l=>dB (l[a]?) λf=>some (.val (.int .u8 f) h)|_=>none)
 | .array j i=>(match b with
  | .agg g=>dB (cx.ty i) λc=>fy (decide (a<j)) (dB (je (a*c.size) g) λk=>val h (jK c k))
  |_=>none)
 |_=>none):=rfl
@[simp] theorem YJ (d:ab) (a b:ah):iO (.index d a b) cx mask e h=dB (cx.ty d) λf=>dB (eJ cx mask e a) λa=>dB (eJ cx mask e b) λb=>dB (mR b) λc=>icW cx h f a c:=by
 show(dB (cx.ty d) λf=>dB (eJ cx mask e a) λa=>dB (eJ cx mask e b) λb=>dB (mR b) λc=>match f.u with
  | .str=>(match a with| .str n=>dB (kW n c) λi=>val h (some (.int .u8 (.ofNat i)))|_=>none)
  | .array l k=>(match a with
   | .agg j=>dB (cx.ty k) λg=>fy (Nat.blt c l) (dB (je (Nat.mul c g.size) j) λm=>val h (jK g m))
   |_=>none)
  |_=>none)=_
 simp only[j9,QO,w9]
 rfl
@[simp] theorem Ud (b:ah) (a:Nat):iO (.extract b a) cx mask e h=dB (eJ cx mask e b) λc=>exV h c a:=rfl
@[simp] theorem YM (b:aj) (a:List ah) (f:af ab):iO (.call ⟨.value (.func b),a.toArray,f⟩) cx mask e h=dB (eK (eJ cx mask e) a) λc=>some (.call b c):=by
 show(dB (oY cx mask e a) λa=>dB (some (T.func b [])) λg=>match g with
  | .func b d=>dB (Cv a d) λc=>some (kx.call b c)
  |_=>none)=_
 simp
def Z6(c:List T)(d:T):aa kx:=match d with| .func b a=>some (.call b (c++a))|_=>none
@[simp] theorem WT (c:List T) (b:aj) (a:List T):Z6 c (.func b a)=some (.call b (c++a)):=rfl
@[simp] theorem YL (c:Tmp) (a:List ah) (i:af ab):iO (.call ⟨.value (.tmp c),a.toArray,i⟩) cx mask e h=dB (eK (eJ cx mask e) a) λb=>dB (eJ cx mask e (.tmp c)) λd=>Z6 b d:=by
 show(dB (oY cx mask e a) λa=>dB (eJ cx mask e (.tmp c)) λd=>match d with
  | .func g f=>dB (Cv a f) λb=>some (kx.call g b)
  |_=>none)=_
 simp only[Fg,oO,dD]
 rfl
@[simp] theorem ads (a:List ah) (b:ab):iO (.call ⟨.builtin .len,a.toArray,#[b]⟩) cx mask e h=dB (eK (eJ cx mask e) a) λc=>(match c with| [d]=>Lm cx h [b] d|_=>none):=rfl
def Cg(cx:Ctx)(h:H)(g:Ty)(a:T):aa kx:=match g.u with
 | .str=>(match a with| .str f=>some (.val (.int .i64 f.length) h)|_=>none)
 | .slice _=>(match a with
  | .dq b _=>some (.val (.int .i64 b.length) h)
  | .fg=>some (.val (.int .i64 0) h)
  | .arr _ _ _ c _=>some (.val (.int .i64 c) h)
  |_=>none)
 | .array d _=>some (.val (.int .i64 d) h)
 |_=>none
theorem Ad(b:Ty)(a:T):Cg cx h b a=(match b.u with
 | .str=>(match a with| .str g=>some (.val (.int .i64 g.length) h)|_=>none)
 | .slice _=>(match a with
  | .dq c _=>some (.val (.int .i64 c.length) h)
  | .fg=>some (.val (.int .i64 0) h)
  | .arr _ _ _ d _=>some (.val (.int .i64 d) h)
  |_=>none)
 | .array f _=>some (.val (.int .i64 f) h)
 |_=>none):=rfl
@[simp] theorem Y2 (b:Ty) (a:List Nat) (c:b.u= .str):Cg cx h b (.str a)=some (.val (.int .i64 a.length) h):=by rw[Ad,c]
@[simp] theorem CW (b:Ty) (a:List T) (c:Bool) (f:ab) (d:b.u= .slice f):Cg cx h b (.dq a c)=some (.val (.int .i64 a.length) h):=by rw[Ad,d]
@[simp] theorem KX (a:Ty) (c:ab) (b:a.u= .slice c):Cg cx h a .fg=some (.val (.int .i64 0) h):=by rw[Ad,b]
@[simp] theorem Ny (b:Ty) (c d i a:Nat) (f:Bool) (j:ab) (g:b.u= .slice j):Cg cx h b (.arr c d i a f)=some (.val (.int .i64 a) h):=by rw[Ad,g]
@[simp] theorem aco (a:ab) (c:T):Lm cx h [a] c=dB (cx.ty a) λb=>Cg cx h b c:=by
 show(dB (kW [a] 0) λa=>dB (cx.ty a) λb=>_)=_
 simp only[j9,List.getElem?_cons_zero,dD]
 congr 1;funext b
 unfold Cg
 cases b.u<;>first|rfl|(cases c<;>first|rfl|(simp;try rfl))
@[simp] theorem ado (a:List ah) (b:af ab):iO (.call ⟨.builtin .min,a.toArray,b⟩) cx mask e h=dB (eK (eJ cx mask e) a) λc=>kH .min cx h b.toList c:=rfl
@[simp] theorem adp (a:List ah) (b:af ab):iO (.call ⟨.builtin .max,a.toArray,b⟩) cx mask e h=dB (eK (eJ cx mask e) a) λc=>kH .max cx h b.toList c:=rfl
@[simp] theorem adA (f:List ab) (c:ak) (a b:Int):kH .min cx h f [.int c a,.int c b]=some (.val (.int c (min a b)) h):=by
 show val h (fy (B5 c c) (wy c (@Bool.rec (λ_=>Int) a b (Jq b a))))=_
 rw[qJ,fO,nM,vj]
 simp only[w9,ar,kx.val.injEq,T.int.injEq,true_and,and_true]
 by_cases d:b<a
 ·rw[bw d];show b=min a b;omega
 ·rw[bg d];show a=min a b;omega
@[simp] theorem adB (f:List ab) (c:ak) (a b:Int):kH .max cx h f [.int c a,.int c b]=some (.val (.int c (max a b)) h):=by
 show val h (fy (B5 c c) (wy c (@Bool.rec (λ_=>Int) a b (Jq a b))))=_
 rw[qJ,fO,nM,vj]
 simp only[w9,ar,kx.val.injEq,T.int.injEq,true_and,and_true]
 by_cases d:a<b
 ·rw[bw d];show b=max a b;omega
 ·rw[bg d];show a=max a b;omega
end
end
noncomputable section
abbrev hE:H:=⟨0,0,[]⟩
structure ER(P:ai)(cx:Ctx)(f:aj)(fn:Func)(mask:Nat)(dl:DL):Prop where
 at_:P.funcs[f]? =some fn
 ok:vY ⟨fn,mask,false,none⟩=true
 dr:lU dl (fn.body.getD .skip)=true
def mO(a:eZ):Nat->List T->Prop
 |_,[]=>True
 |i,b::c=>dt a i=some b/\mO a (i+1) c
@[simp] theorem VN (b:eZ) (a:Nat):mO b a []=True:=rfl
@[simp] theorem Te (b:eZ) (a:Nat) (c:T) (d:List T):mO b a (c::d)=(dt b a=some c/\mO b (a+1) d):=rfl
theorem lJ(mask:Nat):∀(d a:Nat) (f:List T),f.length<=d->∃b,lz mask d a f=some b/\(∀c,c<a->dt b c=none)/\mO b a f:=by
 intro d
 induction d with
 |zero=>
  intro a f hl
  have:f=[]:=bh (by omega)
  subst this
  exact⟨.nil,rfl,λ_ _=>rfl,trivial⟩
 |succ d q=>
  intro a f hl
  have s:∀(e:List T) (b:eZ) (c:Nat) (m:T) (g:Nat),c<g->mO b g e->mO (.cons c m b) g e:=by
   intro e
   induction e with
   |nil=>intro _ _ _ _ _ _;trivial
   |cons l e r=>
    intro b c m g t o
    exact⟨by rw[kL,ao (by omega)];exact o.1,r b c m (g+1) (by omega) o.2⟩
  cases f with
  |nil=>
   obtain⟨b,i,j,n⟩:=q (a+1) [] (by simp)
   show∃b,(dB (fF (Nat.succ a)) λk=> @Bool.rec (λ_=>aa eZ) (lz mask d k []) (dB (lz mask d k []) λh=>some (.cons a .undef h)) (jJ mask a))=some b/\_
   rw[gD,dD]
   cases jJ mask a with
   |false=>exact⟨b,i,λc p=>j c (by omega),trivial⟩
   |true=>
    refine⟨.cons a .undef b,?_,λc p=> ?_,trivial⟩
    ·show(dB (lz mask d (a+1) []) λh=>some (eZ.cons a .undef h))=_
     rw[i];rfl
    ·rw[kL,ao (by omega)];exact j c (by omega)
  |cons l e=>
   obtain⟨b,i,j,n⟩:=q (a+1) e (by simp at hl;omega)
   refine⟨.cons a l b,?_,λc p=> ?_,?_,s _ _ _ _ _ (by omega) n⟩
   ·show(dB (fF (Nat.succ a)) λk=>dB (lz mask d k e) λh=>some (eZ.cons a l h))=_
    rw[gD,dD,i];rfl
   ·rw[kL,ao (by omega)];exact j c (by omega)
   ·rw[kL,aq rfl]
def yQ(cx:Ctx)(mask:Nat)(d:List ResultVar)(e:eZ)(b:H)(c:List T->Prop):Prop:=∃a,kq cx mask ⟨e,.nil⟩ b d=some a/\c a
section
variable {P:ai}{cx:Ctx}{cf:ir}{mask:Nat}
@[simp] theorem aaq (e:eZ) (c:H) (b:List T->Prop):yQ cx mask [] e c b=b []:=by
 apply propext;constructor
 ·rintro⟨d,hl,a⟩
  have hl:some []=some d:=hl
  simp only[ar]at hl;subst hl;exact a
 ·exact λa=>⟨[],rfl,a⟩
def WV(c:aa T)(b:T->Prop):Prop:=∃a,c=some a/\b a
@[simp] theorem acw (b:T) (d:T->Prop):WV (some b) d=d b:=by
 apply propext;constructor
 ·rintro⟨e,c,a⟩
  simp only[ar]at c;subst c;exact a
 ·exact λa=>⟨b,rfl,a⟩
theorem De(k:ResultVar)(l:List ResultVar)(b:eZ)(c:H)(i:List T->Prop):yQ cx mask (k::l) b c i=
 WV (ResultVar.casesOn k (λh=>Env.get mask ⟨b,.nil⟩ h) (λm h=>dB (Env.get mask ⟨b,.nil⟩ m) λn=>dB (cx.ty h) λo=>c.load o n)) λa=>yQ cx mask l b c λj=>i (a::j):=by
 apply propext
 unfold yQ WV kq
 simp only[jc]
 constructor
 ·rintro⟨j,hl,d⟩
  obtain⟨a,f,hl⟩:=dj.1 hl
  obtain⟨g,e,hl⟩:=dj.1 hl
  simp only[ar]at hl;subst hl
  exact⟨a,f,g,e,d⟩
 ·rintro⟨a,f,g,e,d⟩
  refine⟨a::g,?_,d⟩
  rw[f,dD,e];rfl
@[simp] theorem aap (e:Tmp) (d:List ResultVar) (a:eZ) (b:H) (c:List T->Prop):yQ cx mask (.tmp e::d) a b c=WV (Env.get mask ⟨a,.nil⟩ e) λg=>yQ cx mask d a b λf=>c (g::f):=De _ d a b c
@[simp] theorem Xa (e:Tmp) (f:ab) (d:List ResultVar) (b:eZ) (a:H) (c:List T->Prop):yQ cx mask (.cell e f::d) b a c=WV (dB (Env.get mask ⟨b,.nil⟩ e) λh=>dB (cx.ty f) λi=>a.load i h) λj=>yQ cx mask d b a λg=>c (j::g):=De _ d b a c
def zv(cx:Ctx)(mask:Nat)(e:List ResultVar)(d:List T->H->Prop):gU:=
 ⟨λb a=>yQ cx mask e b.vars a λc=>d c a,λ_ _ _=>False,λb a=>yQ cx mask e b.vars a λc=>d c a⟩
@[simp] theorem adS (d:List ResultVar) (c:List T->H->Prop) (b:Env) (a:H):(zv cx mask d c).n b a=yQ cx mask d b.vars a λe=>c e a:=rfl
@[simp] theorem adR (d:List ResultVar) (c:List T->H->Prop) (b:Env) (a:H):(zv cx mask d c).r b a=yQ cx mask d b.vars a λe=>c e a:=rfl
@[simp] theorem adQ (e:List ResultVar) (d:List T->H->Prop) (c:Nat) (a:Env) (b:H):(zv cx mask e d).x c a b=False:=rfl
theorem BX{g:Out}{h:List ResultVar}{f:List T->H->Prop}(i:W g (zv cx mask h f)):∃c b a,g=some (c,b,a)/\(c= .normal\/c= .ret)/\yQ cx mask h b.vars a λj=>f j a:=by
 obtain⟨c,b,a,e,d⟩:=i
 cases c with
 |normal=>exact⟨_,b,a,e,.inl rfl,d⟩
 |exit k=>exact d.elim
 |ret=>exact⟨_,b,a,e,.inr rfl,d⟩
theorem nI{j:List ResultVar}{a:Env}{g:H}{k:List T}(hl:kq cx mask ⟨a.vars,.nil⟩ g j=some k):kq cx mask a g j=some k:=by
 unfold kq at*
 induction j generalizing k with
 |nil=>exact hl
 |cons n j s=>
  rw[jc]at hl|-
  obtain⟨b,e,hl⟩:=dj.1 hl
  obtain⟨t,o,hl⟩:=dj.1 hl
  simp only[ar]at hl;subst hl
  have m:∀l b,Env.get mask ⟨a.vars,.nil⟩ l=some b->Env.get mask a l=some b:=by
   intro l b i
   obtain⟨v,u⟩:=a
   rw[Af]at i|-
   split at i
   ·rename_i p;rw[aq p];exact i
   ·simp[CV]at i
  have r:(@ResultVar.rec (λ_=>aa T) (λc=>Env.get mask a c) (λf c=>dB (Env.get mask a f) λd=>dB (cx.ty c) λh=>g.load h d) n)=some b:=by
   cases n with
   |tmp c=>exact m c b e
   |cell f c=>
    have e:(dB (Env.get mask ⟨a.vars,.nil⟩ f) λd=>dB (cx.ty c) λh=>g.load h d)=some b:=e
    obtain⟨d,q,e⟩:=dj.1 e
    show(dB (Env.get mask a f) λd=>dB (cx.ty c) λh=>g.load h d)=some b
    rw[m f d q];exact e
  refine dj.2 ⟨b,r,dj.2 ⟨t,s o,rfl⟩⟩
end
theorem S6{l:Env->H->Out}(e:Nat)(g:Nat->eZ->H->Prop){k:gU}
 (p:∀a d b,a<=e->g a d b->W (l ⟨d,.nil⟩ b) (wK (λc b=>c.tmps= .nil/\a<e/\g (a+1) c.vars b) k)) {j:Nat} (r:e<j) {a:Nat} (i:a<=e) {d:eZ} {b:H} (h:g a d b):W (ni l j ⟨d,.nil⟩ b) k:=by
 refine OM (σ:=Nat) (I:=λa c b=>a<=e/\c.tmps= .nil/\g a c.vars b) (m:=λa=>e-a) ?_ j a _ _ (by omega) ⟨i,rfl,h⟩
 rintro a ⟨d,t⟩ b ⟨i,ht,h⟩
 simp only at ht h
 subst ht
 obtain⟨n,c,o,q,f⟩:=p a d b i h
 refine⟨n,c,o,q,?_⟩
 cases n with
 |normal=>exact⟨a+1,by have:=f.2.1;omega,by have:=f.2.1;omega,f.1,f.2.2⟩
 |exit s=>exact f
 |ret=>exact f
@[simp] theorem ae9:Hp hE=True:=by simp[Hp]
@[simp] theorem aaw (b:H) (c:iE):Hp (b.cons c)=Hp b:=by
 apply propext
 constructor
 ·intro a;unfold Hp at*;simp[H.cons]at a;exact a
 ·exact λa=>Q2 a c
end
noncomputable section
mutual
def cn:T->T
 | .dq b c=>(match b with| []=> .fg|e::b=> .dq (Vb (e::b)) false)
 | .agg a=> .agg (Vb a)
 | .tuple a=> .tuple (Vb a)
 |v=>v
def Vb:List T->List T
 | []=>[]
 |x::a=>cn x::Vb a
end
theorem ED:∀a:List T,Vb a=a.map cn
 | []=>by rw[Vb];rfl
 |x::b=>by rw[Vb,ED b];rfl
theorem mE(a:List T)(b:Bool):cn (.dq a b)=sl (a.map cn):=by
 cases a with
 |nil=>rw[cn];rfl
 |cons c a=>rw[cn,ED];rfl
theorem jt(a:List T):cn (.agg a)= .agg (a.map cn):=by rw[cn,ED]
theorem sX(a:List T):cn (.tuple a)= .tuple (a.map cn):=by rw[cn,ED]
@[simp] theorem N2:cn .undef= .undef:=by simp[cn]
@[simp] theorem JO (a:Bool):cn (.bool a)=(.bool a):=by simp[cn]
@[simp] theorem EC (a:ak) (b:Int):cn (.int a b)=(.int a b):=by simp[cn]
@[simp] theorem EB (a:List Nat):cn (.str a)=(.str a):=by simp[cn]
@[simp] theorem JL:cn .jz= .jz:=by simp[cn]
@[simp] theorem U8 (a b c d:Nat):cn (.ptr a b c d)=(.ptr a b c d):=by simp[cn]
@[simp] theorem JJ (a:List T):cn (.iT a)=(.iT a):=by simp[cn]
@[simp] theorem GA:cn .fg= .fg:=by simp[cn]
@[simp] theorem Va (a b e d:Nat) (c:Bool):cn (.arr a b e d c)=(.arr a b e d c):=by simp[cn]
@[simp] theorem QB (b:aj) (a:List T):cn (.func b a)=(.func b a):=by simp[cn]
@[simp] theorem JN:cn .j3= .j3:=by simp[cn]
@[simp] theorem JM:cn .ka= .ka:=by simp[cn]
@[simp] theorem N4 (a:ab) (b:T):cn (.iface a b)=(.iface a b):=by simp[cn]
@[simp] theorem QA (a:Nat):cn (.iter a)=(.iter a):=by simp[cn]
@[simp] theorem U9 (a:Nat):cn (.map a)=(.map a):=by simp[cn]
@[simp] theorem Qz:cn .mL= .mL:=by simp[cn]
theorem C7(a:T):(cn a).scalar=a.scalar:=by
 cases a with
 |dq c d=>rw[mE];cases c<;>rfl
 |agg b=>rw[jt];rfl
 |tuple b=>rw[sX];rfl
 |_=>simp
theorem GC(a:T):(cn a).cells=a.cells.map cn:=by
 cases a with
 |dq c d=>rw[mE];cases c<;>(show [_]=[_];rw[mE])
 |agg b=>rw[jt];rfl
 |tuple b=>rw[sX];show [_]=[_];rw[sX]
 |_=>simp[T.cells]
theorem QC(a:List T):d6 (a.map cn)=(d6 a).map cn:=by
 induction a with
 |nil=>rfl
 |cons c a b=>
  unfold d6 at*
  simp only[aU,aO,b,GC,List.map_append]
theorem jT.cn{a:T}(c:jT a):jT (cn a):=by
 induction c with
 |dq b n _ f=>
  rw[mE]
  cases b with
  |nil=>exact .fg
  |cons j b=>
   exact .dq _ _ (λa d=>by
    obtain⟨g,e,rfl⟩:=List.mem_map.1 (show a∈(j::b).map Go.TI.cn from d)
    exact f g e)
 |agg h _ f=>
  rw[jt]
  exact .agg _ (λa d=>by
   obtain⟨g,e,rfl⟩:=List.mem_map.1 d
   exact f g e)
 |iT h c=>rw[JJ];exact .iT h c
 |bool i=>rw[JO];exact .bool i
 |int k l=>rw[EC];exact .int k l
 |str m=>rw[EB];exact .str m
 |jz=>rw[JL];exact .jz
 |fg=>rw[GA];exact .fg
 |j3=>rw[JN];exact .j3
 |ka=>rw[JM];exact .ka
theorem eg.cn{hp:af Obj}{μ:Mu}{e:T}{s:am}(d:eg hp μ e s):eg hp μ (cn e) s:=by
 induction d with
 |mP x g=>rw[mE];exact .fg g 0
 |dq m n x t off u N arr r fz B A hl Q H i p hr k=>
  rw[mE]
  show eg hp μ (.dq (Go.TI.cn m::n.map Go.TI.cn) false) _
  have z:d6 (Go.TI.cn m::n.map Go.TI.cn)=(d6 (m::n)).map Go.TI.cn:=QC (m::n)
  have:=eg.dq (hp:=hp) (μ:=μ) (Go.TI.cn m) (n.map Go.TI.cn) false t off u N arr r fz B A (by simpa using hl) (by simp) (λe j=> ?_) ?_ ?_ ?_
  ·simpa using this
  ·have j:e∈(m::n).map Go.TI.cn:=j
   obtain⟨c,b,rfl⟩:=List.mem_map.1 j
   rw[GC,aH];exact H c b
  ·rw[z,aH];exact i
  ·intro e j
   rw[z]at j
   obtain⟨c,b,rfl⟩:=List.mem_map.1 j
   exact⟨by rw[C7];exact(p c b).1,(p c b).2.cn⟩
  ·intro f e a
   rw[z,aT]at a
   cases b:(d6 (m::n))[f]? with
   |none=>rw[b]at a;simp at a
   |some c=>rw[b]at a;simp at a;subst a;exact k f c b
 |agg v q i p hr k=>
  rw[jt]
  refine .agg _ q (by simpa using i) (λe j=> ?_) λf e a=> ?_
  ·obtain⟨c,b,rfl⟩:=List.mem_map.1 j
   rw[C7];exact p c b
  ·rw[aT]at a
   cases b:v[f]? with
   |none=>rw[b]at a;simp at a
   |some c=>rw[b]at a;simp at a;subst a;exact k f c b
 |tuple O q i hr k=>
  rw[sX]
  refine .tuple _ q (by simpa using i) λf e a=> ?_
  rw[aT]at a
  cases b:O[f]? with
  |none=>rw[b]at a;simp at a
  |some c=>rw[b]at a;simp at a;subst a;exact k f c b
 |iT v t off arr r fz B A i p hr k=>rw[JJ];exact .iT v t off arr r fz B A i p hr
 |undef=>rw[N2];exact .undef
 |bool h=>rw[JO];exact .bool h
 |int f K=>rw[EC];exact .int f K
 |str M d=>rw[EB];exact .str M d
 |jz=>rw[JL];exact .jz
 |ptr h w C I l g o y G=>rw[U8];exact .ptr h w C I l g o y G
 |fg g u=>rw[GA];exact .fg g u
 |arr h w L J x l g E o y hl d=>rw[Va];exact .arr h w L J x l g E o y hl d
 |func F D q i hr k=>rw[QB];exact .func F D q i hr
 |j3=>rw[JN];exact .j3
 |ka=>rw[JM];exact .ka
 |iface r e s d k=>rw[N4];exact .iface r e s d
 |iter h l g o d=>rw[QA];exact .iter h l g o d
 |map h l C o d=>rw[U9];exact .map h l C o d
 |mL=>rw[Qz];exact .mL
theorem fI.cn{f:af Obj}{h:Mu}{c:List T}{d:List am}(e:fI f h c d):fI f h (c.map Go.TI.cn) d:=by
 refine⟨by simpa using e.1,λg j a=> ?_⟩
 rw[aT]at a
 cases b:c[g]? with
 |none=>rw[b]at a;simp at a
 |some i=>rw[b]at a;simp at a;subst a;exact(e.2 g i b).cn
mutual
def lm:T->Bool
 | .bool _| .int _ _| .str _| .jz| .j3| .ka| .mL| .fg=>true
 | .agg a=>nO a
 | .tuple a=>nO a
 |_=>false
def nO:List T->Bool
 | []=>true
 |x::a=>lm x&&nO a
end
theorem y9{a:List T}(c:nO a=true):∀b∈a,lm b=true:=by
 induction a with
 |nil=>intro b hx;simp at hx
 |cons e a d=>
  intro b hx
  rw[nO,ay]at c
  rcases List.mem_cons.1 hx with rfl|hx
  ·exact c.1
  ·exact d c.2 b hx
theorem eg.plain{n o:af Obj}{r s:Mu}{a:T}{i:am}(f:eg n r a i)(c:lm a=true):eg o s a i:=by
 induction f with
 |bool k=>exact .bool k
 |int d p=>exact .int d p
 |str q f=>exact .str q f
 |jz=>exact .jz
 |j3=>exact .j3
 |ka=>exact .ka
 |mL=>exact .mL
 |fg j l=>exact .fg j l
 |agg t e g m hr h=>
  rw[lm]at c
  exact .agg _ e g m λd a b=>h d a b (y9 c a (az b))
 |tuple u e g hr h=>
  rw[lm]at c
  exact .tuple _ e g λd a b=>h d a b (y9 c a (az b))
 |_=>simp[lm]at c
section
variable {P:ai}{cx:Ctx}
theorem Lu{b:Mu}{a:Nat}:mG (lF 0 b) a↔b.mH a:=by
 constructor
 ·rintro(⟨e,d,c,_⟩|hr)
  ·exact absurd (jF c).1 (by omega)
  ·exact hr
 ·exact λhr=> .inr hr
theorem Kr{y:aj}{o k:List T}{w:T}{s:H}(E:kO P cx y (k.map cn) w)(u:eK (jP s 0) o=some k)(hr:lm w=true):pJ P cx ⟨y,o,s,w,s⟩:=by
 intro V d f x b A
 have D:fI d.heap (lF 0 f) k x.toList:=by
  have z:gG (λj R=>∀p,eg d.heap f j p->eg d.heap (lF 0 f) R p) o k:=gG.map (λn m Z M p F=>pB b F M) u
  refine⟨by rw[<-z.length];exact A.1,λN j I=> ?_⟩
  obtain⟨n,m,u⟩:=z.get I
  exact u _ (A.2 N n m)
 have Q:St cx d.heap.size d.heap (lF 0 f) hE:=by
  refine⟨rfl,au _,λh e c=>absurd (jF c).1 (by omega),λh U e S c=>absurd (jF c).1 (by omega),λh e c=>absurd (jF c).1 (by omega),λh e c=>absurd (jF c).1 (by omega),λa hr=>b.pM a hr,λr q v=> ?_⟩
  have:=b.xz r q v
  refine this.cut ?_
  obtain⟨_,_,_,_,_,_,_,_,_,K,_⟩:=this.kX
  exact .iT _ λj L=>(K j L).2.low 0
 refine(E d.heap.size d (lF 0 f) x hE Q D.cn).mono λj C ⟨⟨ae,O,W,g,X⟩,Y⟩=> ?_
 have B:∀a,a<d.heap.size->¬f.mH a->C.heap[a]? =d.heap[a]? :=λa i l=>(g.ext.wF a i λG=>l (Lu.1 G)).1
 have t:Ext d.heap f C.heap f:=by
  refine⟨g.ext.size,λa i l=>⟨B a i λhr=>l (.inr hr),l⟩,λh e c=>⟨e,c,.inl rfl⟩,rfl,λa i hr=>g.ext.kept a i hr⟩
 refine⟨⟨f,O.plain hr,⟨b.wf,aS b.fit g.ext.size,λh e c=> ?_,b.inj,b.low,b.apart,λa hr=>bD (b.pM a hr) g.ext.size,λr q v=>(b.xz r q v).ext t⟩,⟨t,g.os,g.tape,g.output⟩,wZ.refl _ _⟩,kv.refl b.wf⟩
 obtain⟨n,m,J⟩:=b.box h e c
 exact⟨n,m,J.ext t (B e.io (b.lt c) (b.apart h e c))⟩
theorem Kq{c:aj}{b:List T}{d:T}{a:H}(h:kO P cx c (b.map cn) d):pJ P cx ⟨c,b,a,d,a⟩:=
 λe j k f i g=>h e j k f a i g.cn
structure fK where
 α:Type
 A:α->List T
 pre:α->Prop
 R:α->T
 inj:∀a b,A a=A b->R a=R b
structure kw where
 pre:List T->H->Prop
 post:List T->H->T->H->Prop
structure eG where
 p:aj->aa fK
 h:aj->aa kw
open Classical in
def rl(P:ai)(cx:Ctx)(f:eG)(d:aj)(c:List T):aa T:=match f.p d with
 |none=>none
 |some a=>if e:∃b,a.pre b/\a.A b=c/\kO P cx d c (a.R b)then some (a.R e.choose)else none
open Classical in
def hl(P:ai)(cx:Ctx)(g:eG)(c:aj)(b:List T)(d:H):aa (T×H):=match g.h c with
 |none=>none
 |some e=>if f:∃a:T×H,e.post b d a.1 a.2/\pJ P cx ⟨c,b,d,a.1,a.2⟩then some f.choose else none
def vC(h:H)(d:Nat)(v:T):aa T:=dB (freeze h 0 d v) λv=>some (cn v)
def fz(b:H)(a:T):aa T:=dB (iK b 0 a) λa=>some (cn a)
def pq(b:H)(a:T):aa T:=dB (jP b 0 a) λa=>some (cn a)
def Ox(b:H)(a:List T):aa (List T):=eK (pq b) a
mutual
def jv:T->Bool
 | .bool _| .int _ _| .str _| .jz| .dq _ _| .fg| .j3| .ka=>true
 | .agg a=>nH a
 |_=>false
def nH:List T->Bool
 | []=>true
 |x::a=>jv x&&nH a
end
def p9(P:ai)(cx:Ctx)(d:eG):ir:=λc a b=>match Ox b a with
 |none=>hl P cx d c a b
 |some f=>match rl P cx d c f with
  |none=>hl P cx d c a b
  |some e=>if(lm e||nH a)=true then some (e,b)else hl P cx d c a b
theorem qG{f g j:Type}(b:f->aa g)(d:g->j):∀a:List f,eK (λc=>dB (b c) λe=>some (d e)) a=dB (eK b a) λi=>some (i.map d):=by
 intro a
 induction a with
 |nil=>rfl
 |cons c a h=>
  rw[jc,jc,h]
  cases b c with
  |none=>rfl
  |some e=>simp only[dD];cases eK b a<;>rfl
theorem GW{e:H}{c d:List T}(a:Ox e c=some d):∃b,eK (jP e 0) c=some b/\d=b.map cn:=by
 unfold Ox pq at a
 rw[qG]at a
 obtain⟨b,hl,a⟩:=dj.1 a
 simp only[ar]at a
 exact⟨b,hl,a.symm⟩
mutual
theorem rE(e:H)(g d:Nat):(b:T)->jv b=true->(∀c,b≠ .agg c)->freeze e g (d+1) b=some b
 | .bool _,_,_=>rfl
 | .int _ _,_,_=>rfl
 | .str _,_,_=>rfl
 | .jz,_,_=>rfl
 | .dq _ _,_,_=>rfl
 | .fg,_,_=>rfl
 | .j3,_,_=>rfl
 | .ka,_,_=>rfl
 | .agg c,_,f=>absurd rfl (f c)
 | .undef,a,_=>by simp[jv]at a
 | .ptr ..,a,_=>by simp[jv]at a
 | .iT _,a,_=>by simp[jv]at a
 | .arr ..,a,_=>by simp[jv]at a
 | .func ..,a,_=>by simp[jv]at a
 | .iface ..,a,_=>by simp[jv]at a
 | .iter _,a,_=>by simp[jv]at a
 | .map _,a,_=>by simp[jv]at a
 | .mL,a,_=>by simp[jv]at a
 | .tuple _,a,_=>by simp[jv]at a
end
theorem pF(b:H){a:T}(c:jv a=true)(e:∀d,a≠ .agg d):iK b 0 a=some a:=by
 have:=rE b 0 11 a c e
 cases a<;>first|exact this|(simp[jv]at c)
theorem AD{a:List T}(c:nH a=true):∀b∈a,jv b=true:=by
 induction a with
 |nil=>intro b hx;simp at hx
 |cons e a d=>
  intro b hx
  rw[nH,ay]at c
  rcases List.mem_cons.1 hx with rfl|hx
  ·exact c.1
  ·exact d c.2 b hx
theorem Ow{b:H}{a e:List T}{base:Nat}{o:af Obj}{t:Mu}{j:List am}(m:fI o t a j)(p:nH a=true)(n:Ox b a=some e):e=a.map cn:=by
 obtain⟨v,hl,rfl⟩:=GW n
 have:eK (jP b 0) a=some a:=by
  refine rx λh f=> ?_
  have d:=AD p h f
  obtain⟨w,r⟩:=m.mem f
  cases h with
  |agg l=>
   show(dB (eK (iK b 0) l) λs=>some (T.agg s))=_
   obtain⟨u,rfl,_,q⟩:=r.oK
   rw[rx λi g=>pF b (AD (by rw[jv]at d;exact d) i g) (λk c=>by have:=q i g;rw[c]at this;simp[T.scalar]at this)]
   rfl
  |_=>exact pF b d (λk c=>by simp at c)
 rw[this]at hl
 simp only[ar]at hl
 rw[hl]
theorem E6{f:eG}{c:aj}{b:List T}{d:T}(a:rl P cx f c b=some d):kO P cx c b d:=by
 unfold rl at a
 split at a
 ·simp at a
 ·split at a
  ·rename_i e
   simp only[ar]at a;subst a
   exact e.choose_spec.2.2
  ·simp at a
theorem Bg{h:eG}{c:aj}{b:List T}{d e:H}{f:T}(a:hl P cx h c b d=some (f,e)):pJ P cx ⟨c,b,d,f,e⟩:=by
 unfold hl at a
 split at a
 ·simp at a
 ·split at a
  ·rename_i g
   simp only[ar]at a
   have:=g.choose_spec.2
   rw[a]at this;exact this
  ·simp at a
theorem BJ(P:ai)(cx:Ctx)(j:eG):mN P cx (p9 P cx j):=by
 intro m k n q o a base f g d e b
 unfold p9 at a
 split at a
 ·exact Bg a base f g d e b
 ·rename_i l h
  split at a
  ·exact Bg a base f g d e b
  ·rename_i r hr
   split at a
   ·rename_i c
    simp only[ar,ax]at a
    obtain⟨rfl,rfl⟩:=a
    rw[bR]at c
    rcases c with c|c
    ·obtain⟨p,hl,rfl⟩:=GW h
     exact Kr (E6 hr) hl c base f g d e b
    ·have i:=Ow (base:=base) b c h
     subst i
     exact Kq (E6 hr) base f g d e b
   ·exact Bg a base f g d e b
def fK.Ok(P:ai)(cx:Ctx)(c:aj)(b:fK):Prop:=∀a,b.pre a->kO P cx c (b.A a) (b.R a)
theorem fR{g:eG}{c:aj}{a:fK}(ht:g.p c=some a)(h:a.Ok P cx c)(b:a.α)(e:a.pre b):rl P cx g c (a.A b)=some (a.R b):=by
 have f:∃d,a.pre d/\a.A d=a.A b/\kO P cx c (a.A b) (a.R d):=⟨b,e,rfl,h b e⟩
 unfold rl
 rw[ht]
 simp only
 rw[dif_pos f,a.inj _ _ f.choose_spec.2.1]
def kw.Ok(P:ai)(cx:Ctx)(f:aj)(c:kw):Prop:=∀a b,c.pre a b->∃e d,c.post a b e d/\pJ P cx ⟨f,a,b,e,d⟩
theorem Js{tb:eG}{d:aj}{c:kw}(ht:tb.h d=some c)(l:c.Ok P cx d){a:List T}{b:H}(m:c.pre a b):∃i e,hl P cx tb d a b=some (i,e)/\c.post a b i e:=by
 obtain⟨i,e,j,k⟩:=l a b m
 have f:∃g:T×H,c.post a b g.1 g.2/\pJ P cx ⟨d,a,b,g.1,g.2⟩:=⟨(i,e),j,k⟩
 refine⟨f.choose.1,f.choose.2,?_,f.choose_spec.1⟩
 unfold hl
 rw[ht]
 simp only
 rw[dif_pos f]
theorem zW{b:eG}{a:aj}(ht:b.p a=none)(c:List T):rl P cx b a c=none:=by unfold rl;rw[ht]
def Z8(e:aa T)(c:Bool)(d:H)(a:aa (T×H)):aa (T×H):=match e with
 |none=>a
 |some b=>if(lm b||c)=true then some (b,d)else a
@[simp] theorem Z7 (b:Bool) (c:H) (a:aa (T×H)):Z8 none b c a=a:=id rfl
@[simp] theorem N7 (a:T) (b:Bool) (c:H) (d:aa (T×H)):Z8 (some a) b c d=if(lm a||b)=true then some (a,c)else d:=id rfl
def cfW(P:ai)(cx:Ctx)(e:eG)(c:aj)(a:List T)(d:H)(b:aa (List T)):aa (T×H):=match b with
 |none=>hl P cx e c a d
 |some b=>Z8 (rl P cx e c b) (nH a) d (hl P cx e c a d)
@[simp] theorem N6 (d:eG) (b:aj) (a:List T) (c:H):cfW P cx d b a c none=hl P cx d b a c:=id rfl
@[simp] theorem N5 (d:eG) (b:aj) (a e:List T) (c:H):cfW P cx d b a c (some e)=Z8 (rl P cx d b e) (nH a) c (hl P cx d b a c):=id rfl
theorem N8(d:eG)(c:aj)(a:List T)(b:H):p9 P cx d c a b=cfW P cx d c a b (Ox b a):=by
 unfold p9 cfW Z8
 cases Ox b a with
 |none=>rfl
 |some e=>rfl
end
end
noncomputable section
section
variable {cx:Ctx}{h:H}
@[simp] theorem ad0 (a:ak) (b:Int):fz h (.int a b)=some (.int a b):=id rfl
@[simp] theorem abj (a:Bool):fz h (.bool a)=some (.bool a):=id rfl
@[simp] theorem adY (a:List Nat):fz h (.str a)=some (.str a):=id rfl
@[simp] theorem abg:fz h .jz=some .jz:=id rfl
@[simp] theorem ZH:fz h .fg=some .fg:=id rfl
@[simp] theorem abh:fz h .j3=some .j3:=id rfl
@[simp] theorem Jv (a:List T) (b:Bool):fz h (.dq a b)=some (sl (a.map cn)):=by
 show some (cn (.dq a b))=_;rw[mE]
@[simp] theorem UL (a b c d:Nat):fz h (.ptr a b c d)=none:=by
 unfold fz iK;simp
@[simp] theorem abi (b:aj) (a:List T):fz h (.func b a)=none:=id rfl
@[simp] theorem abp (c:Nat) (a:ak) (b:Int):vC h (c+1) (.int a b)=some (.int a b):=id rfl
@[simp] theorem ZP (b:Nat) (a:Bool):vC h (b+1) (.bool a)=some (.bool a):=id rfl
@[simp] theorem abn (b:Nat) (a:List Nat):vC h (b+1) (.str a)=some (.str a):=id rfl
@[simp] theorem WF (a:Nat):vC h (a+1) .fg=some .fg:=id rfl
@[simp] theorem NI (c:Nat) (a:List T) (b:Bool):vC h (c+1) (.dq a b)=some (sl (a.map cn)):=by
 show some (cn (.dq a b))=_;rw[mE]
@[simp] theorem Qb (b:Nat) (a:List T):vC h (b+1) (.agg a)=dB (eK (vC h b) a) λc=>some (.agg c):=by
 show(dB (dB (eK (freeze h 0 b) a) λc=>some (T.agg c)) λd=>some (cn d))=_
 unfold vC
 rw[qG]
 cases eK (freeze h 0 b) a with
 |none=>rfl
 |some c=>simp[jt]
theorem fH(d e b c:Nat)(m:Bool):h.iy (.arr d e b c m)=dB (h.get d) λa=>fy (decide (a.ep=e)) (if a.it=true then none else if b+c<=a.dO.length then some ((a.dO.drop b).take c)else none):=by
 show(dB (h.get d) λa=>iE.casesOn a λ_ g _ _ f l=>fy (Nat.beq g e) (Bool.casesOn f (dB (je b l) λn=>takeN c n) none))=_
 cases h.get d with
 |none=>rfl
 |some a=>
  obtain⟨p,g,q,o,f,i⟩:=a
  simp only[dD,tU]
  congr 1
  cases f with
  |true=>rfl
  |false=>
   simp only[ci,bm,kZ,mS]
   by_cases j:b<=i.length
   ·rw[aq j,dD]
    by_cases k:b+c<=i.length
    ·rw[aq k,aq (by simp;omega)]
    ·rw[ao k,ao (by simp;omega)]
   ·rw[ao j,ao (by omega)];rfl
theorem wN(i a c e d:Nat)(k:Bool):vC h (i+1) (.arr a c e d k)=dB (h.iy (.arr a c e d k)) λf=>dB (eK (vC h i) f) λb=>some (sl b):=by
 have p:freeze h 0 (i+1) (.arr a c e d k)=fy (Nat.ble 0 a) (dB (h.get a) λg=>iE.casesOn g λ_ j _ exact l m=>
  fy (Nat.beq j c) (@Bool.rec (λ_=>aa T) (dB (dB (je e m) λb=>takeN d b) λf=>dB (eK (freeze h 0 i) f) λn=>
   @List.rec T (λ_=>aa T) (@List.rec T (λ_=>aa T) (@Bool.rec (λ_=>aa T) (some T.fg) (some (T.dq [] false)) exact) (λ_ _ _=>some T.fg) m) (λ_ _ _=>some (T.dq n k)) n) none l)):=rfl
 have q:h.iy (.arr a c e d k)=dB (h.get a) λg=>iE.casesOn g λ_ j _ _ l m=>fy (Nat.beq j c) (@Bool.rec (λ_=>aa (List T)) (dB (je e m) λb=>takeN d b) none l):=rfl
 unfold vC
 rw[p,q]
 rw[show Nat.ble 0 a=true by simp,fO]
 cases h.get a with
 |none=>rfl
 |some g=>
  obtain⟨r,j,s,o,l,f⟩:=g
  simp only[dD]
  cases Nat.beq j c with
  |false=>rfl
  |true=>
   simp only[fO]
   cases l with
   |true=>rfl
   |false=>
    simp only
    cases (dB (je e f) λb=>takeN d b)with
    |none=>rfl
    |some ZV=>
     simp only[dD]
     rw[qG]
     cases eK (freeze h 0 i) ZV with
     |none=>rfl
     |some vD=>
      simp only[dD]
      cases vD with
      |nil=>
       cases f with
       |nil=>cases o<;>simp[mE,sl]
       |cons=>simp[sl]
      |cons g b=>simp[mE]
@[simp] theorem uH (a b e d:Nat) (c:Bool):fz h (.arr a b e d c)=dB (h.iy (.arr a b e d c)) λf=>dB (eK (vC h 11) f) λg=>some (sl g):=by
 rw[<-wN]
 unfold fz vC iK
 simp only
 rw[show Nat.ble 0 a=true by simp]
theorem JK(a:List T):cn (sl a)=sl (a.map cn):=by
 cases a with
 |nil=>rfl
 |cons c b=>exact mE (c::b) false
theorem ZG(a:List T):fz h (sl a)=some (sl (a.map cn)):=by cases a<;>first|rfl|exact Jv _ _
theorem UM(b:Nat)(a:List T):vC h (b+1) (sl a)=some (sl (a.map cn)):=by cases a<;>first|rfl|exact NI b _ _
@[simp] theorem aek {d:Type} (a:d->T) (c:List d) (e:∀b,cn (a b)=a b):cn (sl (c.map a))=sl (c.map a):=by
 rw[JK,cG];congr 2;funext b;exact e b
@[simp] theorem adZ {d:Type} (a:d->T) (c:List d) (e:∀b,cn (a b)=a b):fz h (sl (c.map a))=some (sl (c.map a)):=by
 rw[ZG,cG];congr 3;funext b;exact e b
@[simp] theorem abo {d:Type} (e:Nat) (a:d->T) (c:List d) (f:∀b,cn (a b)=a b):vC h (e+1) (sl (c.map a))=some (sl (c.map a)):=by
 rw[UM,cG];congr 3;funext b;exact f b
@[simp] theorem A5 {e:Type} (c:T->aa T) (a:e->T) (d:List e) (f:∀b,c (a b)=some (a b)):eK c (d.map a)=some (d.map a):=rx λb g=>by
 obtain⟨i,_,rfl⟩:=List.mem_map.1 g;exact f i
@[simp] theorem Qa (a:List T):pq h (.agg a)=dB (eK (fz h) a) λb=>some (.agg b):=by
 show(dB (dB (eK (iK h 0) a) λb=>some (T.agg b)) λc=>some (cn c))=_
 unfold fz
 rw[qG]
 cases eK (iK h 0) a with
 |none=>rfl
 |some b=>simp[jt]
@[simp] theorem abm (a:ak) (b:Int):pq h (.int a b)=some (.int a b):=id rfl
@[simp] theorem ZM (a:Bool):pq h (.bool a)=some (.bool a):=id rfl
@[simp] theorem abk (a:List Nat):pq h (.str a)=some (.str a):=id rfl
@[simp] theorem ZK:pq h .jz=some .jz:=id rfl
@[simp] theorem WE:pq h .fg=some .fg:=id rfl
@[simp] theorem ZI (a:List T) (b:Bool):pq h (.dq a b)=fz h (.dq a b):=id rfl
@[simp] theorem ad1 (a:List T):pq h (sl a)=fz h (sl a):=by cases a<;>rfl
@[simp] theorem Em (a b e d:Nat) (c:Bool):pq h (.arr a b e d c)=fz h (.arr a b e d c):=id rfl
@[simp] theorem abl (a b c d:Nat):pq h (.ptr a b c d)=none:=UL (h:=h) a b c d
@[simp] theorem ZL (b:aj) (a:List T):pq h (.func b a)=none:=id rfl
@[simp] theorem acp:Ox h []=some []:=id rfl
@[simp] theorem aah (b:T) (a:List T):Ox h (b::a)=dB (pq h b) λd=>dB (Ox h a) λc=>some (d::c):=id rfl
@[simp] theorem TF:nH []=true:=by rw[nH]
@[simp] theorem Sd (b:T) (a:List T):nH (b::a)=(jv b&&nH a):=by rw[nH]
@[simp] theorem VW (a:ak) (b:Int):jv (.int a b)=true:=by rw[jv]
@[simp] theorem TH (a:Bool):jv (.bool a)=true:=by rw[jv]
@[simp] theorem VV (a:List Nat):jv (.str a)=true:=by rw[jv]
@[simp] theorem TG (a:List T) (b:Bool):jv (.dq a b)=true:=by rw[jv]
@[simp] theorem Se:jv .fg=true:=by rw[jv]
@[simp] theorem X3 (a:List T):jv (sl a)=true:=by cases a<;>simp[sl]
@[simp] theorem VY (a:List T):jv (.agg a)=nH a:=by rw[jv]
@[simp] theorem VX (a b e d:Nat) (c:Bool):jv (.arr a b e d c)=false:=by simp[jv]
@[simp] theorem SA:nO []=true:=by rw[nO]
@[simp] theorem Py (b:T) (a:List T):nO (b::a)=(lm b&&nO a):=by rw[nO]
@[simp] theorem TW (a:ak) (b:Int):lm (.int a b)=true:=by rw[lm]
@[simp] theorem SB (a:Bool):lm (.bool a)=true:=by rw[lm]
@[simp] theorem PA:lm .fg=true:=by rw[lm]
@[simp] theorem Pz (a:List T):lm (.tuple a)=nO a:=by rw[lm]
@[simp] theorem Jr (a:List T):mn (sl a)=lQ a:=by cases a<;>simp[sl]
@[simp] theorem aa2 {c:Type} (a:c->T) (b:List c) (d:∀e,mn (a e)=true):lQ (b.map a)=true:=KU a d b
@[simp] theorem N9 (a:List T):(sl a).cells=[sl a]:=by cases a<;>rfl
@[simp] theorem abd (a:List T):(sl a).fT=true:=by cases a<;>rfl
@[simp] theorem Zy (a b e d:Nat) (c:Bool):(T.arr a b e d c).fT=true:=id rfl
@[simp] theorem Zw (a b c d:Nat):(T.ptr a b c d).fT=true:=id rfl
@[simp] theorem WA:T.fg.fT=true:=id rfl
@[simp] theorem WZ (a b e d:Nat) (c:Bool):(T.arr a b e d c).cells=[.arr a b e d c]:=id rfl
@[simp] theorem WW (a b c d:Nat):(T.ptr a b c d).cells=[.ptr a b c d]:=id rfl
@[simp] theorem aa3 (b:Ty) (a:List T) (d:ab) (c:b.u= .slice d):Cg cx h b (sl a)=some (.val (.int .i64 a.length) h):=by cases a<;>simp[sl,c]
@[simp] theorem abb (c:Ty) (a:List T) (b:Nat):kG h c (sl a) b=dB (a[b]?) λd=>fy (decide (d.cells.length=c.size)) (some (.val (.iT d.cells) h)):=by cases a<;>simp[sl];rfl
@[simp] theorem ND (a:List T):h.iy (sl a)=some a:=by cases a<;>rfl
@[simp] theorem Uw (a:List T) (b:Bool):h.iy (.dq a b)=some a:=id rfl
@[simp] theorem Uv:h.iy .fg=some []:=id rfl
theorem x6{a b:List T}(c:sl a=sl b):a=b:=by
 cases a<;>cases b<;>simp[sl]at c
 ·rfl
 ·rw[c.1,c.2]
theorem ja{f:Type}{a:f->T}(g:∀d e,a d=a e->d=e){b c:List f}(i:sl (b.map a)=sl (c.map a)):b=c:=by
 have:=x6 i
 exact(List.map_inj_right g).1 this
@[simp] theorem dH (b:iE) (a:Nat):(h.cons b).get a=if a=h.size then some b else h.get a:=by
 rw[H.get_eq,H.get_eq]
 show(if a<h.size+1 then(b::h.ec)[h.size+1-1-a]? else none)=_
 by_cases c:a=h.size
 ·subst c;rw[aq (by omega),aq rfl];simp
 ·rw[ao c]
  by_cases d:a<h.size
  ·rw[aq (by omega),aq d,show h.size+1-1-a=(h.size-1-a)+1 by omega];simp
  ·rw[ao (by omega),ao d]
theorem dy{a:Nat}{x:iE}(n:h.get a=some x)(d:iE)(e:Nat):(dI h a d).get e=if e=a then some d else h.get e:=by
 have c:=uu n d
 generalize dI h a d=i at*
 obtain⟨b,j,f⟩:=h
 have l:a<b:=H.dL n
 have c:(fy (Nat.blt a b) (dB (kf f (Nat.sub (Nat.sub b 1) a) d) λk=> @Bool.rec (λ_=>aa H) (some ⟨b,j,k⟩) (some ⟨b,a,k⟩) (Nat.blt a j)))=some i:=c
 rw[show Nat.blt a b=true by rw[aG];exact l,fO,kh]at c
 by_cases hl:Nat.sub (Nat.sub b 1) a<f.length
 ·rw[aq hl,dD]at c
  have r:i.size=b/\i.ec=f.set (b-1-a) d:=by
   cases o:Nat.blt a j<;>rw[o]at c<;>simp only[ar]at c<;>subst c<;>exact⟨rfl,rfl⟩
  obtain⟨p,q⟩:=r
  rw[H.get_eq,H.get_eq,p,q]
  have hl:b-1-a<f.length:=hl
  by_cases m:e=a
  ·subst m
   rw[aq l,aq rfl]
   simp[hl]
  ·rw[ao m]
   simp only
   by_cases g:e<b
   ·rw[aq g,aq g,List.getElem?_set_ne (by omega)]
   ·rw[ao g,ao g]
 ·rw[ao hl]at c;simp at c
@[simp] theorem fc (b:Nat) (f:iE):(dI h b f).size=h.size:=by
 unfold dI
 cases a:h.put b f with
 |none=>rfl
 |some g=>
  obtain⟨c,e,i⟩:=h
  have a:(fy (Nat.blt b c) (dB (kf i (Nat.sub (Nat.sub c 1) b) f) λd=> @Bool.rec (λ_=>aa H) (some ⟨c,e,d⟩) (some ⟨c,b,d⟩) (Nat.blt b e)))=some g:=a
  obtain⟨_,a⟩:=dz.1 a
  obtain⟨d,_,a⟩:=dj.1 a
  show g.size=c
  cases j:Nat.blt b e<;>rw[j]at a<;>simp only[ar]at a<;>subst a<;>rfl
@[simp] theorem acG (b:Nat) (g:iE):Hp (dI h b g)=Hp h:=by
 unfold dI
 cases a:h.put b g with
 |none=>rfl
 |some i=>
  obtain⟨d,f,j⟩:=h
  have a:(fy (Nat.blt b d) (dB (kf j (Nat.sub (Nat.sub d 1) b) g) λe=> @Bool.rec (λ_=>aa H) (some ⟨d,f,e⟩) (some ⟨d,b,e⟩) (Nat.blt b f)))=some i:=a
  obtain⟨_,a⟩:=dz.1 a
  obtain⟨e,c,a⟩:=dj.1 a
  rw[kh]at c
  split at c
  ·simp only[ar]at c
   subst c
   show Hp i=_
   unfold Hp
   cases k:Nat.blt b f<;>rw[k]at a<;>simp only[ar]at a<;>subst a<;>simp
  ·simp at c
@[simp] theorem Dl (a:Nat):dY h h a=true:=by
 unfold dY
 cases h.get a<;>simp
theorem yX{b:Nat}{e:iE}(d:h.get b=some e)(f:iE){a:Nat}(c:a≠b):dY h (dI h b f) a=true:=by
 unfold dY
 rw[dy d,ao c]
 cases h.get a<;>simp
def K7(h:H)(a:List T):aa T:=dB (jd h 0 (hU a)) λb=>some (cn b)
@[simp] theorem NN (a:T) (b:a.fT=true):K7 h [a]=pq h a:=by
 cases a<;>first|rfl|(simp[T.fT]at b)
theorem Gk(a:List T):(dB (jd h 0 (.tuple a)) λc=>some (cn c))=dB (eK (pq h) a) λb=>some (.tuple b):=by
 show(dB (dB (eK (jP h 0) a) λb=>some (T.tuple b)) λc=>some (cn c))=_
 unfold pq
 rw[qG]
 cases eK (jP h 0) a with
 |none=>rfl
 |some b=>simp[sX]
@[simp] theorem ad5 (b c:T) (a:List T):K7 h (b::c::a)=dB (eK (pq h) (b::c::a)) λd=>some (.tuple d):=Gk (b::c::a)
def OW(h:H)(a:List T)(b:T):Prop:=Hp h/\K7 h a=some b
theorem Q4(a:List T)(b:T):OW h a b=(Hp h/\K7 h a=some b):=rfl
attribute [simp] Q4
end
section
variable {P:ai}{cx:Ctx}{cf:ir}{mask:Nat}
def pt:List (Nat×fK)->aj->aa fK
 | [],_=>none
 |(b,d)::c,a=>if a=b then some d else pt c a
def ht:List (Nat×kw)->aj->aa kw
 | [],_=>none
 |(b,d)::c,a=>if a=b then some d else ht c a
@[simp] theorem adf (a:aj):pt [] a=none:=id rfl
@[simp] theorem aaW (b:Nat) (d:fK) (c:List (Nat×fK)) (a:aj):pt ((b,d)::c) a=if a=b then some d else pt c a:=id rfl
@[simp] theorem adV (a:aj):ht [] a=none:=id rfl
@[simp] theorem abc (b:Nat) (d:kw) (c:List (Nat×kw)) (a:aj):ht ((b,d)::c) a=if a=b then some d else ht c a:=id rfl
theorem eQ{k:Env->H->Out}(d:Nat)(s:d<9223372036854775808)(f:Nat->eZ->H->Prop){j:gU}
 (p:∀c a h,c<d->binop .add (.int .i64 (c:Int)) (.int .i64 1)=some (.int .i64 ((c:Int)+1))->f c a h->W (k ⟨a,.nil⟩ h) (wK (λe h=>e.tmps= .nil/\f (c+1) e.vars h) j))
 (b:∀a h,f d a h->W (k ⟨a,.nil⟩ h) (wK (λe h=>False) j))
 {o:Nat} (q:d<o) {a:eZ} {h:H} (i:f 0 a h):W (ni k o ⟨a,.nil⟩ h) j:=by
 refine S6 d f (λc a h u i=> ?_) q (aw d) i
 rcases aD c d with n|t
 ·obtain⟨g,e,l,m,b⟩:=p c a h n (fQ (by omega) (by omega)) i
  refine⟨g,e,l,m,?_⟩
  cases g with
  |normal=>exact⟨b.1,n,b.2⟩
  |exit r=>exact b
  |ret=>exact b
 ·have:c=d:=by omega
  subst this
  obtain⟨g,e,l,m,b⟩:=b a h i
  refine⟨g,e,l,m,?_⟩
  cases g with
  |normal=>exact b.elim
  |exit r=>exact b
  |ret=>exact b
theorem xQ{c:Func}(a:vY ⟨c,mask,false,none⟩=true):∃b,c.body=some b:=by
 unfold vY at a
 simp only at a
 cases d:c.body with
 |none=>rw[d]at a;simp at a
 |some b=>exact⟨b,rfl⟩
theorem Xj(B:P.follows .mixedOrders=true)(iB:iG P cx){l:aj}{b:Func}{r:DL}(g:ER P cx l b mask r)(x:mN P cx cf){a:List T}{n:T}(hl:lQ a=true)(C:a.length<=b.ntmps)(i:Nat)
 (I:∀v,mO v 0 a->W (iZ cx cf i mask r (b.body.getD .skip) ⟨v,.nil⟩ hE) (zv cx mask b.results.toList λt h=>OW h t n)):kO P cx l a n:=by
 have Q:∃c,cn c=n/\rG cx cf i b mask false a hE=some (c,hE):=by
  obtain⟨u,G,_,A⟩:=lJ mask b.ntmps 0 a C
  obtain⟨R,y,h,d,J,t,hr,D,f⟩:=BX (I u A)
  have d:=pi _ g.dr _ _ _ d
  obtain⟨w,e⟩:=xQ g.ok
  rw[e]at d
  unfold K7 at f
  obtain⟨c,f,s⟩:=dj.1 f
  simp only[ar]at s
  refine⟨c,s,?_⟩
  unfold rG
  rw[e]
  simp only
  rw[G,dD]
  have d:jy cx cf i mask w ⟨u,.nil⟩ ⟨0,0,[]⟩=some (R,y,h):=d
  rw[d,dD,km]
  have E:=nI hr
  rcases J with rfl|rfl<;>(simp only;rw[E,dD];exact FP D f)
 obtain⟨c,rfl,e⟩:=Q
 have z:kO P cx l a c:=z9 (lI _ hl) λj p q k o m=>
  ou (F:=⟨b,mask,false,none⟩) B iB g.at_ g.ok cf x i a hE c hE e j p q k o m
 intro j p q k h o m
 refine(z j p q k h o m).mono λU V ⟨⟨S,K,L,M,N⟩,O⟩=> ?_
 exact⟨⟨S,K.cn,L,M,N⟩,O⟩
end
end
noncomputable section
structure Fr(lo:Nat)(h h':H):Prop where
 size:h.size<=h'.size
 hp:Hp h->Hp h'
 get:∀c,c<lo->h'.get c=h.get c
 low:lo<=h.low->lo<=h'.low
theorem Fr.refl(a:Nat)(h:H):Fr a h h:=⟨au _,id,λ_ _=>rfl,id⟩
theorem Fr.trans{d:Nat}{h g i:H}(a:Fr d h g)(b:Fr d g i):Fr d h i:=⟨aS a.size b.size,λc=>b.hp (a.hp c),λf j=>(b.get f j).trans (a.get f j),λc=>b.low (a.low c)⟩
theorem Fr.cons{lo:Nat}{h:H}(hl:lo<=h.size)(a:iE):Fr lo h (h.cons a):=⟨by simp,by simp,λb c=>by simp;omega,id⟩
theorem L9(h:H)(b:Nat)(i:iE)(c:Nat)(k:c<=h.low)(m:c<=b):c<=(dI h b i).low:=by
 unfold dI
 cases a:h.put b i with
 |none=>exact k
 |some j=>
  obtain⟨d,g,l⟩:=h
  have a:(fy (Nat.blt b d) (dB (kf l (Nat.sub (Nat.sub d 1) b) i) λf=> @Bool.rec (λ_=>aa H) (some ⟨d,g,f⟩) (some ⟨d,b,f⟩) (Nat.blt b g)))=some j:=a
  obtain⟨_,a⟩:=dz.1 a
  obtain⟨f,_,a⟩:=dj.1 a
  show c<=j.low
  cases n:Nat.blt b g<;>rw[n]at a<;>simp only[ar]at a<;>subst a
  ·exact k
  ·exact m
theorem Fr.put{b:Nat}{h:H}{a:Nat}{x:iE}(f:h.get a=some x)(d:b<=a)(c:iE):Fr b h (dI h a c):=⟨by simp,by simp,λi j=>by rw[dy f,ao (by omega)],λg=>L9 h a c b g d⟩
def qZ(h:H)(g:Nat)(d:T)(i:Nat)(b:List T):Prop:=
 (d= .dq [] false/\b=[])\/∃a c j f,g<=a/\d= .arr a c 0 b.length false/\h.get a=some ⟨i,c,j,f,false,b⟩
theorem qZ.nil(h:H)(a b:Nat):qZ h a (.dq [] false) b []:= .inl ⟨rfl,rfl⟩
theorem qZ.cons{h:H}{lo:Nat}{f:T}{d:Nat}{b:List T}(a:qZ h lo f d b)(n:iE):qZ (h.cons n) lo f d b:=by
 rcases a with a|⟨g,i,m,j,k,l,c⟩
 ·exact .inl a
 ·have:=H.dL c
  exact .inr ⟨g,i,m,j,k,l,by rw[dH,ao (by omega)];exact c⟩
theorem qZ.fT{h:H}{d:Nat}{a:T}{f:Nat}{b:List T}(c:qZ h d a f b):a.fT=true:=by
 rcases c with⟨rfl,_⟩|⟨g,i,m,j,k,rfl,l⟩<;>rfl
theorem qZ.cells{h:H}{d:Nat}{a:T}{f:Nat}{b:List T}(c:qZ h d a f b):a.cells=[a]:=by
 rcases c with⟨rfl,_⟩|⟨g,i,m,j,k,rfl,l⟩<;>rfl
theorem qZ.fz{h:H}{i:Nat}{d:T}{j:Nat}{c b:List T}(g:qZ h i d j c)(a:eK (vC h 11) c=some b):TI.fz h d=some (sl b):=by
 rcases g with⟨rfl,rfl⟩|⟨k,l,o,m,n,rfl,f⟩
 ·have a:some []=some b:=a
  simp only[ar]at a;subst a
  simp
 ·rw[uH,fH,f]
  simp[a]
theorem qZ.pq{h:H}{i:Nat}{d:T}{j:Nat}{a b:List T}(c:qZ h i d j a)(g:eK (vC h 11) a=some b):TI.pq h d=some (sl b):=by
 rw[<-c.fz g]
 rcases c with⟨rfl,_⟩|⟨k,l,p,m,n,rfl,o⟩<;>rfl
@[simp] theorem Wg {cx:Ctx} {mask:Nat} {e:Env} {h:H} (a:List ah) (b c:ab):iO (.call ⟨.builtin .append,a.toArray,#[b,c]⟩) cx mask e h=dB (eK (eJ cx mask e) a) λd=>(match d with| [f,g]=>iu cx h b c f g|_=>none):=rfl
theorem lA{b:Nat}{a:List T}(c:∀e∈a,e.cells.length=b):fits b a=true:=by
 cases a with
 |nil=>rfl
 |cons e a=>
  show Nat.beq (kc e.cells) b=true
  rw[iX,c e (by simp)];simp
theorem nW{h:H}{b bytes:Nat}{a:List T}(f:∀e∈a,e.cells.length=b)(c:1<=bytes)(d:a.length*bytes<=70368744177664):
 h.iA b bytes [] a=some (.arr h.size 0 0 a.length false,h.cons ⟨b,0,0,false,false,a⟩):=by
 unfold H.iA
 rw[oO,dD,iX,gD,dD,lA f,lA (by simp)]
 simp[c,d]
theorem uO{h:H}{f bytes c d i:Nat}{j:Bool}{a b:List T}(g:h.get c=some ⟨f,d,i,j,false,a⟩)(m:∀e∈b,e.cells.length=f)(k:1<=bytes)(l:(a.length+b.length)*bytes<=70368744177664):
 h.lH f bytes c d a.length b=some (.arr c (d+1) 0 (a++b).length false,dI h c ⟨f,d+1,i+1,false,false,a++b⟩):=by
 unfold H.lH
 rw[g]
 simp only[dD,mS,au,aY,aQ,oO,iX,gD,lA m,uu g]
 simp[k,l,aP]
theorem qZ.app{cx:Ctx}{h:H}{k:Nat}{c:T}{a:Nat}{d:List T}(o:qZ h k c a d)(w:k<=h.size){r s l:ab}{B C b:Ty}(F:cx.ty r=some B)(G:B.u= .slice l)(I:cx.ty l=some b)(J:cx.ty s=some C)(K:C.u= .slice l)(z:b.size=a)(v:1<=b.bytes)
 {x:T} {xs:List T} (M:h.iy x=some xs) (p:∀e∈xs,e.cells.length=a) (y:(d.length+xs.length)*b.bytes<=70368744177664):
 ∃D m,iu cx h r s c x=some (.val D m)/\qZ m k D a (d++xs)/\Fr k h m:=by
 have L:iu cx h r s c x=iV (h.append b.size b.bytes c xs):=by
  unfold iu oF mf
  rw[F,dD,J,dD]
  simp only[G,I,K,M,dD]
  rw[z,lA p,fO]
 rw[L,z]
 cases xs with
 |nil=>
  refine⟨c,h,?_,by simpa using o,Fr.refl _ _⟩
  show iV (fy (nS c) (some (c,h)))=_
  rcases o with⟨rfl,_⟩|⟨i,j,t,E,_,rfl,_⟩<;>rfl
 |cons f g=>
  rcases o with⟨rfl,rfl⟩|⟨i,j,t,E,A,rfl,q⟩
  ·refine⟨.arr h.size 0 0 (f::g).length false,h.cons ⟨a,0,0,false,false,f::g⟩,?_,.inr ⟨h.size,0,0,false,w,rfl,by simp⟩,Fr.cons w _⟩
   show iV (h.iA a b.bytes [] (f::g))=_
   rw[nW p v (by simpa using y)];rfl
  ·refine⟨.arr i (j+1) 0 (d++f::g).length false,dI h i ⟨a,j+1,t+1,false,false,d++f::g⟩,?_,.inr ⟨i,j+1,t+1,false,A,rfl,by rw[dy q,aq rfl]⟩,Fr.put q A _⟩
   show iV (h.lH a b.bytes i j d.length (f::g))=_
   rw[uO q p v y];rfl
theorem qZ.nY{cx:Ctx}{h:H}{c:Nat}{o:T}{a:Nat}{i:List T}(v:qZ h c o a i)(s:c<=h.size){j k:ab}{n d:Ty}(l:cx.ty j=some n)(m:n.u= .slice k)(p:cx.ty k=some d)(w:d.size=a)(q:1<=d.bytes)
 {e:T} (r:e.cells.length=a) (t:(i.length+1)*d.bytes<=70368744177664):
 ∃g b,iu cx (h.cons ⟨a,0,0,true,false,[e]⟩) j j o (.arr h.size 0 0 1 false)=some (.val g b)/\qZ b c g a (i++[e])/\Fr c h b:=by
 obtain⟨g,b,y,z,A⟩:=(v.cons ⟨a,0,0,true,false,[e]⟩).app (x:= .arr h.size 0 0 1 false) (xs:=[e]) (by simp;omega) l m p l m w q (by rw[fH];simp) (by simpa using r) (by simpa using t)
 exact⟨g,b,y,z,(Fr.cons s _).trans A⟩
@[simp] theorem Nu (h:H) (a:iE):(h.cons a).low=h.low:=id rfl
@[simp] theorem aaQ:H.size hE=0:=id rfl
@[simp] theorem adC:H.low hE=0:=id rfl
@[simp] theorem AM (h:H) (f c:iE) (g:Nat) (j:g=h.size) (hl:h.low<=h.size):dI (h.cons f) g c=h.cons c:=by
 subst j
 obtain⟨a,b,d⟩:=h
 unfold dI
 have:(H.cons ⟨a,b,d⟩ f).put a c=some (H.cons ⟨a,b,d⟩ c):=by
  show(fy (Nat.blt a (a+1)) (dB (kf (f::d) (Nat.sub (Nat.sub (a+1) 1) a) c) λi=> @Bool.rec (λ_=>aa H) (some ⟨a+1,b,i⟩) (some ⟨a+1,a,i⟩) (Nat.blt a b)))=some ⟨a+1,b,c::d⟩
  rw[show Nat.blt a (a+1)=true by rw[aG];omega,fO,kh,show Nat.sub (Nat.sub (a+1) 1) a=0 by show a+1-1-a=0;omega]
  simp only[aZ,Nat.zero_lt_succ,aY,cR,dD]
  rw[show Nat.blt a b=false by rw[cd];intro k;rw[aG]at k;simp at hl;omega]
 rw[this];rfl
@[simp] theorem aaR (h:H) (i d:iE) (a:Nat) (j:a<h.size):dI (h.cons i) a d=(dI h a d).cons i:=by
 obtain⟨b,c,f⟩:=h
 have j:a<b:=j
 have k:(H.cons ⟨b,c,f⟩ i).put a d=fy (Nat.blt a (b+1)) (dB (kf (i::f) (Nat.sub (Nat.sub (b+1) 1) a) d) λg=> @Bool.rec (λ_=>aa H) (some ⟨b+1,c,g⟩) (some ⟨b+1,a,g⟩) (Nat.blt a c)):=rfl
 have l:(⟨b,c,f⟩:H).put a d=fy (Nat.blt a b) (dB (kf f (Nat.sub (Nat.sub b 1) a) d) λg=> @Bool.rec (λ_=>aa H) (some ⟨b,c,g⟩) (some ⟨b,a,g⟩) (Nat.blt a c)):=rfl
 unfold dI
 rw[k,l,show Nat.blt a (b+1)=true by rw[aG];omega,show Nat.blt a b=true by rw[aG];exact j,fO,fO,kh,kh,
  show Nat.sub (Nat.sub (b+1) 1) a=Nat.sub (Nat.sub b 1) a+1 by show b+1-1-a=b-1-a+1;omega]
 by_cases hl:Nat.sub (Nat.sub b 1) a<f.length
 ·rw[aq (by simpa using hl),aq hl,dD,dD]
  cases Nat.blt a c<;>rfl
 ·rw[ao (by simpa using hl),ao hl];rfl
theorem dG(a:List T)(b:Nat)(c:List T):lr (.agg a) b c=dB (jY a b c) λd=>some (.agg d):=rfl
attribute [simp] dG
@[simp] theorem V0 (b:ak) (c:Int) (a:T):lr (.int b c) 0 [a]=some a:=id rfl
@[simp] theorem TK (b:Bool) (a:T):lr (.bool b) 0 [a]=some a:=id rfl
@[simp] theorem VZ (b:List Nat) (a:T):lr (.str b) 0 [a]=some a:=id rfl
@[simp] theorem X5 (a:List T) (b:T):lr (sl a) 0 [b]=some b:=by cases a<;>rfl
@[simp] theorem TJ (b:List T) (c:Bool) (a:T):lr (.dq b c) 0 [a]=some a:=id rfl
@[simp] theorem V1 (b c g f:Nat) (d:Bool) (a:T):lr (.arr b c g f d) 0 [a]=some a:=id rfl
@[simp] theorem UN (a:Nat):kM [] a=false:=id rfl
@[simp] theorem SU (b d a:Nat) (c:List (Nat×Nat)):kM ((b,d)::c) a=(decide (b=a)||kM c a):=by
 unfold kM;rw[List.any_cons];congr 1
@[simp] theorem Zq (a b:Nat):yz [] a b=false:=id rfl
@[simp] theorem Wz (c d a b:Nat) (f:List (Nat×Nat)):yz ((c,d)::f) a b=((decide (c=a)&&decide (d=b))||yz f a b):=by
 unfold yz;rw[List.any_cons];congr 1
@[simp] theorem Ip (a:List (Nat×Nat)) (b:Nat) (h:H) (c:List (Nat×Nat)):uK a b h h c=True:=by unfold uK;simp
@[simp] theorem Y1 {f:Type} (a b:Nat) (d:f) (c:List (Nat×f)):List.lookup a ((b,d)::c)=if a=b then some d else List.lookup a c:=by
 rw[List.lookup_cons]
 by_cases h:a=b
 ·subst h;simp
 ·rw[ao h,show(a==b)=false by simpa using h]
def Ez(a:T):Nat:=a.cells.length
@[simp] theorem aci (a:ak) (b:Int):Ez (.int a b)=1:=id rfl
@[simp] theorem Z5 (a:Bool):Ez (.bool a)=1:=id rfl
@[simp] theorem ach (a:List Nat):Ez (.str a)=1:=id rfl
@[simp] theorem Z3 (a:List T) (b:Bool):Ez (.dq a b)=1:=id rfl
@[simp] theorem Z2:Ez .fg=1:=id rfl
@[simp] theorem acj (a b f d:Nat) (c:Bool):Ez (.arr a b f d c)=1:=id rfl
@[simp] theorem aei (a:List T):Ez (sl a)=1:=by unfold Ez;rw[N9];rfl
def I6(cx:Ctx)(h:H)(c:Ty)(d:T)(f a b:aa Nat):aa kx:=fy (iQ cx h c.u d) (fy (xp a b) (val h (og (asSlice c.u d) f a b)))
def We(cx:Ctx)(mask:Nat)(e:Env)(a:aa ah):aa (aa Nat):=jm cx mask e a
section
variable {cx:Ctx}{mask:Nat}{e:Env}{h:H}
@[simp] theorem YF:We cx mask e none=some none:=id rfl
@[simp] theorem YE (a:ah):We cx mask e (some a)=dB (eJ cx mask e a) λc=>dB (mR c) λb=>some (some b):=id rfl
@[simp] theorem YH (g:ab) (a:ah) (d b c:aa ah):iO (.slice g a d b c) cx mask e h=dB (cx.ty g) λf=>dB (eJ cx mask e a) λa=>dB (We cx mask e d) λd=>dB (We cx mask e b) λb=>dB (We cx mask e c) λc=>I6 cx h f a d b c:=by
 show(dB (cx.ty g) λf=>dB (eJ cx mask e a) λa=>fy (iQ cx h f.u a)<|dB (jm cx mask e d) λd=>dB (jm cx mask e b) λb=>dB (jm cx mask e c) λc=>fy (xp b c) (val h (og (asSlice f.u a) d b c)))=_
 unfold We I6
 congr 1;funext f;congr 1;funext a
 cases iQ cx h f.u a with
 |true=>rfl
 |false=>
  simp only[La]
  cases jm cx mask e d<;>simp
  cases jm cx mask e b<;>simp
  cases jm cx mask e c<;>simp
theorem Qw{d:Type}(c:List d)(b a:Nat)(g:b<=a)(f:a<=c.length):Iz c b a=some ((c.drop b).take (a-b)):=by
 unfold Iz
 rw[kZ,aq (by omega),dD,mS]
 rw[aq (by simp;omega)];rfl
theorem LQ(d:List T)(a b:Nat)(m:a<=b)(l:b<=d.length)(f c:aa Nat)(k:fx f 0=a)(g:fx c d.length=b):og (sl d) f c none=some (sl ((d.drop a).take (b-a))):=by
 cases d with
 |nil=>
  have n:b=0:=by simpa using l
  subst n
  have o:a=0:=by omega
  subst o
  show(fy (Nat.beq (fx f 0) 0) (fy (Nat.beq (fx c 0) 0) (some T.fg)))=_
  have g:fx c 0=0:=g
  rw[k,g];rfl
 |cons j i=>
  show r7 (j::i) false (fx f 0) (fx c (kc (j::i))) none=_
  rw[iX,k,g]
  unfold r7
  rw[Qw _ _ _ m l,dD,show Nat.ble a b=true by simpa using m,fO]
  cases (List.take (b-a) (List.drop a (j::i)))<;>rfl
theorem Hv{d i:Ty}{f:ab}(g:d.u= .slice f)(ht:cx.ty f=some i){a:List T}(l:∀j∈a,j.cells.length=i.size){c b:aa Nat}(n:fx c 0<=fx b a.length)(m:fx b a.length<=a.length):
 I6 cx h d (sl a) c b none=some (.val (sl ((a.drop (fx c 0)).take (fx b a.length-fx c 0))) h):=by
 unfold I6
 have k:iQ cx h d.u (sl a)=true:=by
  rw[g]
  unfold iQ
  simp only[ht]
  cases a with
  |nil=>rfl
  |cons j o=>exact lA l
 rw[k,fO,show xp b none=true from rfl,fO,show asSlice d.u (sl a)=sl a by rw[g];rfl,LQ a _ _ n m c b rfl rfl]
 rfl
@[simp] theorem acW {j:Type} (i d:Ty) (g:ab) (a:j->T) (b:List j) (c:Nat) (m:i.u= .slice g) (ht:cx.ty g=some d) (k:∀n,Ez (a n)=d.size) (l:c<=b.length):I6 cx h i (sl (b.map a)) none (some c) none=some (.val (sl ((b.take c).map a)) h):=by
 rw[Hv m ht (by simpa using λf _=>show(a f).cells.length=d.size from k f) (by simp[fx]) (by simpa[fx]using l)]
 simp[fx,List.map_take]
@[simp] theorem X1 {j:Type} (i d:Ty) (g:ab) (a:j->T) (b:List j) (c:Nat) (m:i.u= .slice g) (ht:cx.ty g=some d) (k:∀n,Ez (a n)=d.size) (l:c<=b.length):I6 cx h i (sl (b.map a)) (some c) none none=some (.val (sl ((b.drop c).map a)) h):=by
 rw[Hv m ht (by simpa using λf _=>show(a f).cells.length=d.size from k f) (by simpa[fx]using l) (by simp[fx])]
 simp only[fx,aH,<-List.map_drop]
 rw[bJ (by simp)]
@[simp] theorem aaP {k:Type} (j f:Ty) (i:ab) (a:k->T) (d:List k) (c b:Nat) (o:j.u= .slice i) (ht:cx.ty i=some f) (l:∀p,Ez (a p)=f.size) (n:c<=b) (m:b<=d.length):I6 cx h j (sl (d.map a)) (some c) (some b) none=some (.val (sl (((d.drop c).take (b-c)).map a)) h):=by
 rw[Hv o ht (by simpa using λg _=>show(a g).cells.length=f.size from l g) (by simpa[fx]using n) (by simpa[fx]using m)]
 simp[fx,List.map_take,List.map_drop]
@[simp] theorem I5 (g k:Ty) (i:ab) (a c f d b:Nat) (s:Bool) (l:iE) (j:g.u= .slice i) (ht:cx.ty i=some k) (n:h.get a=some l) (p:l.sz=k.size) (o:b<=d):I6 cx h g (.arr a c f d false) none (some b) none=some (.val (.arr a c f b false) h):=by
 unfold I6
 have m:iQ cx h g.u (.arr a c f d false)=true:=by
  rw[j];unfold iQ;simp only[ht,n,p,Nat.beq_refl]
 rw[m,fO,show xp (some b) none=true from rfl,fO,show asSlice g.u (.arr a c f d false)= .arr a c f d false by rw[j];rfl]
 show val h (fy (Nat.ble 0 b) (fy (Nat.ble b d) (dB (fF (Nat.add f 0)) λr=>dB (fF (Nat.sub b 0)) λq=>some (T.arr a c r q false))))=_
 simp[o]
def WQ(cx:Ctx)(h:H)(d b:ab)(c:Ty)(a:T):aa kx:=match c.u with
 | .slice _=>val h (BP cx b a)
 | .str=>(match a with
  | .str _=>val h (conv cx b a)
  |_=>val h (EY cx h d a))
 |_=>val h (conv cx b a)
@[simp] theorem Ue (b a:ab) (c:ah):iO (.convert b a c) cx mask e h=dB (cx.ty b) λ_=>dB (eJ cx mask e c) λd=>dB (cx.ty a) λf=>WQ cx h b a f d:=rfl
theorem Ey{k d:ab}{b:Ty}{c g:ak}{a:Int}(i:cx.ty d=some b)(f:b.u= .int c)(j:IT c a=a):WQ cx h k d b (.int g a)=some (.val (.int c a) h):=by
 unfold WQ
 rw[f]
 show val h (dB (cx.ty d) λb=>match b.u with
  | .int c=>(match(T.int g a)with| .int _ a=>oS c a|_=>none)
  | .str=>_
  |_=>none)=_
 rw[i,dD,f]
 simp[oS,j]
@[simp] theorem acg (k c:ab) (b:Ty) (j:ak) (a:Int) (g:cx.ty c=some b) (i:b.u= .int .i64) (d: -9223372036854775808<=a) (f:a<9223372036854775808):WQ cx h k c b (.int j a)=some (.val (.int .i64 a) h):=Ey g i (jB d f)
@[simp] theorem PV (f:ab) (a b:ah):iO (.makeSlice f a b) cx mask e h=dB (cx.ty f) λd=>(match d.u with
 | .slice g=>dB (cx.ty g) λc=>dB (eJ cx mask e a) λa=>dB (eJ cx mask e b) λb=>dB (mR a) λa=>dB (mR b) λb=>
  fy (decide (1<=c.size))<|fy (decide (1<=c.bytes))<|fy (decide (a<=b)) (fy (decide (b*c.bytes<=70368744177664)) (some (.val (.arr h.size 0 0 a false) (h.cons ⟨c.size,0,0,decide (a=b),false,List.replicate a c.jI⟩))))
 |_=>none):=by
 show(dB (cx.ty f) λd=>_)=_
 congr 1;funext d
 cases d.u<;>first|rfl|skip
 rename_i g
 simp only[mU,H.j4,JW,tU,CR,yS]
 rfl
@[simp] theorem SI (b:aj) (a:List ah):iO (.makeFunc (.func b) #[] a.toArray) cx mask e h=dB (eK (eJ cx mask e) a) λc=>some (.val (.func b c) h):=by
 show(dB (oY cx mask e a) λa=>val h (some (T.func b a)))=_
 simp
end
theorem qZ.QQ{cx:Ctx}{h:H}{d:Nat}{q:T}{c:Nat}{k:Type}{a:k->T}{i:List k}(y:qZ h d q c (i.map a))(v:d<=h.size){j m:ab}{p f:Ty}(n:cx.ty j=some p)(o:p.u= .slice m)(r:cx.ty m=some f)(z:f.size=c)(s:1<=f.bytes)
 (t:∀x,Ez (a x)=c) (xs:List k) (w:(i.length+xs.length)*f.bytes<=70368744177664):
 ∃g b,iu cx h j j q (sl (xs.map a))=some (.val g b)/\qZ b d g c ((i++xs).map a)/\Fr d h b:=by
 obtain⟨g,b,A,B,C⟩:=y.app (x:=sl (xs.map a)) (xs:=xs.map a) v n o r n o z s (by simp) (by simpa using λl _=>show(a l).cells.length=c from t l) (by simpa using w)
 exact⟨g,b,A,by rw[List.map_append];exact B,C⟩
theorem qZ.Oz{cx:Ctx}{h:H}{f:Nat}{o:T}{d:Nat}{l:Type}{b:l->T}{j:List l}(x:qZ h f o d (j.map b))(v:f<=h.size){k m:ab}{n g:Ty}(p:cx.ty k=some n)(q:n.u= .slice m)(r:cx.ty m=some g)(y:g.size=d)(s:1<=g.bytes)
 (t:∀a,Ez (b a)=d) (a:l) (w:(j.length+1)*g.bytes<=70368744177664):
 ∃i c,iu cx (h.cons ⟨d,0,0,true,false,[b a]⟩) k k o (.arr h.size 0 0 1 false)=some (.val i c)/\qZ c f i d ((j++[a]).map b)/\Fr f h c:=by
 obtain⟨i,c,z,A,B⟩:=x.nY v p q r y s (e:=b a) (t a) (by simpa using w)
 exact⟨i,c,z,by rw[List.map_append];exact A,B⟩
theorem qZ.fzM{h:H}{j:Nat}{b:T}{k:Nat}{d:Type}{f:d->T}{a:List d}(i:qZ h j b k (a.map f))(g:∀c,vC h 11 (f c)=some (f c)):TI.pq h b=some (sl (a.map f)):=i.pq (A5 _ _ _ g)
theorem f8{c:ai}{cx:Ctx}{tb:eG}{b:fK}(l:c.follows .mixedOrders=true)(iB:iG c cx){g:aj}{d:Func}{mask:Nat}{f:DL}(o:ER c cx g d mask f)(i:b.α->Nat)(hl:∀a,lQ (b.A a)=true)(m:∀a,(b.A a).length<=d.ntmps)
 (n:∀a,b.pre a->∀j,mO j 0 (b.A a)->W (iZ cx (p9 c cx tb) (i a) mask f (d.body.getD .skip) ⟨j,.nil⟩ hE) (zv cx mask d.results.toList λp h=>OW h p (b.R a))):b.Ok c cx g:=
 λa k=>Xj l iB o (BJ c cx tb) (hl a) (m a) (i a) (n a k)
attribute [simp] N8
end
noncomputable section
abbrev qW(a:T)(c:List T)(g:Nat):Prop:=a.cells=c/\Ez a=g/\(∀d e,lr a d e=dB (jY c d e) λh=>some (.agg h))/\a.fT=true/\cn a=a/\(∀b,pq b a=some a)/\(∀b f,vC b (f+2) a=some a)/\jv a=true/\mn a=true
theorem ma{a b:List Nat}:T.str a=T.str b->a=b:=by simp
theorem f7{c:ak}{a b:Int}:T.int c a=T.int c b->a=b:=by simp
theorem rF{a b:Bool}:T.bool a=T.bool b->a=b:=by simp
theorem gF{f:Type}{a:f->T}(h:∀d e,a d=a e->d=e)(b c:List f)(g:sl (b.map a)=sl (c.map a)):b=c:=ja h g
def zt(b:U)(a:Nat)(c:T):Ty:=⟨b,1,a,false,[c]⟩
def rY(d:List (Nat×Nat))(c a:Nat)(b:Bool)(e:List T):Ty:=⟨.struct d,c,a,b,e⟩
def Pi(d c e a:Nat)(b:Bool)(f:List T):Ty:=⟨.array d c,e,a,b,f⟩
@[simp] theorem aey (b:U) (a:Nat) (c:T):(zt b a c).size=1/\(zt b a c).bytes=a/\(zt b a c).u=b:=⟨rfl,rfl,rfl⟩
@[simp] theorem aeD (d:List (Nat×Nat)) (a c:Nat) (e:Bool) (b:List T):(rY d a c e b).size=a/\(rY d a c e b).bytes=c/\(rY d a c e b).u= .struct d/\(rY d a c e b).jI= .agg b/\(rY d a c e b).zero=b/\∀f,jK (rY d a c e b) f=dB (takeN a f) λg=>some (.agg g):=⟨rfl,rfl,rfl,rfl,rfl,λ_=>rfl⟩
abbrev LG(a:ak)(b:Nat):Ty:=zt (.int a) b (.int a 0)
abbrev tyB:Ty:=zt .bool 1 (.bool false)
abbrev tyZ:Ty:=zt .str 16 (.str [])
abbrev zr(a:Nat):Ty:=zt (.slice a) 24 (.dq [] false)
abbrev Ly(a:Nat):Ty:=zt (.ptr a) 8 .jz
@[simp] theorem aeA (d:ak) (c:Nat) (b:T):(zt (.int d) c b).jI=b/\∀a,jK (zt (.int d) c b) a=a[0]? :=⟨rfl,λa=>j9 a 0⟩
@[simp] theorem aeC (c:Nat) (b:T):(zt .bool c b).jI=b/\∀a,jK (zt .bool c b) a=a[0]? :=⟨rfl,λa=>j9 a 0⟩
@[simp] theorem aew (c:Nat) (b:T):(zt .str c b).jI=b/\∀a,jK (zt .str c b) a=a[0]? :=⟨rfl,λa=>j9 a 0⟩
@[simp] theorem aex (d c:Nat) (b:T):(zt (.slice d) c b).jI=b/\∀a,jK (zt (.slice d) c b) a=a[0]? :=⟨rfl,λa=>j9 a 0⟩
@[simp] theorem aez (d c:Nat) (b:T):(zt (.ptr d) c b).jI=b/\∀a,jK (zt (.ptr d) c b) a=a[0]? :=⟨rfl,λa=>j9 a 0⟩
@[simp] theorem aeB (c:Nat) (b:T):(zt .func c b).jI=b/\∀a,jK (zt .func c b) a=a[0]? :=⟨rfl,λa=>j9 a 0⟩
theorem iN{b:ai}{cx:Ctx}{d:aj}{a:Func}(e:Nat)(c:DL)(f:b.funcs[d]? =some a)(g:vY ⟨a,e,false,none⟩=true:=by kernel_rfl)(h:lU c (a.body.getD .skip)=true:=by kernel_rfl):ER b cx d a e c:=⟨f,g,h⟩
def gq(cx:Ctx)(c:Func)(f:Nat)(e:Bool):pk:=λb g a d=>rG cx b g c f e a d
theorem adX{a:ai}{cx:Ctx}(g:a.follows .mixedOrders=true)(iB:iG a cx){e:aj}{b:Func}{d:Nat}{c:Bool}(f:a.funcs[e]? =some b)(h:vY ⟨b,d,c,none⟩=true:=by kernel_rfl):lV a cx e (gq cx b d c):=ou (F:=⟨b,d,c,none⟩) g iB f h
end
end Go.TI
