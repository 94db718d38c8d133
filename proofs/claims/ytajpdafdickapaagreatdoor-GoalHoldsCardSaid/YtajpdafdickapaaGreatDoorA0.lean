/- TiDefs -/
import GoSem.Step
set_option linter.all false
namespace Go.TI
theorem nl9{α:Type}{f:α->Nat}{b:Nat}(h:∀a,Nat.ble (f a) b=true:=by intro _;rfl):∀a,f a<=b:=λa=>Nat.le_of_ble_eq_true (h a)
theorem J{p:Prop}(h:p:=by omega):p:=h
theorem dy{p:Prop}(h:p:=by simp):p:=h
theorem dz{p:Prop}(h:p:=by (simp;omega)):p:=h
theorem dA{p:Prop}(h:p:=by (simp only;omega)):p:=h
theorem dB{p:Prop}(h:p:=by decide):p:=h
end Go.TI
namespace Go.TI
abbrev aa:=@Option
abbrev ab:=@TypeId
abbrev af:=@Array
abbrev ah:=@Operand
abbrev ai:=@Program
abbrev aj:=@FuncId
abbrev ak:=@IntKind
abbrev am:=@Value
theorem ao:type_of% @if_neg:=@if_neg
theorem aq:type_of% @if_pos:=@if_pos
theorem ar:type_of% @Option.some.injEq:=@Option.some.injEq
theorem au:type_of% @Nat.le_refl:=@Nat.le_refl
theorem aw:type_of% @Nat.zero_le:=@Nat.zero_le
theorem ax:type_of% @Bool.and_eq_true:=@Bool.and_eq_true
theorem ay:type_of% @List.mem_of_getElem?:=@List.mem_of_getElem?
theorem az:type_of% @List.getElem?_eq_getElem:=@List.getElem?_eq_getElem
theorem aB:type_of% @Prod.mk.injEq:=@Prod.mk.injEq
theorem aC:type_of% @Prod.ext:=@Prod.ext
theorem aD:type_of% @List.getElem_mem:=@List.getElem_mem
theorem aF:type_of% @Nat.eq_of_beq_eq_true:=@Nat.eq_of_beq_eq_true
theorem aG:type_of% @List.length_map:=@List.length_map
theorem aH:type_of% @List.drop_eq_getElem_cons:=@List.drop_eq_getElem_cons
theorem aI:type_of% @decide_eq_true_eq:=@decide_eq_true_eq
theorem aJ:type_of% @Nat.blt_eq:=@Nat.blt_eq
theorem aK:type_of% @List.take_length:=@List.take_length
theorem aL:type_of% @List.cons.injEq:=@List.cons.injEq
theorem aM:type_of% @decide_eq_false:=@decide_eq_false
theorem aO:type_of% @Nat.le_trans:=@Nat.le_trans
theorem aP:type_of% @List.map_cons:=@List.map_cons
theorem aQ:type_of% @Nat.lt_or_ge:=@Nat.lt_or_ge
theorem aR:type_of% @List.take_succ_eq_append_getElem:=@List.take_succ_eq_append_getElem
theorem aS:type_of% @List.length_append:=@List.length_append
theorem aT:type_of% @List.length_cons:=@List.length_cons
theorem aU:type_of% @Bool.true_and:=@Bool.true_and
theorem aV:type_of% @Nat.mul_le_mul_right:=@Nat.mul_le_mul_right
theorem aW:type_of% @List.getElem?_map:=@List.getElem?_map
theorem aY:type_of% @decide_eq_true:=@decide_eq_true
theorem aZ:type_of% @List.append_assoc:=@List.append_assoc
theorem bg:type_of% @List.eq_nil_of_length_eq_zero:=@List.eq_nil_of_length_eq_zero
theorem bh:type_of% @Nat.le_of_ble_eq_true:=@Nat.le_of_ble_eq_true
theorem bj:type_of% @decide_eq_false_iff_not:=@decide_eq_false_iff_not
theorem bm:type_of% @Ne.symm:=@Ne.symm
theorem bp:type_of% @Bool.eq_iff_iff:=@Bool.eq_iff_iff
theorem br:type_of% @List.flatMap_cons:=@List.flatMap_cons
theorem bw:type_of% @Nat.le_of_lt:=@Nat.le_of_lt
theorem bA:type_of% @List.map_set:=@List.map_set
theorem bD:type_of% @Nat.lt_of_lt_of_le:=@Nat.lt_of_lt_of_le
theorem bE:type_of% @if_false:=@if_false
theorem bF:type_of% @if_true:=@if_true
theorem bG:type_of% @List.mem_of_mem_take:=@List.mem_of_mem_take
theorem bI:type_of% @List.mem_of_mem_drop:=@List.mem_of_mem_drop
theorem bJ:type_of% @List.map_nil:=@List.map_nil
theorem bK:type_of% @Bool.not_eq_true':=@Bool.not_eq_true'
theorem bL:type_of% @List.take_of_length_le:=@List.take_of_length_le
theorem bM:type_of% @Bool.or_eq_false_iff:=@Bool.or_eq_false_iff
theorem bO:type_of% @List.drop_length:=@List.drop_length
theorem bP:type_of% @List.append_nil:=@List.append_nil
theorem bQ:type_of% @List.getElem?_eq_none:=@List.getElem?_eq_none
theorem bR:type_of% @congrArg:=@congrArg
theorem bU:type_of% @List.getElem?_drop:=@List.getElem?_drop
theorem bV:type_of% @List.eq_of_mem_replicate:=@List.eq_of_mem_replicate
theorem bW:type_of% @List.all_eq_true:=@List.all_eq_true
theorem bY:type_of% @Bool.or_eq_true:=@Bool.or_eq_true
theorem bZ:type_of% @List.all_cons:=@List.all_cons
theorem cd:type_of% @Bool.not_eq_false':=@Bool.not_eq_false'
theorem cg:type_of% @Array.getD_eq_getD_getElem?:=@Array.getD_eq_getD_getElem?
theorem ci:type_of% @Nat.succ_mul:=@Nat.succ_mul
theorem cj:type_of% @Nat.ble_eq_true_of_le:=@Nat.ble_eq_true_of_le
theorem cm:type_of% @List.getElem?_set:=@List.getElem?_set
theorem cq:type_of% @Nat.add_mul:=@Nat.add_mul
theorem cr:type_of% @List.mem_cons:=@List.mem_cons
theorem cu:type_of% @List.mem_range:=@List.mem_range
theorem cv:type_of% @List.getElem?_append_left:=@List.getElem?_append_left
theorem cw:type_of% @Nat.min_eq_left:=@Nat.min_eq_left
theorem cz:type_of% @Int.toNat_natCast:=@Int.toNat_natCast
theorem cA:type_of% @List.mem_or_eq_of_mem_set:=@List.mem_or_eq_of_mem_set
theorem cB:type_of% @List.set_cons_zero:=@List.set_cons_zero
theorem cC:type_of% @Bool.eq_false_iff:=@Bool.eq_false_iff
theorem cD:type_of% @List.mem_flatMap:=@List.mem_flatMap
theorem cE:type_of% @List.cons_append:=@List.cons_append
theorem cF:type_of% @Bool.false_eq_true:=@Bool.false_eq_true
theorem cG:type_of% @List.getElem?_take:=@List.getElem?_take
theorem cH:type_of% @Array.ext':=@Array.ext'
theorem cI:type_of% @List.set_cons_succ:=@List.set_cons_succ
theorem cJ:type_of% @Array.length_toList:=@Array.length_toList
theorem cK:type_of% @List.flatMap_nil:=@List.flatMap_nil
theorem cM:type_of% @List.getElem?_of_mem:=@List.getElem?_of_mem
theorem cN:type_of% @List.not_mem_nil:=@List.not_mem_nil
theorem cO:type_of% @List.map_map:=@List.map_map
theorem cP:type_of% @Nat.add_assoc:=@Nat.add_assoc
theorem cQ:type_of% @List.length_nil:=@List.length_nil
theorem cR:type_of% @Nat.ne_of_beq_eq_false:=@Nat.ne_of_beq_eq_false
theorem cS:type_of% @List.getD_eq_getElem?_getD:=@List.getD_eq_getElem?_getD
theorem cT:type_of% @List.take_append_drop:=@List.take_append_drop
theorem cU:type_of% @List.length_set:=@List.length_set
theorem cV:type_of% @List.drop_drop:=@List.drop_drop
theorem cW:type_of% @List.ext_getElem?:=@List.ext_getElem?
theorem cX:type_of% @List.take_append_of_le_length:=@List.take_append_of_le_length
theorem cY:type_of% @List.getElem?_append_right:=@List.getElem?_append_right
theorem cZ:type_of% @List.mem_append_left:=@List.mem_append_left
theorem c8:type_of% @Nat.lt_succ_self:=@Nat.lt_succ_self
theorem da:type_of% @Bool.false_and:=@Bool.false_and
theorem db:type_of% @List.getElem_of_mem:=@List.getElem_of_mem
theorem dc:type_of% @List.replicate_succ:=@List.replicate_succ
theorem df:type_of% @List.toList_toArray:=@List.toList_toArray
theorem dg:type_of% @List.mem_iff_getElem?:=@List.mem_iff_getElem?
theorem dh:type_of% @List.getElem?_cons_succ:=@List.getElem?_cons_succ
theorem dj:type_of% @List.pairwise_cons:=@List.pairwise_cons
theorem dq:type_of% @List.getElem?_set_self:=@List.getElem?_set_self
theorem dt:type_of% @List.getElem?_set_ne:=@List.getElem?_set_ne
theorem du:type_of% @List.length_range:=@List.length_range
theorem dw:type_of% @List.mem_append_right:=@List.mem_append_right
end Go.TI
namespace Go.TI
noncomputable section
inductive T where
 |undef
 |bool (b:Bool)
 |int (k:ak) (n:Int)
 |str (s:List Nat)
 |kE
 |ptr (b ep i j:Nat)
 |jH (cells:List T)
 |dK (fc:List T) (full:Bool)
 |gW
 |arr (b ep o l:Nat) (full:Bool)
 |func (f:aj) (captured:List T)
 |kT
 |kS
 |iface (t:ab) (v:T)
 |iter (b:Nat)
 |map (b:Nat)
 |oq
 |agg (cells:List T)
 |tuple (vs:List T)
 deriving Inhabited
def T.cells:T->List T
 | .agg a=>a
 |v=>[v]
def T.ir:T->Bool
 | .undef| .tuple _=>false
 |_=>true
structure iX where
 sz:Nat
 ep:Nat
 ver:Nat
 exact:Bool
 it:Bool
 fc:List T
 deriving Inhabited
structure H where
 size:Nat
 low:Nat
 fG:List iX
 deriving Inhabited
inductive U where
 |int (k:ak)|bool|str|slice (e:ab)|array (n:Nat) (e:ab)|map (k e:ab)|struct (fs:List (Nat×ab))|ptr (e:ab)|func|iface|other
 deriving Inhabited
structure Ty where
 u:U
 size:Nat
 bytes:Nat
 cmp:Bool
 zero:List T
 deriving Inhabited
inductive Prim where
 |oy
 |clone (sz bytes:Nat)
 deriving Inhabited
structure Fun where
 fn:Func
 mask:Nat
 kU:Bool
 aha:aa Prim
 deriving Inhabited
structure Ctx where
 ty:ab->aa Ty
 fn:aj->aa Fun
 gl:Nat->aa (List T)
def dW{a b:Type}(d:aa a)(c:a->aa b):aa b:=Option.casesOn d none c
def gX{a:Type}(b:Bool)(c:aa a):aa a:=Bool.casesOn b none c
def two{a b c:Type}(e:a×b)(d:a->b->c):c:=Prod.casesOn e d
def mM{a:Type}(c:List a):Nat->aa a:=
 @List.rec a (λ_=>Nat->aa a) (λ_=>none) (λf _ b e=> @Nat.rec (λ_=>aa a) (some f) (λd _=>b d) e) c
def kO{a:Type}(d:List a):Nat->a->aa (List a):=
 @List.rec a (λ_=>Nat->a->aa (List a)) (λ_ _=>none)
  (λi g c f b=> @Nat.rec (λ_=>aa (List a)) (some (b::g)) (λe _=>dW (c e b) λh=>some (i::h)) f) d
def takeN{a:Type}(d:Nat):List a->aa (List a):=
 @Nat.rec (λ_=>List a->aa (List a)) (λ_=>some [])
  (λ_ b c=> @List.rec a (λ_=>aa (List a)) none (λg e _=>dW (b e) λf=>some (g::f)) c) d
def j8{a:Type}(d:Nat):List a->aa (List a):=
 @Nat.rec (λ_=>List a->aa (List a)) (λb=>some b)
  (λ_ c b=> @List.rec a (λ_=>aa (List a)) none (λ_ e _=>c e) b) d
def kY{a:Type}(c:List a):Nat:= @List.rec a (λ_=>Nat) 0 (λ_ _ b=>Nat.succ b) c
def Fg{a:Type}(e f:List a):aa (List a):=
 @List.rec a (λ_=>aa (List a)) (some f) (λd _ b=>dW b λc=>some (d::c)) e
def fQ{a b:Type}(c:a->aa b)(e:List a):aa (List b):=
 @List.rec a (λ_=>aa (List b)) (some []) (λg _ d=>dW (c g) λh=>dW d λf=>some (h::f)) e
def pV{a:Type}(d:a)(c:Nat):List a:= @Nat.rec (λ_=>List a) [] (λ_ b=>d::b) c
def xR{a:Type}(b:a->Bool)(d:List a):Bool:= @List.rec a (λ_=>Bool) true (λe _ c=>Bool.rec false c (b e)) d
def iq(b:Nat):aa Nat:=Nat.casesOn b (some 0) (λa=>some (Nat.succ a))
def Mj(c:Int):aa Int:=
 Int.casesOn c (λa=>Nat.casesOn a (some (.ofNat 0)) (λb=>some (.ofNat (Nat.succ b)))) (λa=>Nat.casesOn a (some (.negSucc 0)) (λb=>some (.negSucc (Nat.succ b))))
def yt(a:ak)(c:Int):aa T:=dW (Mj c) λb=>some (.int a b)
def xX(a:Bool):aa T:=Bool.casesOn a (some (.bool false)) (some (.bool true))
def kNo:ak->Nat
 | .i8=>0| .i16=>1| .i32=>2| .i64=>3| .u8=>4| .u16=>5| .u32=>6| .u64=>7
def Ew(a b:ak):Bool:=Nat.beq (kNo a) (kNo b)
def Mo(d c:Int):Bool:=Int.casesOn d (λa=>Int.casesOn c (λb=>Nat.blt a b) (λ_=>false)) (λa=>Int.casesOn c (λ_=>true) (λb=>Nat.blt b a))
def Tz(d c:Int):Bool:=Int.casesOn d (λa=>Int.casesOn c (λb=>Nat.beq a b) (λ_=>false)) (λa=>Int.casesOn c (λ_=>false) (λb=>Nat.beq a b))
def LP(k:ak)(a:Int):Int:=
 match k with
 | .i64=>Int.casesOn a (λb=>Bool.casesOn (Nat.ble b 9223372036854775807) (IntKind.i64.wrap a) a) (λb=>Bool.casesOn (Nat.ble b 9223372036854775807) (IntKind.i64.wrap a) a)
 |k=>k.wrap a
def qz(a:ak)(b:Int):aa T:=yt a (LP a b)
def WB(b:List Nat):List Nat->Bool:=
 @List.rec Nat (λ_=>List Nat->Bool) (λa=>List.casesOn a true (λ_ _=>false))
  (λe _ c a=>List.casesOn a false (λf d=>Bool.rec false (c d) (Nat.beq e f))) b
def Tu(d:List Nat):List Nat->Bool:=
 @List.rec Nat (λ_=>List Nat->Bool) (λa=>List.casesOn a false (λ_ _=>true))
  (λb _ e a=>List.casesOn a false (λc f=>Bool.rec (Bool.rec false (e f) (Nat.beq b c)) true (Nat.blt b c))) d
def H.get(d:H)(a:Nat):aa iX:=
 H.casesOn d λb _ c=>gX (Nat.blt a b) (mM c (Nat.sub (Nat.sub b 1) a))
def H.new(g:Nat->T)(h:H)(i:iX):aa (T×H):=
 H.casesOn h λa d c=>dW (iq (Nat.succ a)) λe=>some (g a,⟨e,d,i::c⟩)
def H.put(g:H)(a:Nat)(x:iX):aa H:=
 H.casesOn g λb e f=>gX (Nat.blt a b)
  (dW (kO f (Nat.sub (Nat.sub b 1) a) x) λd=>Bool.casesOn (Nat.blt a e) (some ⟨b,e,d⟩) (some ⟨b,a,d⟩))
def over(a:List T)(f:List T):aa (List T):=
 @List.rec T (λ_=>List T->aa (List T)) (λa=>some a)
  (λe _ b a=>List.casesOn a none (λ_ c=>dW (b c) λd=>some (e::d))) f a
def kV(a:List T)(d:Nat)(g:List T):aa (List T):=
 @Nat.rec (λ_=>List T->aa (List T)) (λa=>over a g)
  (λ_ c a=>List.casesOn a none (λb e=>dW (c e) λf=>some (b::f))) d a
def Ty.isAgg(a:Ty):Bool:=match a.u with| .struct _| .array _ _=>true|_=>false
def Wy(a:List T):T:=List.casesOn a .undef (λb _=>b)
def Ty.kt(a:Ty):T:=Bool.casesOn a.isAgg (Wy a.zero) (.agg a.zero)
def ku(b:Ty)(a:List T):aa T:=
 Bool.casesOn b.isAgg (mM a 0) (dW (takeN b.size a) λc=>some (.agg c))
def H.elem(e:H)(a c i:Nat):aa T:=
 dW (e.get a) λx=>iX.casesOn x λ_ d _ _ f b=>gX (Nat.beq d c) (Bool.casesOn f (mM b i) none)
def H.load(g:H)(b:Ty)(c:T):aa T:=
 match c with
 | .ptr d f h i=>dW (g.elem d f h) λe=>dW (j8 i e.cells) λa=>ku b a
 | .jH a=>ku b a
 |_=>none
def mK(d:T)(a:Nat)(b:List T):aa T:=
 match d with
 | .agg c=>dW (kV c a b) λe=>some (.agg e)
 |_=>match a,b with
  |0,[f]=>some f
  |_,_=>none
def H.store(d:H)(o:Ty)(g f:T):aa H:=
 match g with
 | .ptr a j e m=>gX (Nat.beq (kY f.cells) o.size) (dW (d.get a) λr=>iX.casesOn r λn c p exact l b=>
  gX (Nat.beq c j) (Bool.casesOn l (dW (mM b e) λh=>dW (mK h m f.cells) λi=>dW (kO b e i) λk=>
   dW (iq (Nat.succ p)) λq=>d.put a ⟨n,c,q,exact,false,k⟩) none))
 |_=>none
def H.jw(f:H)(k:T):aa (List T):=
 match k with
 | .dK e _=>some e
 | .gW=>some []
 | .arr a c i h _=>dW (f.get a) λl=>iX.casesOn l λ_ d _ _ g b=>gX (Nat.beq d c) (Bool.casesOn g (dW (j8 i b) λj=>takeN h j) none)
 |_=>none
def fits(c:Nat)(b:List T):Bool:=List.casesOn b true (λa _=>Nat.beq (kY a.cells) c)
def lL(b:Nat)(exact:Bool)(a:List T):iX:=⟨b,0,0,exact,false,a⟩
def H.jo(g:H)(a bytes:Nat)(d e:List T):aa (T×H):=
 dW (Fg d e) λb=>dW (iq (kY b)) λc=>
 gX (Nat.ble 1 bytes)<|gX (Nat.ble (Nat.mul c bytes) 70368744177664) (gX (fits a d) (gX (fits a e) (g.new (λf=> .arr f 0 0 c false) (lL a false b))))
def H.mR(e:H)(g bytes a k o:Nat)(i:List T):aa (T×H):=
 dW (e.get a) λr=>iX.casesOn r λh b p _ n j=>
  dW (takeN o j) λl=>dW (Fg l i) λd=>dW (iq (kY d)) λf=>
  gX (Nat.ble 1 bytes)<|gX (Nat.beq b k) (gX (Nat.beq h g) (gX (Nat.ble (Nat.mul f bytes) 70368744177664) (gX (fits g i) (Bool.casesOn n
   (dW (iq (Nat.succ b)) λc=>dW (iq (Nat.succ p)) λq=>
     dW (e.put a ⟨h,c,q,false,false,d⟩) λm=>some (.arr a c 0 f false,m)) none))))
def pz:T->Bool
 | .dK _ _| .gW| .arr .. =>true
 |_=>false
def H.append(a:H)(e bytes:Nat)(d:T)(b:List T):aa (T×H):=
 List.casesOn b (gX (pz d) (some (d,a))) λ_ _=>match d with
  | .dK c f=>List.casesOn c (a.jo e bytes [] b) λ_ _=>gX f (a.jo e bytes c b)
  | .arr g h j i f=>Bool.casesOn f
   (Nat.casesOn j (a.mR e bytes g h i b) λ_=>none)
   (dW (a.jw d) λc=>a.jo e bytes c b)
  |_=>none
def freeze(m:H)(p:Nat)(h:Nat):T->aa T:=
 @Nat.rec (λ_=>T->aa T) (λ_=>none) (λ_ e f=>match f with
  | .arr b i q o l=>gX (Nat.ble p b) (dW (m.get b) λr=>iX.casesOn r λ_ j _ exact n c=>
   gX (Nat.beq j i) (Bool.casesOn n (dW (dW (j8 q c) λa=>takeN o a) λk=>dW (fQ e k) λd=>
    List.casesOn d (List.casesOn c (Bool.casesOn exact (some .gW) (some (.dK [] false))) λ_ _=>some .gW) λ_ _=>some (.dK d l)) none))
  | .agg g=>dW (fQ e g) λa=>some (.agg a)
  | .bool _| .int _ _| .str _| .kE| .dK _ _| .gW| .kT| .kS=>some f
  |_=>none) h
def iN(d:H)(c:Nat)(a:T):aa T:=
 match a with
 | .arr b _ _ _ _=>Bool.casesOn (Nat.ble c b) (some a) (freeze d c 12 a)
 | .ptr b _ _ _=>Bool.casesOn (Nat.ble c b) (some a) none
 | .map b=>Bool.casesOn (Nat.ble c b) (some a) none
 | .undef=>some a
 |_=>freeze d c 12 a
def kw(a:H)(b:Nat)(c:T):aa T:=
 match c with
 | .agg d=>dW (fQ (iN a b) d) λe=>some (.agg e)
 |_=>iN a b c
def jn(a:H)(b:Nat)(c:T):aa T:=
 match c with
 | .tuple e=>dW (fQ (kw a b) e) λd=>some (.tuple d)
 |_=>kw a b c
def ky(b:Nat):T->Bool
 | .arr a _ _ _ _=>Nat.blt a b
 | .ptr a _ _ _=>Nat.blt a b
 | .map a=>Nat.blt a b
 | .bool _| .int _ _| .str _| .kE| .dK _ _| .gW| .kT| .kS| .oq| .jH _=>true
 |_=>false
def below(b:Nat):T->Bool
 | .agg a=>xR (ky b) a
 | .func _ a=>xR (ky b) a
 | .tuple a=>xR (ky b) a
 |v=>ky b v
def sL(d:Nat)(b:Nat):List iX->Bool:=
 @Nat.rec (λ_=>List iX->Bool) (λ_=>true) (λ_ a c=>List.casesOn c true λf e=>Bool.casesOn (xR (below d) f.fc) false (a e)) b
def nN(c:Nat)(d:T)(f:H):aa (T×H):=
 H.casesOn f λe b a=>Bool.casesOn (Nat.blt b c) (some (d,⟨e,c,a⟩)) (some (d,⟨e,b,a⟩))
def uG(a c:Nat)(i e:T)(h:H):aa (T×H):=
 H.casesOn h λg b f=>dW (j8 (Nat.sub g a) f) λd=>
  Bool.casesOn (Nat.ble a b)
   (Bool.casesOn (sL a (Nat.sub a b) d) (nN c i ⟨g,b,f⟩)
     (Bool.casesOn (Nat.blt b c) (some (e,⟨a,c,d⟩)) (some (e,⟨a,b,d⟩))))
   (some (e,⟨a,c,d⟩))
def DA(e:Bool)(d c:Nat)(b:T)(a:H):aa (T×H):=
 Bool.casesOn e (Option.casesOn (jn a d b) (nN c b a) λf=>uG d c b f a) (nN c b a)
inductive fZ where
 |nil
 |cons (s:Nat) (v:T) (r:fZ)
 deriving Inhabited
structure Env where
 vars:fZ
 tmps:fZ
 deriving Inhabited
def dL(c:fZ)(d:Nat):aa T:=
 @fZ.rec (λ_=>aa T) none (λb e _ a=>Bool.rec a (some e) (Nat.beq b d)) c
def mc(e:fZ)(b:Nat)(c:T):aa fZ:=
 @fZ.rec (λ_=>aa fZ) (some (.cons b c .nil)) (λa h f d=>Bool.rec (dW d λg=>some (.cons a h g)) (some (.cons a c f)) (Nat.beq a b)) e
def kq(a b:Nat):Bool:=Nat.beq (Nat.land (Nat.shiftRight a b) 1) 1
def Env.get(c:Nat)(b:Env)(a:Nat):aa T:=
 Env.casesOn b λe d=>Bool.casesOn (kq c a) (dL d a) (dL e a)
def Env.set(g:Nat)(e:Env)(a:Nat)(c:T):aa Env:=
 Env.casesOn e λd b=>Bool.casesOn (kq g a) (some ⟨d,.cons a c b⟩) (dW (mc d a c) λf=>some ⟨f,b⟩)
def Env.dst(c:Nat)(a:Env)(b:aa Tmp)(e:T):aa Env:=
 Option.casesOn b (some a) λd=>a.set c d e
def Bj(b:List UInt8):aa (List Nat):=fQ (λa=>iq a.toNat) b
def oJ:am->aa T
 | .bool a=>some (.bool a)
 | .int b d=>some (.int b d)
 | .string e=>dW (Bj e.data.toList) λc=>some (.str c)
 | .pointer none=>some .kE
 | .map none=>some .oq
 | .slice none 0 0=>some (.dK [] false)
 | .nilFunc=>some .kT
 | .nilIface=>some .kS
 |_=>none
def zK:am->aa T
 | .agg a=>dW (fQ oJ a.toList) λb=>some (.agg b)
 |v=>oJ v
def fN(cx:Ctx)(e:Nat)(b:Env)(f:ah):aa T:=
 Operand.casesOn f (λg=>b.get e g) (λh=>zK h) (λd=>dW (cx.gl d) λa=>some (.jH a)) (λc=>some (.func c []))
def qG(cx:Ctx)(c:Nat)(a:Env)(b:List ah):aa (List T):=fQ (fN cx c a) b
def qu:T->aa Nat
 | .int _ b=>Int.casesOn b (λa=>some a) (λ_=>none)
 |_=>none
def sH(g:U)(c a:T):aa Bool:=
 match g with
 | .int _=>(match c with| .int e d=>(match a with| .int f b=>gX (Ew e f) (some (Tz d b))|_=>none)|_=>none)
 | .bool=>(match c with| .bool d=>(match a with| .bool b=>some (Bool.casesOn d (Bool.casesOn b true false) b)|_=>none)|_=>none)
 | .str=>(match c with| .str d=>(match a with| .str b=>some (WB d b)|_=>none)|_=>none)
 | .ptr _=>(match c with
  | .kE=>(match a with| .kE=>some true| .ptr .. | .jH _=>some false|_=>none)
  | .ptr .. | .jH _=>(match a with| .kE=>some false|_=>none)
  |_=>none)
 | .func=>(match c with
  | .kT=>(match a with| .kT=>some true| .func .. =>some false|_=>none)
  | .func .. =>(match a with| .kT=>some false|_=>none)
  |_=>none)
 | .iface=>(match c with
  | .kS=>(match a with| .kS=>some true| .iface .. =>some false|_=>none)
  | .iface .. =>(match a with| .kS=>some false|_=>none)
  |_=>none)
 |_=>none
def U.plain:U->Bool
 | .int _| .bool| .str=>true
 |_=>false
def eqFields(cx:Ctx)(f:List (Nat×ab)):Nat->List T->List T->aa Bool:=
 @List.rec (Nat×ab) (λ_=>Nat->List T->List T->aa Bool) (λ_ _ _=>some true)
  (λa _ g b d e=>List.casesOn d none λk h=>List.casesOn e none λl i=>gX (Nat.beq a.1 b) (dW (cx.ty a.2) λc=>gX c.u.plain
    (dW (sH c.u k l) λj=>Bool.casesOn j (some false) (g (Nat.succ b) h i)))) f
def Ag(f:U)(b:List T):List T->aa Bool:=
 @List.rec T (λ_=>List T->aa Bool) (λa=>List.casesOn a (some true) λ_ _=>none)
  (λg _ c a=>List.casesOn a none λh d=>dW (sH f g h) λe=>Bool.casesOn e (some false) (c d)) b
def Pc(cx:Ctx)(d:Ty)(e f:T):aa Bool:=
 match d.u with
 | .struct h=>(match e with
  | .agg a=>(match f with
   | .agg b=>gX d.cmp (eqFields cx h 0 a b)
   |_=>none)
  |_=>none)
 | .array i g=>(match e with
  | .agg a=>(match f with
   | .agg b=>gX d.cmp (dW (cx.ty g) λc=>gX c.u.plain (gX (Nat.beq c.size 1) (gX (Nat.beq (kY a) i) (Ag c.u a b))))
   |_=>none)
  |_=>none)
 |u=>sH u e f
def xQ(f g:T)(d:ak->Int->Int->aa T):aa T:=
 match f with
 | .int a b=>(match g with| .int e c=>gX (Ew a e) (d a b c)|_=>none)
 |_=>none
def AH(f g:T)(d:ak->Int->Nat->aa T):aa T:=
 match f with
 | .int a b=>(match g with| .int _ c=>Int.casesOn c (λe=>d a b (min e a.bits)) (λ_=>none)|_=>none)
 |_=>none
def Lu(h c:T)(d:Int->Int->Bool)(e:List Nat->List Nat->Bool):aa T:=
 match h with
 | .int f a=>(match c with| .int g b=>gX (Ew f g) (xX (d a b))|_=>none)
 | .str a=>(match c with| .str b=>xX (e a b)|_=>none)
 |_=>none
def Vm(d e:T):aa T:=
 match d with
 | .str a=>(match e with
  | .str b=>dW (Fg a b) λc=>gX (Nat.ble (kY c) 4294967296) (some (.str c))
  |_=>none)
 |_=>xQ d e λf a b=>qz f (a+b)
def binop:BinOp->T->T->aa T
 | .add=>Vm
 | .sub=>λd e=>xQ d e λc a b=>qz c (a-b)
 | .mul=>λd e=>xQ d e λc a b=>qz c (a*b)
 | .quo=>λd e=>xQ d e λc a b=>Bool.casesOn (Tz b 0) (qz c (a.tdiv b)) none
 | .rem=>λd e=>xQ d e λc a b=>Bool.casesOn (Tz b 0) (yt c (a.tmod b)) none
 | .and=>λd e=>xQ d e λc a b=>yt c (c.wrap (BitVec.ofInt c.bits a&&&BitVec.ofInt c.bits b).toNat)
 | .or=>λd e=>xQ d e λc a b=>yt c (c.wrap (BitVec.ofInt c.bits a|||BitVec.ofInt c.bits b).toNat)
 | .xor=>λd e=>xQ d e λc a b=>yt c (c.wrap (BitVec.ofInt c.bits a^^^BitVec.ofInt c.bits b).toNat)
 | .shl=>λd e=>AH d e λc a f=>yt c (c.wrap (a*2^f))
 | .shr=>λd e=>AH d e λc a f=>yt c (a.fdiv (2^f))
 | .lss=>λd e=>Lu d e Mo Tu
 | .leq=>λd e=>Lu d e (λa b=> !Mo b a) (λa b=> !Tu b a)
 | .gtr=>λd e=>Lu d e (λa b=>Mo b a) (λa b=>Tu b a)
 | .geq=>λd e=>Lu d e (λa b=> !Mo a b) (λa b=> !Tu a b)
 |_=>λ_ _=>none
def unop:UnOp->T->aa T
 | .neg=>λa=>(match a with| .int c d=>qz c (0-d)|_=>none)
 | .not=>λa=>(match a with| .bool b=>Bool.casesOn b (some (.bool true)) (some (.bool false))|_=>none)
 |_=>λ_=>none
def conv(cx:Ctx)(c:ab)(a:T):aa T:=
 dW (cx.ty c) λb=>match b.u with
  | .int d=>(match a with| .int _ n=>qz d n|_=>none)
  | .str=>(match a with| .str e=>some (.str e)|_=>none)
  |_=>none
def Eh(cx:Ctx)(d:ab)(i:T):aa T:=
 dW (cx.ty d) λc=>match c.u with
  | .slice e=>(match i with
   | .str a=>dW (cx.ty e) λh=>(match h.u with
    | .int g=>gX (Ew g .u8) (List.casesOn a (some .gW) λ_ _=>dW (fQ (λb=>some (T.int .u8 (.ofNat b))) a) λf=>some (.dK f false))
    |_=>none)
   |_=>none)
  |_=>none
def xJ(cx:Ctx)(c:ab)(a:Nat):aa (Nat×ab):=
 dW (cx.ty c) λd=>match d.u with| .struct b=>mM b a|_=>none
def mU(place:Nat->aa (Nat×Nat))(f:List (Nat×T)):List T->aa (List T):=
 @List.rec (Nat×T) (λ_=>List T->aa (List T)) (λa=>some a)
  (λb _ e a=>dW (place b.1) λc=>gX (Nat.beq (kY b.2.cells) c.2) (dW (kV a c.1 b.2.cells) λd=>e d)) f
def qd(h:Nat)(g:List (Nat×T)):List T->aa (List T):=
 @List.rec (Nat×T) (λ_=>List T->aa (List T)) (λa=>some a)
  (λf _ e a=>two f λd b=>gX (Nat.beq (kY b.cells) h) (dW (kO a d b) λc=>e c)) g
def partsOf(cx:Ctx)(e:Nat)(b:Env)(d:List (Nat×ah)):aa (List (Nat×T)):=
 fQ (λg=>two g λc f=>dW (fN cx e b f) λa=>gX a.ir (some (c,a))) d
def jX(cx:Ctx)(b:Nat)(a:Env)(f:aa ah):aa (aa Nat):=
 Option.casesOn f (some none) λd=>dW (fN cx b a d) λe=>dW (qu e) λc=>some (some c)
def gH(c:aa Nat)(a:Nat):Nat:=Option.casesOn c a λb=>b
def Ls{b:Type}(d:List b)(a c:Nat):aa (List b):=dW (j8 a d) λe=>takeN (Nat.sub c a) e
def ug(c:List T)(e:Bool)(d a:Nat)(g:aa Nat):aa T:=
 gX (Nat.ble d a) (dW (Ls c d a) λb=>Option.casesOn g
  (List.casesOn b (List.casesOn c (some (.dK [] false)) λ_ _=>some .gW) λ_ _=>some (.dK b (Bool.casesOn e false (Nat.beq a (kY c)))))
  λf=>gX (Nat.beq f a) (List.casesOn b (some (.dK [] false)) λ_ _=>some (.dK b true)))
def wj(b c k g:Nat)(h:Bool)(e a:Nat)(j:aa Nat):aa T:=
 gX (Nat.ble e a) (gX (Nat.ble a g) (dW (iq (Nat.add k e)) λf=>dW (iq (Nat.sub a e)) λd=>Option.casesOn j
  (Bool.casesOn h (some (.arr b c f d false)) (gX (Nat.beq a g) (some (.arr b c f d true))))
  λi=>gX (Nat.beq i a) (some (.arr b c f d true))))
def pT(m:T)(b a c:aa Nat):aa T:=
 match m with
 | .str e=>Option.casesOn c (gX (Nat.ble (gH b 0) (gH a (kY e))) (dW (Ls e (gH b 0) (gH a (kY e))) λl=>some (.str l))) λ_=>none
 | .dK f d=>ug f d (gH b 0) (gH a (kY f)) c
 | .gW=>gX (Nat.beq (gH b 0) 0) (gX (Nat.beq (gH a 0) 0) (Option.casesOn c (some .gW) λj=>gX (Nat.beq j 0) (some (.dK [] false))))
 | .arr h i k g d=>wj h i k g d (gH b 0) (gH a g) c
 |_=>none
inductive lQ where
 |val (v:T) (h:H)
 |call (f:aj) (args:List T)
 deriving Inhabited
def val(a:H)(c:aa T):aa lQ:=dW c λb=>some (.val b a)
def jL(d:aa (T×H)):aa lQ:=dW d λb=>two b λc a=>some (.val c a)
abbrev Hd:=Ctx->Nat->Env->H->aa lQ
def DJ(d:ah):Hd:=λcx c a b=>val b (fN cx c a d)
def F3(a e f:ah):Hd:=λcx c b d=>
 dW (fN cx c b a) λa=>match a with
  | .bool g=>Bool.casesOn g (val d (fN cx c b f)) (val d (fN cx c b e))
  |_=>none
def xH(cx:Ctx)(d:Ty):Bool:=
 match d.u with
 | .array _ a=>Option.casesOn (cx.ty a) false λc=>(match c.u with| .int b=>Ew b .u8|_=>false)
 |_=>false
def DQ(d:ab):Hd:=λcx _ _ c=>dW (cx.ty d) λa=>Bool.casesOn (xH cx a)
 (jL (c.new (λb=> .ptr b 0 0 0) (lL a.size true [a.kt])))
 (jL (c.new (λb=> .ptr b 0 0 0) (lL 1 true a.zero)))
def Ox(f:ah):Hd:=λcx e c d=>dW (fN cx e c f) λa=>gX a.ir (jL (d.new (λb=> .ptr b 0 0 0) (lL (kY a.cells) true [a])))
def Ba(m:ab)(l:af (Nat×ah)):Hd:=λcx k h e=>
 dW (cx.ty m) λc=>dW (partsOf cx k h l.toList) λf=>match c.u with
  | .struct j=>dW (mU (λb=>dW (mM j b) λd=>dW (cx.ty d.2) λn=>some (d.1,n.size)) f c.zero) λa=>val e (some (.agg a))
  | .array _ i=>dW (cx.ty i) λg=>dW (mU (λb=>some (Nat.mul b g.size,g.size)) f c.zero) λa=>val e (some (.agg a))
  |_=>none
def oS(k:ab)(b:Nat)(i:af (Nat×ah)):Hd:=λcx h d g=>
 dW (cx.ty k) λl=>match l.u with
  | .slice e=>dW (cx.ty e) λa=>dW (partsOf cx h d i.toList) λj=>
   gX (Nat.ble 1 a.size)<|gX (Nat.ble (Nat.mul b a.size) 65536) (dW (qd a.size j (pV a.kt b)) λf=>
    jL (g.new (λc=> .arr c 0 0 b false) (lL a.size true f)))
  |_=>none
def Jg(e:ab)(a:ah):Hd:=λcx d c b=>dW (cx.ty e) λf=>dW (fN cx d c a) λa=>val b (b.load f a)
def DG(g:ab)(a i:ah):Hd:=λcx c b e=>
 dW (cx.ty g) λh=>dW (fN cx c b a) λa=>dW (fN cx c b i) λd=>gX d.ir (dW (e.store h a d) λf=>some (.val .undef f))
def rU(e:ah):Hd:=λcx d b c=>dW (fN cx d b e) λa=>match a with
 | .ptr .. | .jH _| .func .. =>some (.val a c)
 |_=>none
def BI(c d:ah)(a b:T):Bool:=
 match a with
 | .kS=>(match b with| .kS=>Region.isConst c||Region.isConst d|_=>true)
 |_=>true
def Ym(i:Bool)(j:ab)(f g:ah):Hd:=λcx d c h=>
 dW (cx.ty j) λk=>dW (fN cx d c f) λa=>dW (fN cx d c g) λb=>
  gX (BI f g a b) (dW (Pc cx k a b) λe=>val h (xX (Bool.casesOn i e (!e))))
def Oy(f:BinOp)(g h:ah):Hd:=λcx b a e=>
 dW (fN cx b a g) λc=>dW (fN cx b a h) λd=>val e (binop f c d)
def hUn(e:UnOp)(f:ah):Hd:=λcx d b c=>dW (fN cx d b f) λa=>val c (unop e a)
def byteOf(d:T):aa Nat:=match d with
 | .int b c=>gX (Ew b .u8) (Int.casesOn c (λa=>gX (Nat.blt a 256) (some a)) (λ_=>none))
 |_=>none
def Id(cx:Ctx)(d:H)(g:ab)(i:T):aa T:=
 dW (cx.ty g) λf=>match f.u with
  | .slice b=>dW (cx.ty b) λh=>(match h.u with
   | .int e=>gX (Ew e .u8) (dW (d.jw i) λc=>dW (fQ byteOf c) λa=>gX (Nat.ble (kY a) 4294967296) (some (.str a)))
   |_=>none)
  |_=>none
def Ms(d c:ab)(h:ah):Hd:=λcx g f b=>dW (cx.ty d) λ_=>dW (fN cx g f h) λa=>
 dW (cx.ty c) λe=>match e.u with
  | .slice _=>val b (Eh cx c a)
  | .str=>(match a with
   | .str _=>val b (conv cx c a)
   |_=>val b (Id cx b d a))
  |_=>val b (conv cx c a)
def A7(b:ab)(g:ah):Hd:=λcx e c d=>dW (cx.ty b) λf=>match f.u with
 | .iface=>none
 |_=>dW (fN cx e c g) λa=>gX a.ir (val d (some (.iface b a)))
def DM(e:Fn)(first a:af ah):Hd:=λcx g c f=>match e with
 | .func d=>(match first.toList with
  | []=>dW (qG cx g c a.toList) λb=>val f (some (.func d b))
  |_=>none)
 |_=>none
def pZ(i:ab)(a b:ah):Hd:=λcx e d h=>dW (cx.ty i) λj=>match j.u with
 | .slice g=>dW (cx.ty g) λc=>dW (fN cx e d a) λa=>dW (fN cx e d b) λb=>dW (qu a) λa=>dW (qu b) λb=>
  gX (Nat.ble 1 c.size)<|gX (Nat.ble 1 c.bytes)<|gX (Nat.ble a b) (gX (Nat.ble (Nat.mul b c.bytes) 70368744177664) (jL (h.new (λf=> .arr f 0 0 a false) (lL c.size (Nat.beq a b) (pV c.kt a)))))
 |_=>none
def AW(a b:aa Nat):Bool:=Option.casesOn b true λ_=>Option.casesOn a false λ_=>true
def jJ(cx:Ctx)(f:H)(p:U)(e:T):Bool:=
 match p with
 | .str=>(match e with| .str _=>true|_=>false)
 | .slice d=>Option.casesOn (cx.ty d) false λa=>(match e with
  | .dK j _=>fits a.size j
  | .gW=>true
  | .arr b _ _ _ _=>Option.casesOn (f.get b) false λc=>Nat.beq c.sz a.size
  |_=>false)
 | .array n d=>Option.casesOn (cx.ty d) false λa=>(match e with
  | .ptr b h k m=>Option.casesOn (f.get b) false λc=>iX.casesOn c λo i _ exact l g=>
   Nat.beq o a.size&&Nat.beq i h&&Nat.beq k 0&&Nat.beq m 0&&exact&& !l&&Nat.beq (kY g) n
  |_=>false)
 |_=>false
def asSlice(e:U)(a:T):T:=match e with
 | .array d _=>(match a with| .ptr b c _ _=> .arr b c 0 d false|_=>a)
 |_=>a
def DH(i:ab)(e:ah)(f b d:aa ah):Hd:=λcx c a g=>dW (cx.ty i) λh=>
 dW (fN cx c a e) λe=>gX (jJ cx g h.u e)<|dW (jX cx c a f) λf=>dW (jX cx c a b) λb=>dW (jX cx c a d) λd=>gX (AW b d) (val g (pT (asSlice h.u e) f b d))
def p8(n:ab)(a:ah)(i:Nat):Hd:=λcx m g c=>dW (xJ cx n i) λb=>dW (fN cx m g a) λa=>match a with
 | .ptr d h j k=>dW (iq (Nat.add k b.1)) λl=>some (.val (.ptr d h j l) c)
 | .jH e=>dW (j8 b.1 e) λf=>some (.val (.jH f) c)
 |_=>none
def A9(i:ab)(a:ah)(e:Nat):Hd:=λcx g d f=>
 dW (xJ cx i e) λb=>dW (cx.ty b.2) λj=>dW (fN cx g d a) λa=>match a with
  | .agg c=>dW (j8 b.1 c) λh=>val f (ku j h)
  |_=>none
def kK(a:H)(f:Ty)(l:T)(b:Nat):aa lQ:=
 match l with
 | .dK h _=>dW (mM h b) λg=>gX (Nat.beq (kY g.cells) f.size) (some (.val (.jH g.cells) a))
 | .arr c e k j _=>gX (Nat.blt b j) (dW (a.get c) λd=>gX (Nat.beq d.sz f.size)<|gX (Nat.beq d.ep e) (dW (iq (Nat.add k b)) λi=>some (.val (.ptr c e i 0) a)))
 |_=>none
def pA(a:H)(m:Nat)(d:Ty)(n:T)(b:Nat):aa lQ:=
 gX (Nat.blt b m) (match n with
  | .ptr c e f g=>dW (a.get c) λh=>Bool.casesOn (Nat.beq h.sz d.size)
   (dW (iq (Nat.add g (Nat.mul b d.size))) λl=>some (.val (.ptr c e f l) a))
   (gX (Nat.beq g 0) (dW (iq (Nat.add f b)) λk=>some (.val (.ptr c e k 0) a)))
  | .jH i=>dW (j8 (Nat.mul b d.size) i) λj=>some (.val (.jH j) a)
  |_=>none)
def p7(j:ab)(a c:ah):Hd:=λcx h e f=>
 dW (cx.ty j) λk=>dW (fN cx h e a) λa=>dW (fN cx h e c) λc=>dW (qu c) λg=>match k.u with
  | .slice b=>dW (cx.ty b) λd=>kK f d a g
  | .array i b=>dW (cx.ty b) λd=>pA f i d a g
  |_=>none
def A6(n:ab)(a c:ah):Hd:=λcx f d e=>
 dW (cx.ty n) λo=>dW (fN cx f d a) λa=>dW (fN cx f d c) λc=>dW (qu c) λb=>match o.u with
  | .str=>(match a with| .str m=>dW (mM m b) λh=>val e (some (.int .u8 (.ofNat h)))|_=>none)
  | .array k j=>(match a with
   | .agg i=>dW (cx.ty j) λg=>gX (Nat.blt b k) (dW (j8 (Nat.mul b g.size) i) λl=>val e (ku g l))
   |_=>none)
  |_=>none
def uM(g:ah)(c:Nat):Hd:=λcx d a b=>dW (fN cx d a g) λe=>match e with| .tuple f=>val b (mM f c)|_=>none
def DI(g:ah):Hd:=λcx d b c=>dW (fN cx d b g) λf=>match f with
 | .str e=>jL (c.new (λa=> .iter a) ⟨1,0,0,true,true,[.str e,.int .i64 0]⟩)
 |_=>none
def z9(d:ab)(f:ah):Hd:=λcx c a b=>dW (cx.ty d) λe=>match e.u with
 | .str=>DI f cx c a b
 |_=>none
def zL(c:List Nat)(b:Nat):aa (Nat×Nat):=dW (mM c b) λa=>Bool.casesOn (Nat.blt a 128) (Bool.casesOn (Nat.blt a 256) (some (65533,1)) (some (Utf8.decode ⟨(c.map UInt8.ofNat).toArray⟩ b))) (some (a,1))
def A3(i:ah):Hd:=λcx j g c=>(dW (fN cx j g i) λm=>match m with
 | .iter e=>dW (c.get e) λa=>gX a.it (match a.fc with
  | [.str d,.int _ (.ofNat b)]=>Bool.casesOn (Nat.blt b (kY d)) (some (.val (.tuple [.bool false]) c))
   (dW (zL d b) λl=>two l λf wd=>dW (iq (Nat.add b wd)) λk=>dW (iq (Nat.succ a.ver)) λn=>
     dW (c.put e ⟨a.sz,a.ep,n,a.exact,true,[.str d,.int .i64 (.ofNat k)]⟩) λh=>
      some (.val (.tuple [.bool true,.int .i64 (.ofNat b),.int .i32 (.ofNat f)]) h))
  |_=>none)
 |_=>none)
def Je(d:ah)(c:Bool):Hd:=λcx e a b=>Bool.casesOn c none (A3 d cx e a b)
def OS(cx:Ctx)(a:H)(h:List ab)(c:T):aa lQ:=
 dW (mM h 0) λg=>dW (cx.ty g) λi=>match i.u with
  | .str=>(match c with
   | .str f=>val a (dW (iq (kY f)) λb=>some (.int .i64 (.ofNat b)))
   |_=>none)
  | .slice _=>(match c with
   | .dK d _=>val a (dW (iq (kY d)) λb=>some (.int .i64 (.ofNat b)))
   | .gW=>val a (some (.int .i64 0))
   | .arr _ _ _ e _=>val a (some (.int .i64 (.ofNat e)))
   |_=>none)
  | .array b _=>val a (some (.int .i64 (.ofNat b)))
  |_=>none
def rm(cx:Ctx)(b:ab):aa Ty:=
 dW (cx.ty b) λc=>match c.u with| .slice a=>cx.ty a|_=>none
def om(cx:Ctx)(d:H)(e:ab)(a:T):aa (List T):=
 dW (cx.ty e) λf=>match f.u with
  | .str=>(match a with| .str b=>fQ (λc=>some (T.int .u8 (.ofNat c))) b|_=>none)
  | .slice _=>d.jw a
  |_=>none
def jc(cx:Ctx)(b:H)(e f:ab)(d g:T):aa lQ:=
 dW (rm cx e) λa=>dW (om cx b f g) λc=>gX (fits a.size c) (jL (b.append a.size a.bytes d c))
def Ek(cx:Ctx)(a:H)(n:ab)(q:T):aa lQ:=
 dW (rm cx n) λg=>match q with
  | .dK b _=>List.casesOn b (some (.val .undef a)) λ_ _=>none
  | .gW=>some (.val .undef a)
  | .arr c j m e _=>Nat.casesOn e (some (.val .undef a)) λ_=>dW (a.get c) λh=>iX.casesOn h λf d o exact l i=>
   gX (Nat.beq d j)<|gX (Nat.beq f g.size) (Bool.casesOn l
    (dW (kV i m (pV g.kt e)) λb=>dW (iq (Nat.succ o)) λp=>
      dW (a.put c ⟨f,d,p,exact,false,b⟩) λk=>some (.val .undef k)) none)
  |_=>none
def lF:Builtin->Ctx->H->List ab->List T->aa lQ
 | .clear=>λcx b f a=>(match a with| [c]=>(match f with| [h]=>Ek cx b h c|_=>none)|_=>none)
 | .len=>λcx b f a=>(match a with| [c]=>OS cx b f c|_=>none)
 | .append=>λcx b f a=>(match a with| [j,c]=>(match f with| [h,k]=>jc cx b h k j c|_=>none)|_=>none)
 | .min=>λ_ b _ a=>(match a with| [c,i]=>val b (xQ c i λg d e=>yt g (Bool.casesOn (Mo e d) d e))|_=>none)
 | .max=>λ_ b _ a=>(match a with| [c,i]=>val b (xQ c i λg d e=>yt g (Bool.casesOn (Mo d e) d e))|_=>none)
 |_=>λ_ _ _ _=>none
def DP(a:Call):Hd:=λcx e d h=>dW (qG cx e d a.args.toList) λc=>match a.callee with
 | .builtin f=>lF f cx h a.argTypes.toList c
 | .value b=>dW (fN cx e d b) λj=>(match j with
  | .func b g=>dW (Fg c g) λi=>some (.call b i)
  |_=>none)
 |_=>none
def jr:Op->Hd
 | .move a=>DJ a
 | .assign a=>DJ a
 | .pick d c g=>F3 d c g
 | .alloc b=>DQ b
 | .box _ a=>Ox a
 | .build b i=>Ba b i
 | .buildSlice b q i=>oS b q i
 | .load b c=>Jg b c
 | .store b c a=>DG b c a
 | .nilCheck a=>rU a
 | .binOp f b a j _=>(match f with| .eql=>Ym false b a j| .neq=>Ym true b a j|_=>Oy f a j)
 | .unOp f _ a=>hUn f a
 | .convert s k a=>Ms s k a
 | .makeInterface b a=>A7 b a
 | .makeFunc l c g=>DM l c g
 | .makeSlice b n d=>pZ b n d
 | .slice b a o m p=>DH b a o m p
 | .fieldAddr b a h=>p8 b a h
 | .field b a h=>A9 b a h
 | .indexAddr b a e=>p7 b a e
 | .index b a e=>A6 b a e
 | .extract a e=>uM a e
 | .makeMap .. =>λ_ _ _ _=>none
 | .lookup .. =>λ_ _ _ _=>none
 | .mapUpdate .. =>λ_ _ _ _=>none
 | .range b a=>z9 b a
 | .next it r=>Je it r
 | .entry _=>λ_ _ _ _=>none
 | .call d=>DP d
 |_=>λ_ _ _ _=>none
def BX(e:ai):TypeDesc->aa U
 | .int c=>some (.int c)
 | .bool=>some .bool
 | .string=>some .str
 | .slice a=>some (.slice a)
 | .array g a=>some (.array g a)
 | .struct d=>if d.toList.all (λb=>(e.info? b.type).any λf=> !(f.size==0))then some (.struct (d.toList.map λb=>(b.offset,b.type)))else none
 | .pointer a=>some (.ptr a)
 | .map c a=>some (.map c a)
 | .func _ _ _=>some .func
 | .interface _=>some .iface
 |_=>some .other
def t9(a:TypeDesc)(b:am):Bool:=
 match a,b with
 | .struct _,.agg _| .array _ _,.agg _=>true
 | .struct _,_| .array _ _,_|_,.agg _=>false
 |_,_=>true
def Mm:TypeDesc->Bool
 | .struct b=>b.toList.all λa=>a.name != "_"
 |_=>true
def Xe(a:ai)(c:ab)(e:Bool):aa Ty:=
 dW (a.info? c) λb=>dW (a.underlying c) λd=>dW b.zero λf=>dW (fQ oJ f.cells.toList) λg=>dW (BX a d) λh=>
  gX (t9 d f) (gX (Nat.beq (kY g) b.size) (gX (Bool.casesOn e true (!a.stoodInHeld c&& !a.eqGuardType a.depth c&&Mm d)) (some ⟨h,b.size,b.bytes,e,g⟩)))
abbrev je:=aj->List T->H->aa (T×H)
def kC(i:af Oper)(g:Nat)(d:Env)(e:aa (Nat×Bool)):aa Bool:=
 Option.casesOn e (some true) λj=>two j λf a=>dW (dW (dW (mM i.toList f) λh=>h.dst) λc=>d.get g c) λk=>
  match k with
  | .bool b=>some (Bool.casesOn b (Bool.casesOn a true false) a)
  |_=>some false
def lJ(cx:Ctx)(call:je)(c:Nat)(k:af Oper)(a:Env)(e:H)(d:Oper):aa (Env×H):=
 dW (kC k c a d.guard) λm=>Bool.casesOn m
  (dW (a.dst c d.dst .undef) λb=>some (b,e))
  (dW (jr d.op cx c a e) λi=>lQ.casesOn i
    (λg f=>dW (a.dst c d.dst g) λb=>some (b,f))
    (λj h=>dW (call j h e) λl=>two l λg f=>dW (a.dst c d.dst g) λb=>some (b,f)))
def kG(cx:Ctx)(call:je)(g:Nat)(i:af Oper)(f:List Oper):Env->H->aa (Env×H):=
 @List.rec Oper (λ_=>Env->H->aa (Env×H)) (λa b=>some (a,b))
  (λh _ e a b=>dW (lJ cx call g i a b h) λj=>two j λc d=>e c d) f
def dS:T->aa Nat
 | .ptr a _ _ _=>some a
 | .arr a _ _ _ _=>some a
 | .map a=>some a
 |_=>none
def ij(cx:Ctx)(d:Nat)(b:Env)(c:H)(e:Op):aa Nat:=
 match e with
 | .load _ a=>dW (fN cx d b a) dS
 | .indexAddr _ a _=>dW (fN cx d b a) dS
 | .slice _ a _ _ _=>dW (fN cx d b a) dS
 | .convert _ _ a=>dW (fN cx d b a) dS
 | .lookup _ a _ _=>dW (fN cx d b a) dS
 | .makeMap _ _=>some c.size
 | .alloc _=>some c.size
 | .box _ _=>some c.size
 | .buildSlice _ _ _=>some c.size
 | .makeSlice _ _ _=>some c.size
 |_=>none
def iG:Op->Bool
 | .store .. =>true
 | .call b=>(match b.callee with
  | .builtin a=>(match a with| .len| .min| .max=>false|_=>true)
  |_=>true)
 | .next .. =>true
 | .range .. =>true
 | .entry .. =>true
 | .mapUpdate .. =>true
 |_=>false
structure Seen where
 mN:List (Nat×Nat)
 kZ:List (Nat×H×H)
def xM(c:List Nat)(d:List Edge):Nat:=
 d.foldr (λa b=>Bool.casesOn (Region.binds .any a) b (Nat.lor b (Nat.lor (Nat.shiftLeft 1 a.on) (c.getD a.on 0)))) 0
def LD:List Oper->List Nat->List Nat
 | [],a=>a
 |o::b,a=>LD b (a++[xM a o.after.toList])
def jT(c:af Oper)(a b:Nat):Bool:=((LD c.toList []).getD b 0).testBit a
def fh(b c:H)(a:Nat):Bool:=
 Option.casesOn (b.get a) true λd=>Option.casesOn (c.get a) false λe=>Nat.beq d.ver e.ver
def oM(e:af Oper)(c b:Nat)(d:List (Nat×H×H)):Bool:=
 xR (λa=>Bool.casesOn (fh a.2.1 a.2.2 b) (jT e a.1 c) true) d
def yg(f:af Oper)(d:Nat)(b c:H)(e:List (Nat×Nat)):Bool:=
 xR (λa=>Bool.casesOn (fh b c a.2) (jT f a.1 d) true) e
def rI(cx:Ctx)(e:Nat)(g:af Oper)(c:Nat)(b:Env)(d:List (Nat×H×H))(f:Op):Bool:=
 match f with
 | .store _ h _=>Option.casesOn (dW (fN cx e b h) dS) true λa=>oM g c a d
 |_=>true
def j9(cx:Ctx)(call:je)(j:Nat)(g:af Oper)(l:List Oper):Nat->Seen->Env->H->aa (Env×H):=
 @List.rec Oper (λ_=>Nat->Seen->Env->H->aa (Env×H)) (λ_ _ c d=>some (c,d))
  (λf _ i a b c d=>dW (lJ cx call j g c d f) λm=>two m λh e=>
    dW (kC g j c f.guard) λn=>Bool.casesOn n (i (Nat.succ a) b h e)
     (Bool.casesOn (iG f.op)
       (Option.casesOn (ij cx j c d f.op) (i (Nat.succ a) b h e)
         λk=>gX (oM g a k b.kZ) (i (Nat.succ a) ⟨(a,k)::b.mN,b.kZ⟩ h e))
       (gX (yg g a d e b.mN) (gX (rI cx j g a c b.kZ f.op) (i (Nat.succ a) ⟨b.mN,(a,d,e)::b.kZ⟩ h e))))) l
inductive Ex where
 |normal|exit (id:Nat)|ret
 deriving Inhabited
abbrev Out:=aa (Ex×Env×H)
def three{a:Type}(e:Ex×Env×H)(c:Ex->Env->H->a):a:=Prod.casesOn e λg f=>Prod.casesOn f λb d=>c g b d
def oQ(c:Env->H->Out)(h:Nat):Env->H->Out:=
 @Nat.rec (λ_=>Env->H->Out) (λ_ _=>none)
  (λ_ g d e=>dW (c d e) λi=>three i λj a b=>Ex.casesOn j (g a b) (λf=>some (.exit f,a,b)) (some (.ret,a,b))) h
def L6(cx:Ctx)(call:je)(g:Nat)(a:af Oper)(i:Bool)(j:Env)(f:H):Out:=
 Env.casesOn j λh _=>Bool.casesOn i
  (dW (kG cx call g a a.toList ⟨h,.nil⟩ f) λd=>two d λb c=>some (.normal,Env.casesOn b λe _=>⟨e,.nil⟩,c))
  (dW (j9 cx call g a a.toList 0 ⟨[],[]⟩ ⟨h,.nil⟩ f) λd=>two d λb c=>some (.normal,Env.casesOn b λe _=>⟨e,.nil⟩,c))
def CR(c d:Env->H->Out)(e:Env)(f:H):Out:=
 dW (c e f) λh=>three h λi a b=>Ex.casesOn i (d a b) (λg=>some (.exit g,a,b)) (some (.ret,a,b))
def Jt(cx:Ctx)(f:Nat)(e:ah)(c d:Env->H->Out)(a:Env)(b:H):Out:=
 dW (fN cx f a e) λh=>match h with
  | .bool g=>Bool.casesOn g (d a b) (c a b)
  |_=>none
def yO(id:Nat)(d:Env->H->Out)(e:Env)(f:H):Out:=
 dW (d e f) λg=>three g λh a b=>Ex.casesOn h (some (.normal,a,b)) (λc=>Bool.casesOn (Nat.beq c id) (some (.exit c,a,b)) (some (.normal,a,b))) (some (.ret,a,b))
def kc(cx:Ctx)(call:je)(c a:Nat):Code->Env->H->Out
 | .skip=>λd e=>some (.normal,d,e)
 | .region _ i h=>L6 cx call a i h
 | .seq f b=>CR (kc cx call c a f) (kc cx call c a b)
 | .cond g f b=>Jt cx a g (kc cx call c a f) (kc cx call c a b)
 | .block id b=>yO id (kc cx call c a b)
 | .loop b=>oQ (kc cx call c a b) c
 | .exit id=>λd e=>some (.exit id,d,e)
 | .ret=>λd e=>some (.ret,d,e)
 |_=>λ_ _=>none
def mP(g:Nat)(h:Nat):Nat->List T->aa fZ:=
 @Nat.rec (λ_=>Nat->List T->aa fZ) (λ_ _=>some .nil)
  (λ_ c a f=>dW (iq (Nat.succ a)) λb=>List.casesOn f
    (Bool.casesOn (kq g a) (c b []) (dW (c b []) λd=>some (.cons a .undef d)))
    λe i=>dW (c b i) λd=>some (.cons a e d)) h
def nq(cx:Ctx)(c:Nat)(b:Env)(e:H)(f:List ResultVar):aa (List T):=
 fQ (λh=>ResultVar.casesOn h (λa=>b.get c a) (λd a=>dW (b.get c d) λg=>dW (cx.ty a) λi=>e.load i g)) f
def wU(b:Nat)(e:List Nat):Nat->aa Int:=
 @List.rec Nat (λ_=>Nat->aa Int) (λ_=>some (.negSucc 0))
  (λf _ d a=>Bool.casesOn (Nat.beq f b) (dW (iq (Nat.succ a)) λc=>d c) (some (.ofNat a))) e
def Da(f:Prim)(b:List T)(a:H):aa (T×H):=
 match f with
 | .oy=>(match b with
  | [.str g,.int .u8 (.ofNat c)]=>gX (Nat.blt c 256) (dW (wU c g 0) λe=>some (.int .i64 e,a))
  |_=>none)
 | .clone h bytes=>(match b with
  | [i]=>dW (a.jw i) λd=>List.casesOn d (some (.dK [] false,a)) λ_ _=>a.jo h bytes [] d
  |_=>none)
def jS(a:List T):T:=match a with| [b]=>b|_=> .tuple a
def tL(cx:Ctx)(call:je)(l:Nat)(a:Func)(c:Nat)(g:Bool)(i:List T)(m:H):aa (T×H):=
 Option.casesOn a.body none λj=>H.casesOn m λd h k=>
  dW (mP c a.ntmps 0 i) λo=>
  dW (kc cx call l c j ⟨o,.nil⟩ ⟨d,d,k⟩) λn=>three n λp f b=>Ex.casesOn p
   (dW (nq cx c f b a.results.toList) λe=>DA g d h (jS e) b)
   (λ_=>none)
   (dW (nq cx c f b a.results.toList) λe=>DA g d h (jS e) b)
