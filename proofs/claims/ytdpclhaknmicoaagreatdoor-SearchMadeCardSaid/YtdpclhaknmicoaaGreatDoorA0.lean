/- TiDefs -/
import GoSem.Step
set_option linter.all false
namespace Go.TI
theorem a9{α:Sort _}{a:α}:a=a:=id rfl
theorem nl9{α:Type}{f:α->Nat}{b:Nat}(h:∀a,Nat.ble (f a) b=true:=by intro _;rfl):∀a,f a<=b:=λa=>Nat.le_of_ble_eq_true (h a)
abbrev G{α:Type _}(a:α):Option α:=some a
theorem J{p:Prop}(h:p:=by omega):p:=h
theorem Y{p:Prop}(h:p:=by simp):p:=h
theorem dY{p:Prop}(h:p:=by (simp;omega)):p:=h
theorem dZ{p:Prop}(h:p:=by (simp only;omega)):p:=h
theorem d6{p:Prop}(h:p:=by decide):p:=h
end Go.TI
namespace Go.TI
abbrev aa:=@Option
abbrev ab:=@TypeId
abbrev af:=@Array
abbrev ah:=@Operand
abbrev ai:=@Program
abbrev aj:=@FuncId
abbrev ak:=@IntKind
abbrev am:=@Value
theorem aq:type_of% @if_neg:=@if_neg
theorem au:type_of% @if_pos:=@if_pos
theorem aw:type_of% @Option.some.injEq:=@Option.some.injEq
theorem ay:type_of% @Nat.le_refl:=@Nat.le_refl
theorem az:type_of% @Nat.zero_le:=@Nat.zero_le
theorem aB:type_of% @List.mem_of_getElem?:=@List.mem_of_getElem?
theorem aC:type_of% @Bool.and_eq_true:=@Bool.and_eq_true
theorem aD:type_of% @Prod.ext:=@Prod.ext
theorem aF:type_of% @List.getElem?_eq_getElem:=@List.getElem?_eq_getElem
theorem aG:type_of% @List.getElem_mem:=@List.getElem_mem
theorem aH:type_of% @Prod.mk.injEq:=@Prod.mk.injEq
theorem aI:type_of% @List.take_length:=@List.take_length
theorem aJ:type_of% @List.drop_eq_getElem_cons:=@List.drop_eq_getElem_cons
theorem aK:type_of% @Nat.eq_of_beq_eq_true:=@Nat.eq_of_beq_eq_true
theorem aL:type_of% @List.length_map:=@List.length_map
theorem aM:type_of% @List.take_succ_eq_append_getElem:=@List.take_succ_eq_append_getElem
theorem aO:type_of% @List.append_assoc:=@List.append_assoc
theorem aP:type_of% @decide_eq_true_eq:=@decide_eq_true_eq
theorem aQ:type_of% @Nat.blt_eq:=@Nat.blt_eq
theorem aR:type_of% @Nat.lt_or_ge:=@Nat.lt_or_ge
theorem aS:type_of% @List.map_cons:=@List.map_cons
theorem aT:type_of% @List.length_append:=@List.length_append
theorem aU:type_of% @List.length_cons:=@List.length_cons
theorem aV:type_of% @Nat.le_trans:=@Nat.le_trans
theorem aW:type_of% @List.cons_append:=@List.cons_append
theorem aY:type_of% @List.map_set:=@List.map_set
theorem aZ:type_of% @Bool.true_and:=@Bool.true_and
theorem bg:type_of% @decide_eq_false_iff_not:=@decide_eq_false_iff_not
theorem bh:type_of% @List.flatMap_cons:=@List.flatMap_cons
theorem bj:type_of% @decide_eq_false:=@decide_eq_false
theorem bp:type_of% @Nat.le_of_ble_eq_true:=@Nat.le_of_ble_eq_true
theorem bw:type_of% @List.getElem?_map:=@List.getElem?_map
theorem bC:type_of% @List.eq_nil_of_length_eq_zero:=@List.eq_nil_of_length_eq_zero
theorem bD:type_of% @Bool.eq_iff_iff:=@Bool.eq_iff_iff
theorem bE:type_of% @congrArg:=@congrArg
theorem bG:type_of% @Nat.mul_le_mul_right:=@Nat.mul_le_mul_right
theorem bH:type_of% @Ne.symm:=@Ne.symm
theorem bJ:type_of% @List.nil_append:=@List.nil_append
theorem bK:type_of% @decide_eq_true:=@decide_eq_true
theorem bL:type_of% @List.cons.injEq:=@List.cons.injEq
theorem bO:type_of% @Int.toNat_natCast:=@Int.toNat_natCast
theorem bP:type_of% @List.mem_or_eq_of_mem_set:=@List.mem_or_eq_of_mem_set
theorem bQ:type_of% @Nat.le_of_lt:=@Nat.le_of_lt
theorem bR:type_of% @List.map_nil:=@List.map_nil
theorem bS:type_of% @Nat.lt_of_lt_of_le:=@Nat.lt_of_lt_of_le
theorem bU:type_of% @List.mem_of_mem_take:=@List.mem_of_mem_take
theorem bV:type_of% @List.eq_of_mem_replicate:=@List.eq_of_mem_replicate
theorem bY:type_of% @List.mem_of_mem_drop:=@List.mem_of_mem_drop
theorem cd:type_of% @List.take_of_length_le:=@List.take_of_length_le
theorem cg:type_of% @List.mem_cons:=@List.mem_cons
theorem ci:type_of% @Bool.or_eq_false_iff:=@Bool.or_eq_false_iff
theorem cj:type_of% @List.getElem?_eq_none:=@List.getElem?_eq_none
theorem cm:type_of% @Bool.or_eq_true:=@Bool.or_eq_true
theorem cq:type_of% @List.append_nil:=@List.append_nil
theorem cr:type_of% @List.drop_length:=@List.drop_length
theorem cu:type_of% @List.getElem?_drop:=@List.getElem?_drop
theorem cw:type_of% @List.all_eq_true:=@List.all_eq_true
theorem cz:type_of% @List.mem_append:=@List.mem_append
theorem cA:type_of% @List.all_cons:=@List.all_cons
theorem cB:type_of% @List.take_append_drop:=@List.take_append_drop
theorem cC:type_of% @Array.getD_eq_getD_getElem?:=@Array.getD_eq_getD_getElem?
theorem cD:type_of% @Nat.succ_mul:=@Nat.succ_mul
theorem cE:type_of% @List.getElem?_set:=@List.getElem?_set
theorem cF:type_of% @List.not_mem_nil:=@List.not_mem_nil
theorem cG:type_of% @or_false:=@or_false
theorem cH:type_of% @List.flatMap_append:=@List.flatMap_append
theorem cJ:type_of% @Nat.add_mul:=@Nat.add_mul
theorem cK:type_of% @Bool.eq_false_iff:=@Bool.eq_false_iff
theorem cM:type_of% @List.getElem?_take:=@List.getElem?_take
theorem cN:type_of% @List.getElem?_append_left:=@List.getElem?_append_left
theorem cO:type_of% @Bool.not_eq_true':=@Bool.not_eq_true'
theorem cP:type_of% @Nat.min_eq_left:=@Nat.min_eq_left
theorem cQ:type_of% @Nat.ble_eq_true_of_le:=@Nat.ble_eq_true_of_le
theorem cS:type_of% @List.set_cons_zero:=@List.set_cons_zero
theorem cT:type_of% @List.mem_flatMap:=@List.mem_flatMap
theorem cU:type_of% @Array.ext':=@Array.ext'
theorem cV:type_of% @Nat.zero_add:=@Nat.zero_add
theorem cW:type_of% @List.length_nil:=@List.length_nil
theorem cX:type_of% @List.getElem?_append_right:=@List.getElem?_append_right
theorem cY:type_of% @List.getElem?_of_mem:=@List.getElem?_of_mem
theorem cZ:type_of% @Bool.not_eq_false':=@Bool.not_eq_false'
theorem c8:type_of% @Array.length_toList:=@Array.length_toList
theorem da:type_of% @List.getD_eq_getElem?_getD:=@List.getD_eq_getElem?_getD
theorem db:type_of% @Option.some.inj:=@Option.some.inj
theorem dc:type_of% @List.set_cons_succ:=@List.set_cons_succ
theorem df:type_of% @List.flatMap_nil:=@List.flatMap_nil
theorem dg:type_of% @List.mem_singleton:=@List.mem_singleton
theorem dh:type_of% @Nat.add_assoc:=@Nat.add_assoc
theorem dj:type_of% @Bool.false_eq_true:=@Bool.false_eq_true
theorem dp:type_of% @List.take_append_of_le_length:=@List.take_append_of_le_length
theorem dq:type_of% @List.mem_map:=@List.mem_map
theorem dt:type_of% @List.getElem?_set_self:=@List.getElem?_set_self
theorem du:type_of% @Nat.ne_of_beq_eq_false:=@Nat.ne_of_beq_eq_false
theorem dw:type_of% @List.mem_cons_of_mem:=@List.mem_cons_of_mem
theorem dx:type_of% @List.take_add_one:=@List.take_add_one
theorem dy:type_of% @Bool.false_and:=@Bool.false_and
theorem dz:type_of% @Bool.not_eq_true:=@Bool.not_eq_true
theorem dA:type_of% @Option.map_some:=@Option.map_some
theorem dB:type_of% @List.ext_getElem?:=@List.ext_getElem?
theorem dC:type_of% @List.mem_append_left:=@List.mem_append_left
theorem dD:type_of% @List.mem_cons_self:=@List.mem_cons_self
theorem dE:type_of% @Nat.lt_succ_self:=@Nat.lt_succ_self
theorem dF:type_of% @List.foldl_cons:=@List.foldl_cons
theorem dG:type_of% @List.length_set:=@List.length_set
theorem dH:type_of% @List.take_succ_cons:=@List.take_succ_cons
theorem dI:type_of% @Array.getElem?_push:=@Array.getElem?_push
theorem dJ:type_of% @List.replicate_succ:=@List.replicate_succ
theorem dK:type_of% @List.toList_toArray:=@List.toList_toArray
theorem dL:type_of% @List.mem_iff_getElem?:=@List.mem_iff_getElem?
theorem dM:type_of% @List.getElem?_cons_succ:=@List.getElem?_cons_succ
theorem dN:type_of% @Bool.and_eq_false_iff:=@Bool.and_eq_false_iff
theorem dO:type_of% @List.foldl_append:=@List.foldl_append
theorem dP:type_of% @List.pairwise_cons:=@List.pairwise_cons
theorem dQ:type_of% @List.singleton_append:=@List.singleton_append
theorem dR:type_of% @Nat.pow_le_pow_right:=@Nat.pow_le_pow_right
theorem dS:type_of% @List.length_range:=@List.length_range
theorem dT:type_of% @Int.toNat_of_nonneg:=@Int.toNat_of_nonneg
theorem dU:type_of% @List.mem_append_right:=@List.mem_append_right
theorem dV:type_of% @List.drop_eq_nil_of_le:=@List.drop_eq_nil_of_le
end Go.TI
namespace Go.TI
noncomputable section
inductive T where
 |undef
 |bool (b:Bool)
 |int (k:ak) (n:Int)
 |str (s:List Nat)
 |mn
 |ptr (b ep i j:Nat)
 |kH (cells:List T)
 |fg (im:List T) (full:Bool)
 |jf
 |arr (b ep o l:Nat) (full:Bool)
 |func (f:aj) (captured:List T)
 |mF
 |mN
 |iface (t:ab) (v:T)
 |iter (b:Nat)
 |map (b:Nat)
 |pV
 |agg (cells:List T)
 |tuple (vs:List T)
 deriving Inhabited
def T.cells:T->List T
 | .agg a=>a
 |v=>[v]
def T.je:T->Bool
 | .undef| .tuple _=>false
 |_=>true
structure jO where
 sz:Nat
 ep:Nat
 ver:Nat
 exact:Bool
 it:Bool
 im:List T
 deriving Inhabited
structure H where
 size:Nat
 low:Nat
 iA:List jO
 deriving Inhabited
inductive U where
 |int (k:ak)|bool|str|slice (e:ab)|array (n:Nat) (e:ab)|map (k e:ab)|struct (fs:List (Nat×ab))|ptr (e:ab)|func|iface|other
 deriving Inhabited
structure Ty where
 u:U
 size:Nat
 bytes:Nat
 cmp:Bool
 zero:List T
 deriving Inhabited
inductive Prim where
 |qF
 |clone (sz bytes:Nat)
 deriving Inhabited
structure Fun where
 fn:Func
 V:Nat
 mO:Bool
 aki:aa Prim
 deriving Inhabited
structure Ctx where
 ty:ab->aa Ty
 fn:aj->aa Fun
 gl:Nat->aa (List T)
def Z{a b:Type}(d:aa a)(c:a->aa b):aa b:=Option.casesOn d none c
def iX{a:Type}(b:Bool)(c:aa a):aa a:=Bool.casesOn b none c
def two{a b c:Type}(e:a×b)(d:a->b->c):c:=Prod.casesOn e d
def qN{a:Type}(c:List a):Nat->aa a:=
 @List.rec a (λ_=>Nat->aa a) (λ_=>none) (λf _ b e=> @Nat.rec (λ_=>aa a) (some f) (λd _=>b d) e) c
def nH{a:Type}(d:List a):Nat->a->aa (List a):=
 @List.rec a (λ_=>Nat->a->aa (List a)) (λ_ _=>none)
  (λi g c f b=> @Nat.rec (λ_=>aa (List a)) (some (b::g)) (λe _=>Z (c e b) λh=>some (i::h)) f) d
def takeN{a:Type}(d:Nat):List a->aa (List a):=
 @Nat.rec (λ_=>List a->aa (List a)) (λ_=>some [])
  (λ_ b c=> @List.rec a (λ_=>aa (List a)) none (λg e _=>Z (b e) λf=>some (g::f)) c) d
def lJ{a:Type}(d:Nat):List a->aa (List a):=
 @Nat.rec (λ_=>List a->aa (List a)) (λb=>some b)
  (λ_ c b=> @List.rec a (λ_=>aa (List a)) none (λ_ e _=>c e) b) d
def oo{a:Type}(c:List a):Nat:= @List.rec a (λ_=>Nat) 0 (λ_ _ b=>Nat.succ b) c
def D7{a:Type}(e f:List a):aa (List a):=
 @List.rec a (λ_=>aa (List a)) (some f) (λd _ b=>Z b λc=>some (d::c)) e
def iN{a b:Type}(c:a->aa b)(e:List a):aa (List b):=
 @List.rec a (λ_=>aa (List b)) (some []) (λg _ d=>Z (c g) λh=>Z d λf=>some (h::f)) e
def sM{a:Type}(d:a)(c:Nat):List a:= @Nat.rec (λ_=>List a) [] (λ_ b=>d::b) c
def D8{a:Type}(b:a->Bool)(d:List a):Bool:= @List.rec a (λ_=>Bool) true (λe _ c=>Bool.rec false c (b e)) d
def jd(b:Nat):aa Nat:=Nat.casesOn b (some 0) (λa=>some (Nat.succ a))
def Pw(c:Int):aa Int:=
 Int.casesOn c (λa=>Nat.casesOn a (some (.ofNat 0)) (λb=>some (.ofNat (Nat.succ b)))) (λa=>Nat.casesOn a (some (.negSucc 0)) (λb=>some (.negSucc (Nat.succ b))))
def Bi(a:ak)(c:Int):aa T:=Z (Pw c) λb=>some (.int a b)
def AR(a:Bool):aa T:=Bool.casesOn a (some (.bool false)) (some (.bool true))
def kNo:ak->Nat
 | .i8=>0| .i16=>1| .i32=>2| .i64=>3| .u8=>4| .u16=>5| .u32=>6| .u64=>7
def HY(a b:ak):Bool:=Nat.beq (kNo a) (kNo b)
def PB(d c:Int):Bool:=Int.casesOn d (λa=>Int.casesOn c (λb=>Nat.blt a b) (λ_=>false)) (λa=>Int.casesOn c (λ_=>true) (λb=>Nat.blt b a))
def Wn(d c:Int):Bool:=Int.casesOn d (λa=>Int.casesOn c (λb=>Nat.beq a b) (λ_=>false)) (λa=>Int.casesOn c (λ_=>false) (λb=>Nat.beq a b))
def OX(k:ak)(a:Int):Int:=
 match k with
 | .i64=>Int.casesOn a (λb=>Bool.casesOn (Nat.ble b 9223372036854775807) (IntKind.i64.wrap a) a) (λb=>Bool.casesOn (Nat.ble b 9223372036854775807) (IntKind.i64.wrap a) a)
 |k=>k.wrap a
def rN(a:ak)(b:Int):aa T:=Bi a (OX a b)
def XR(b:List Nat):List Nat->Bool:=
 @List.rec Nat (λ_=>List Nat->Bool) (λa=>List.casesOn a true (λ_ _=>false))
  (λe _ c a=>List.casesOn a false (λf d=>Bool.rec false (c d) (Nat.beq e f))) b
def Wj(d:List Nat):List Nat->Bool:=
 @List.rec Nat (λ_=>List Nat->Bool) (λa=>List.casesOn a false (λ_ _=>true))
  (λb _ e a=>List.casesOn a false (λc f=>Bool.rec (Bool.rec false (e f) (Nat.beq b c)) true (Nat.blt b c))) d
def H.get(d:H)(a:Nat):aa jO:=
 H.casesOn d λb _ c=>iX (Nat.blt a b) (qN c (Nat.sub (Nat.sub b 1) a))
def H.new(g:Nat->T)(h:H)(i:jO):aa (T×H):=
 H.casesOn h λa d c=>Z (jd (Nat.succ a)) λe=>some (g a,⟨e,d,i::c⟩)
def H.put(f:H)(a:Nat)(x:jO):aa H:=
 H.casesOn f λb d e=>iX (Nat.blt a b)
  (Z (nH e (Nat.sub (Nat.sub b 1) a) x) λc=>Bool.casesOn (Nat.blt a d) (some ⟨b,d,c⟩) (some ⟨b,a,c⟩))
def over(a:List T)(f:List T):aa (List T):=
 @List.rec T (λ_=>List T->aa (List T)) (λa=>some a)
  (λe _ b a=>List.casesOn a none (λ_ c=>Z (b c) λd=>some (e::d))) f a
def mR(a:List T)(d:Nat)(g:List T):aa (List T):=
 @Nat.rec (λ_=>List T->aa (List T)) (λa=>over a g)
  (λ_ c a=>List.casesOn a none (λb e=>Z (c e) λf=>some (b::f))) d a
def Ty.isAgg(a:Ty):Bool:=match a.u with| .struct _| .array _ _=>true|_=>false
def ZS(a:List T):T:=List.casesOn a .undef (λb _=>b)
def Ty.ls(a:Ty):T:=Bool.casesOn a.isAgg (ZS a.zero) (.agg a.zero)
def lI(b:Ty)(a:List T):aa T:=
 Bool.casesOn b.isAgg (qN a 0) (Z (takeN b.size a) λc=>some (.agg c))
def H.elem(e:H)(a c i:Nat):aa T:=
 Z (e.get a) λx=>jO.casesOn x λ_ d _ _ f b=>iX (Nat.beq d c) (Bool.casesOn f (qN b i) none)
def H.load(g:H)(b:Ty)(c:T):aa T:=
 match c with
 | .ptr d f h i=>Z (g.elem d f h) λe=>Z (lJ i e.cells) λa=>lI b a
 | .kH a=>lI b a
 |_=>none
def mT(d:T)(a:Nat)(b:List T):aa T:=
 match d with
 | .agg c=>Z (mR c a b) λe=>some (.agg e)
 |_=>match a,b with
  |0,[f]=>some f
  |_,_=>none
def H.store(d:H)(o:Ty)(g f:T):aa H:=
 match g with
 | .ptr a j e m=>iX (Nat.beq (oo f.cells) o.size) (Z (d.get a) λr=>jO.casesOn r λn c p exact l b=>
  iX (Nat.beq c j) (Bool.casesOn l (Z (qN b e) λh=>Z (mT h m f.cells) λi=>Z (nH b e i) λk=>
   Z (jd (Nat.succ p)) λq=>d.put a ⟨n,c,q,exact,false,k⟩) none))
 |_=>none
def H.kd(f:H)(k:T):aa (List T):=
 match k with
 | .fg e _=>some e
 | .jf=>some []
 | .arr a c i h _=>Z (f.get a) λl=>jO.casesOn l λ_ d _ _ g b=>iX (Nat.beq d c) (Bool.casesOn g (Z (lJ i b) λj=>takeN h j) none)
 |_=>none
def fits(c:Nat)(b:List T):Bool:=List.casesOn b true (λa _=>Nat.beq (oo a.cells) c)
def oO(b:Nat)(exact:Bool)(a:List T):jO:=⟨b,0,0,exact,false,a⟩
def H.ku(g:H)(a bytes:Nat)(d e:List T):aa (T×H):=
 Z (D7 d e) λb=>Z (jd (oo b)) λc=>
 iX (Nat.ble 1 bytes)<|iX (Nat.ble (Nat.mul c bytes) 70368744177664) (iX (fits a d) (iX (fits a e) (g.new (λf=> .arr f 0 0 c false) (oO a false b))))
def H.o6(e:H)(g bytes a k o:Nat)(i:List T):aa (T×H):=
 Z (e.get a) λr=>jO.casesOn r λh b p _ n j=>
  Z (takeN o j) λl=>Z (D7 l i) λd=>Z (jd (oo d)) λf=>
  iX (Nat.ble 1 bytes)<|iX (Nat.beq b k) (iX (Nat.beq h g) (iX (Nat.ble (Nat.mul f bytes) 70368744177664) (iX (fits g i) (Bool.casesOn n
   (Z (jd (Nat.succ b)) λc=>Z (jd (Nat.succ p)) λq=>
     Z (e.put a ⟨h,c,q,false,false,d⟩) λm=>some (.arr a c 0 f false,m)) none))))
def vM:T->Bool
 | .fg _ _| .jf| .arr .. =>true
 |_=>false
def H.append(a:H)(e bytes:Nat)(d:T)(b:List T):aa (T×H):=
 List.casesOn b (iX (vM d) (some (d,a))) λ_ _=>match d with
  | .fg c f=>List.casesOn c (a.ku e bytes [] b) λ_ _=>iX f (a.ku e bytes c b)
  | .arr g h j i f=>Bool.casesOn f
   (Nat.casesOn j (a.o6 e bytes g h i b) λ_=>none)
   (Z (a.kd d) λc=>a.ku e bytes c b)
  |_=>none
def freeze(m:H)(p:Nat)(h:Nat):T->aa T:=
 @Nat.rec (λ_=>T->aa T) (λ_=>none) (λ_ e f=>match f with
  | .arr b i q o l=>iX (Nat.ble p b) (Z (m.get b) λr=>jO.casesOn r λ_ j _ exact n c=>
   iX (Nat.beq j i) (Bool.casesOn n (Z (Z (lJ q c) λa=>takeN o a) λk=>Z (iN e k) λd=>
    List.casesOn d (List.casesOn c (Bool.casesOn exact (some .jf) (some (.fg [] false))) λ_ _=>some .jf) λ_ _=>some (.fg d l)) none))
  | .agg g=>Z (iN e g) λa=>some (.agg a)
  | .bool _| .int _ _| .str _| .mn| .fg _ _| .jf| .mF| .mN=>some f
  |_=>none) h
def kh(d:H)(c:Nat)(a:T):aa T:=
 match a with
 | .arr b _ _ _ _=>Bool.casesOn (Nat.ble c b) (some a) (freeze d c 12 a)
 | .ptr b _ _ _=>Bool.casesOn (Nat.ble c b) (some a) none
 | .map b=>Bool.casesOn (Nat.ble c b) (some a) none
 | .undef=>some a
 |_=>freeze d c 12 a
def mw(a:H)(b:Nat)(c:T):aa T:=
 match c with
 | .agg d=>Z (iN (kh a b) d) λe=>some (.agg e)
 |_=>kh a b c
def kI(a:H)(b:Nat)(c:T):aa T:=
 match c with
 | .tuple e=>Z (iN (mw a b) e) λd=>some (.tuple d)
 |_=>mw a b c
def nq(b:Nat):T->Bool
 | .arr a _ _ _ _=>Nat.blt a b
 | .ptr a _ _ _=>Nat.blt a b
 | .map a=>Nat.blt a b
 | .bool _| .int _ _| .str _| .mn| .fg _ _| .jf| .mF| .mN| .pV| .kH _=>true
 |_=>false
def below(b:Nat):T->Bool
 | .agg a=>D8 (nq b) a
 | .func _ a=>D8 (nq b) a
 | .tuple a=>D8 (nq b) a
 |v=>nq b v
def v7(d:Nat)(b:Nat):List jO->Bool:=
 @Nat.rec (λ_=>List jO->Bool) (λ_=>true) (λ_ a c=>List.casesOn c true λf e=>Bool.casesOn (D8 (below d) f.im) false (a e)) b
def qm(c:Nat)(d:T)(f:H):aa (T×H):=
 H.casesOn f λe b a=>Bool.casesOn (Nat.blt b c) (some (d,⟨e,c,a⟩)) (some (d,⟨e,b,a⟩))
def xD(a c:Nat)(i e:T)(h:H):aa (T×H):=
 H.casesOn h λg b f=>Z (lJ (Nat.sub g a) f) λd=>
  Bool.casesOn (Nat.ble a b)
   (Bool.casesOn (v7 a (Nat.sub a b) d) (qm c i ⟨g,b,f⟩)
     (Bool.casesOn (Nat.blt b c) (some (e,⟨a,c,d⟩)) (some (e,⟨a,b,d⟩))))
   (some (e,⟨a,c,d⟩))
def GE(e:Bool)(d c:Nat)(b:T)(a:H):aa (T×H):=
 Bool.casesOn e (Option.casesOn (kI a d b) (qm c b a) λf=>xD d c b f a) (qm c b a)
inductive iM where
 |nil
 |cons (s:Nat) (v:T) (r:iM)
 deriving Inhabited
structure Env where
 vars:iM
 tmps:iM
 deriving Inhabited
def mB(c:iM)(d:Nat):aa T:=
 @iM.rec (λ_=>aa T) none (λb e _ a=>Bool.rec a (some e) (Nat.beq b d)) c
def pQ(e:iM)(b:Nat)(c:T):aa iM:=
 @iM.rec (λ_=>aa iM) (some (.cons b c .nil)) (λa h f d=>Bool.rec (Z d λg=>some (.cons a h g)) (some (.cons a c f)) (Nat.beq a b)) e
def lO(a b:Nat):Bool:=Nat.beq (Nat.land (Nat.shiftRight a b) 1) 1
def Env.get(c:Nat)(b:Env)(a:Nat):aa T:=
 Env.casesOn b λe d=>Bool.casesOn (lO c a) (mB d a) (mB e a)
def Env.set(g:Nat)(e:Env)(a:Nat)(c:T):aa Env:=
 Env.casesOn e λd b=>Bool.casesOn (lO g a) (some ⟨d,.cons a c b⟩) (Z (pQ d a c) λf=>some ⟨f,b⟩)
def Env.dst(c:Nat)(a:Env)(b:aa Tmp)(e:T):aa Env:=
 Option.casesOn b (some a) λd=>a.set c d e
def D3(b:List UInt8):aa (List Nat):=iN (λa=>jd a.toNat) b
def qM:am->aa T
 | .bool a=>some (.bool a)
 | .int b d=>some (.int b d)
 | .string e=>Z (D3 e.data.toList) λc=>some (.str c)
 | .pointer none=>some .mn
 | .map none=>some .pV
 | .slice none 0 0=>some (.fg [] false)
 | .nilFunc=>some .mF
 | .nilIface=>some .mN
 |_=>none
def Cz:am->aa T
 | .agg a=>Z (iN qM a.toList) λb=>some (.agg b)
 |v=>qM v
def iG(cx:Ctx)(e:Nat)(b:Env)(f:ah):aa T:=
 Operand.casesOn f (λg=>b.get e g) (λh=>Cz h) (λd=>Z (cx.gl d) λa=>some (.kH a)) (λc=>some (.func c []))
def ud(cx:Ctx)(c:Nat)(a:Env)(b:List ah):aa (List T):=iN (iG cx c a) b
def uJ:T->aa Nat
 | .int _ b=>Int.casesOn b (λa=>some a) (λ_=>none)
 |_=>none
def tq(g:U)(c a:T):aa Bool:=
 match g with
 | .int _=>(match c with| .int e d=>(match a with| .int f b=>iX (HY e f) (some (Wn d b))|_=>none)|_=>none)
 | .bool=>(match c with| .bool d=>(match a with| .bool b=>some (Bool.casesOn d (Bool.casesOn b true false) b)|_=>none)|_=>none)
 | .str=>(match c with| .str d=>(match a with| .str b=>some (XR d b)|_=>none)|_=>none)
 | .ptr _=>(match c with
  | .mn=>(match a with| .mn=>some true| .ptr .. | .kH _=>some false|_=>none)
  | .ptr .. | .kH _=>(match a with| .mn=>some false|_=>none)
  |_=>none)
 | .func=>(match c with
  | .mF=>(match a with| .mF=>some true| .func .. =>some false|_=>none)
  | .func .. =>(match a with| .mF=>some false|_=>none)
  |_=>none)
 | .iface=>(match c with
  | .mN=>(match a with| .mN=>some true| .iface .. =>some false|_=>none)
  | .iface .. =>(match a with| .mN=>some false|_=>none)
  |_=>none)
 |_=>none
def U.plain:U->Bool
 | .int _| .bool| .str=>true
 |_=>false
def eqFields(cx:Ctx)(f:List (Nat×ab)):Nat->List T->List T->aa Bool:=
 @List.rec (Nat×ab) (λ_=>Nat->List T->List T->aa Bool) (λ_ _ _=>some true)
  (λa _ g b d e=>List.casesOn d none λk h=>List.casesOn e none λl i=>iX (Nat.beq a.1 b) (Z (cx.ty a.2) λc=>iX c.u.plain
    (Z (tq c.u k l) λj=>Bool.casesOn j (some false) (g (Nat.succ b) h i)))) f
def E8(f:U)(b:List T):List T->aa Bool:=
 @List.rec T (λ_=>List T->aa Bool) (λa=>List.casesOn a (some true) λ_ _=>none)
  (λg _ c a=>List.casesOn a none λh d=>Z (tq f g h) λe=>Bool.casesOn e (some false) (c d)) b
def I2(cx:Ctx)(d:Ty)(e f:T):aa Bool:=
 match d.u with
 | .struct h=>(match e with
  | .agg a=>(match f with
   | .agg b=>iX d.cmp (eqFields cx h 0 a b)
   |_=>none)
  |_=>none)
 | .array i g=>(match e with
  | .agg a=>(match f with
   | .agg b=>iX d.cmp (Z (cx.ty g) λc=>iX c.u.plain (iX (Nat.beq c.size 1) (iX (Nat.beq (oo a) i) (E8 c.u a b))))
   |_=>none)
  |_=>none)
 |u=>tq u e f
def AK(f g:T)(d:ak->Int->Int->aa T):aa T:=
 match f with
 | .int a b=>(match g with| .int e c=>iX (HY a e) (d a b c)|_=>none)
 |_=>none
def Dh(f g:T)(d:ak->Int->Nat->aa T):aa T:=
 match f with
 | .int a b=>(match g with| .int _ c=>Int.casesOn c (λe=>d a b (min e a.bits)) (λ_=>none)|_=>none)
 |_=>none
def Ou(h c:T)(d:Int->Int->Bool)(e:List Nat->List Nat->Bool):aa T:=
 match h with
 | .int f a=>(match c with| .int g b=>iX (HY f g) (AR (d a b))|_=>none)
 | .str a=>(match c with| .str b=>AR (e a b)|_=>none)
 |_=>none
def Yz(d e:T):aa T:=
 match d with
 | .str a=>(match e with
  | .str b=>Z (D7 a b) λc=>iX (Nat.ble (oo c) 4294967296) (some (.str c))
  |_=>none)
 |_=>AK d e λf a b=>rN f (a+b)
def binop:BinOp->T->T->aa T
 | .add=>Yz
 | .sub=>λd e=>AK d e λc a b=>rN c (a-b)
 | .mul=>λd e=>AK d e λc a b=>rN c (a*b)
 | .quo=>λd e=>AK d e λc a b=>Bool.casesOn (Wn b 0) (rN c (a.tdiv b)) none
 | .rem=>λd e=>AK d e λc a b=>Bool.casesOn (Wn b 0) (Bi c (a.tmod b)) none
 | .and=>λd e=>AK d e λc a b=>Bi c (c.wrap (BitVec.ofInt c.bits a&&&BitVec.ofInt c.bits b).toNat)
 | .or=>λd e=>AK d e λc a b=>Bi c (c.wrap (BitVec.ofInt c.bits a|||BitVec.ofInt c.bits b).toNat)
 | .xor=>λd e=>AK d e λc a b=>Bi c (c.wrap (BitVec.ofInt c.bits a^^^BitVec.ofInt c.bits b).toNat)
 | .shl=>λd e=>Dh d e λc a f=>Bi c (c.wrap (a*2^f))
 | .shr=>λd e=>Dh d e λc a f=>Bi c (a.fdiv (2^f))
 | .lss=>λd e=>Ou d e PB Wj
 | .leq=>λd e=>Ou d e (λa b=> !PB b a) (λa b=> !Wj b a)
 | .gtr=>λd e=>Ou d e (λa b=>PB b a) (λa b=>Wj b a)
 | .geq=>λd e=>Ou d e (λa b=> !PB a b) (λa b=> !Wj a b)
 |_=>λ_ _=>none
def unop:UnOp->T->aa T
 | .neg=>λa=>(match a with| .int c d=>rN c (0-d)|_=>none)
 | .not=>λa=>(match a with| .bool b=>Bool.casesOn b (some (.bool true)) (some (.bool false))|_=>none)
 |_=>λ_=>none
def conv(cx:Ctx)(c:ab)(a:T):aa T:=
 Z (cx.ty c) λb=>match b.u with
  | .int d=>(match a with| .int _ n=>rN d n|_=>none)
  | .str=>(match a with| .str e=>some (.str e)|_=>none)
  |_=>none
def Hr(cx:Ctx)(d:ab)(i:T):aa T:=
 Z (cx.ty d) λc=>match c.u with
  | .slice e=>(match i with
   | .str a=>Z (cx.ty e) λh=>(match h.u with
    | .int g=>iX (HY g .u8) (List.casesOn a (some .jf) λ_ _=>Z (iN (λb=>some (T.int .u8 (.ofNat b))) a) λf=>some (.fg f false))
    |_=>none)
   |_=>none)
  |_=>none
def AA(cx:Ctx)(c:ab)(a:Nat):aa (Nat×ab):=
 Z (cx.ty c) λd=>match d.u with| .struct b=>qN b a|_=>none
def o9(place:Nat->aa (Nat×Nat))(f:List (Nat×T)):List T->aa (List T):=
 @List.rec (Nat×T) (λ_=>List T->aa (List T)) (λa=>some a)
  (λb _ e a=>Z (place b.1) λc=>iX (Nat.beq (oo b.2.cells) c.2) (Z (mR a c.1 b.2.cells) λd=>e d)) f
def tg(h:Nat)(g:List (Nat×T)):List T->aa (List T):=
 @List.rec (Nat×T) (λ_=>List T->aa (List T)) (λa=>some a)
  (λf _ e a=>two f λd b=>iX (Nat.beq (oo b.cells) h) (Z (nH a d b) λc=>e c)) g
def partsOf(cx:Ctx)(e:Nat)(b:Env)(d:List (Nat×ah)):aa (List (Nat×T)):=
 iN (λg=>two g λc f=>Z (iG cx e b f) λa=>iX a.je (some (c,a))) d
def li(cx:Ctx)(b:Nat)(a:Env)(f:aa ah):aa (aa Nat):=
 Option.casesOn f (some none) λd=>Z (iG cx b a d) λe=>Z (uJ e) λc=>some (some c)
def jc(c:aa Nat)(a:Nat):Nat:=Option.casesOn c a λb=>b
def Oo{b:Type}(d:List b)(a c:Nat):aa (List b):=Z (lJ a d) λe=>takeN (Nat.sub c a) e
def sJ(c:List T)(e:Bool)(d a:Nat)(g:aa Nat):aa T:=
 iX (Nat.ble d a) (Z (Oo c d a) λb=>Option.casesOn g
  (List.casesOn b (List.casesOn c (some (.fg [] false)) λ_ _=>some .jf) λ_ _=>some (.fg b (Bool.casesOn e false (Nat.beq a (oo c)))))
  λf=>iX (Nat.beq f a) (List.casesOn b (some (.fg [] false)) λ_ _=>some (.fg b true)))
def B1(b c k g:Nat)(h:Bool)(e a:Nat)(j:aa Nat):aa T:=
 iX (Nat.ble e a) (iX (Nat.ble a g) (Z (jd (Nat.add k e)) λf=>Z (jd (Nat.sub a e)) λd=>Option.casesOn j
  (Bool.casesOn h (some (.arr b c f d false)) (iX (Nat.beq a g) (some (.arr b c f d true))))
  λi=>iX (Nat.beq i a) (some (.arr b c f d true))))
def sK(m:T)(b a c:aa Nat):aa T:=
 match m with
 | .str e=>Option.casesOn c (iX (Nat.ble (jc b 0) (jc a (oo e))) (Z (Oo e (jc b 0) (jc a (oo e))) λl=>some (.str l))) λ_=>none
 | .fg f d=>sJ f d (jc b 0) (jc a (oo f)) c
 | .jf=>iX (Nat.beq (jc b 0) 0) (iX (Nat.beq (jc a 0) 0) (Option.casesOn c (some .jf) λj=>iX (Nat.beq j 0) (some (.fg [] false))))
 | .arr h i k g d=>B1 h i k g d (jc b 0) (jc a g) c
 |_=>none
inductive nO where
 |val (v:T) (h:H)
 |call (f:aj) (args:List T)
 deriving Inhabited
abbrev be(a:T)(b:H):=some (nO.val a b)
def val(a:H)(c:aa T):aa nO:=Z c λb=>some (.val b a)
def kJ(d:aa (T×H)):aa nO:=Z d λb=>two b λc a=>some (.val c a)
abbrev Hd:=Ctx->Nat->Env->H->aa nO
def GQ(d:ah):Hd:=λcx c a b=>val b (iG cx c a d)
def IV(a e f:ah):Hd:=λcx c b d=>
 Z (iG cx c b a) λa=>match a with
  | .bool g=>Bool.casesOn g (val d (iG cx c b f)) (val d (iG cx c b e))
  |_=>none
def Ay(cx:Ctx)(d:Ty):Bool:=
 match d.u with
 | .array _ a=>Option.casesOn (cx.ty a) false λc=>(match c.u with| .int b=>HY b .u8|_=>false)
 |_=>false
def GU(d:ab):Hd:=λcx _ _ c=>Z (cx.ty d) λa=>Bool.casesOn (Ay cx a)
 (kJ (c.new (λb=> .ptr b 0 0 0) (oO a.size true [a.ls])))
 (kJ (c.new (λb=> .ptr b 0 0 0) (oO 1 true a.zero)))
def RM(f:ah):Hd:=λcx e c d=>Z (iG cx e c f) λa=>iX a.je (kJ (d.new (λb=> .ptr b 0 0 0) (oO (oo a.cells) true [a])))
def DT(m:ab)(l:af (Nat×ah)):Hd:=λcx k h e=>
 Z (cx.ty m) λc=>Z (partsOf cx k h l.toList) λf=>match c.u with
  | .struct j=>Z (o9 (λb=>Z (qN j b) λd=>Z (cx.ty d.2) λn=>some (d.1,n.size)) f c.zero) λa=>val e (some (.agg a))
  | .array _ i=>Z (cx.ty i) λg=>Z (o9 (λb=>some (Nat.mul b g.size,g.size)) f c.zero) λa=>val e (some (.agg a))
  |_=>none
def qY(k:ab)(b:Nat)(i:af (Nat×ah)):Hd:=λcx h d g=>
 Z (cx.ty k) λl=>match l.u with
  | .slice e=>Z (cx.ty e) λa=>Z (partsOf cx h d i.toList) λj=>
   iX (Nat.ble 1 a.size)<|iX (Nat.ble (Nat.mul b a.size) 65536) (Z (tg a.size j (sM a.ls b)) λf=>
    kJ (g.new (λc=> .arr c 0 0 b false) (oO a.size true f)))
  |_=>none
def L3(e:ab)(a:ah):Hd:=λcx d c b=>Z (cx.ty e) λf=>Z (iG cx d c a) λa=>val b (b.load f a)
def GN(g:ab)(a i:ah):Hd:=λcx c b e=>
 Z (cx.ty g) λh=>Z (iG cx c b a) λa=>Z (iG cx c b i) λd=>iX d.je (Z (e.store h a d) λf=>some (.val .undef f))
def vi(e:ah):Hd:=λcx d b c=>Z (iG cx d b e) λa=>match a with
 | .ptr .. | .kH _| .func .. =>some (.val a c)
 |_=>none
def zu(c d:ah)(a b:T):Bool:=
 match a with
 | .mN=>(match b with| .mN=>Region.isConst c||Region.isConst d|_=>true)
 |_=>true
def hEq(i:Bool)(j:ab)(f g:ah):Hd:=λcx d c h=>
 Z (cx.ty j) λk=>Z (iG cx d c f) λa=>Z (iG cx d c g) λb=>
  iX (zu f g a b) (Z (I2 cx k a b) λe=>val h (AR (Bool.casesOn i e (!e))))
def RN(f:BinOp)(g h:ah):Hd:=λcx b a e=>
 Z (iG cx b a g) λc=>Z (iG cx b a h) λd=>val e (binop f c d)
def hUn(e:UnOp)(f:ah):Hd:=λcx d b c=>Z (iG cx d b f) λa=>val c (unop e a)
def byteOf(d:T):aa Nat:=match d with
 | .int b c=>iX (HY b .u8) (Int.casesOn c (λa=>iX (Nat.blt a 256) (some a)) (λ_=>none))
 |_=>none
def HL(cx:Ctx)(d:H)(g:ab)(i:T):aa T:=
 Z (cx.ty g) λf=>match f.u with
  | .slice b=>Z (cx.ty b) λh=>(match h.u with
   | .int e=>iX (HY e .u8) (Z (d.kd i) λc=>Z (iN byteOf c) λa=>iX (Nat.ble (oo a) 4294967296) (some (.str a)))
   |_=>none)
  |_=>none
def PK(d c:ab)(h:ah):Hd:=λcx g f b=>Z (cx.ty d) λ_=>Z (iG cx g f h) λa=>
 Z (cx.ty c) λe=>match e.u with
  | .slice _=>val b (Hr cx c a)
  | .str=>(match a with
   | .str _=>val b (conv cx c a)
   |_=>val b (HL cx b d a))
  |_=>val b (conv cx c a)
def DQ(b:ab)(g:ah):Hd:=λcx e c d=>Z (cx.ty b) λf=>match f.u with
 | .iface=>none
 |_=>Z (iG cx e c g) λa=>iX a.je (val d (some (.iface b a)))
def GS(e:Fn)(first a:af ah):Hd:=λcx g c f=>match e with
 | .func d=>(match first.toList with
  | []=>Z (ud cx g c a.toList) λb=>val f (some (.func d b))
  |_=>none)
 |_=>none
def sY(i:ab)(a b:ah):Hd:=λcx e d h=>Z (cx.ty i) λj=>match j.u with
 | .slice g=>Z (cx.ty g) λc=>Z (iG cx e d a) λa=>Z (iG cx e d b) λb=>Z (uJ a) λa=>Z (uJ b) λb=>
  iX (Nat.ble 1 c.size)<|iX (Nat.ble 1 c.bytes)<|iX (Nat.ble a b) (iX (Nat.ble (Nat.mul b c.bytes) 70368744177664) (kJ (h.new (λf=> .arr f 0 0 a false) (oO c.size (Nat.beq a b) (sM c.ls a)))))
 |_=>none
def AI(a b:aa Nat):Bool:=Option.casesOn b true λ_=>Option.casesOn a false λ_=>true
def jL(cx:Ctx)(f:H)(p:U)(e:T):Bool:=
 match p with
 | .str=>(match e with| .str _=>true|_=>false)
 | .slice d=>Option.casesOn (cx.ty d) false λa=>(match e with
  | .fg j _=>fits a.size j
  | .jf=>true
  | .arr b _ _ _ _=>Option.casesOn (f.get b) false λc=>Nat.beq c.sz a.size
  |_=>false)
 | .array n d=>Option.casesOn (cx.ty d) false λa=>(match e with
  | .ptr b h k m=>Option.casesOn (f.get b) false λc=>jO.casesOn c λo i _ exact l g=>
   Nat.beq o a.size&&Nat.beq i h&&Nat.beq k 0&&Nat.beq m 0&&exact&& !l&&Nat.beq (oo g) n
  |_=>false)
 |_=>false
def asSlice(e:U)(a:T):T:=match e with
 | .array d _=>(match a with| .ptr b c _ _=> .arr b c 0 d false|_=>a)
 |_=>a
def GP(i:ab)(e:ah)(f b d:aa ah):Hd:=λcx c a g=>Z (cx.ty i) λh=>
 Z (iG cx c a e) λe=>iX (jL cx g h.u e)<|Z (li cx c a f) λf=>Z (li cx c a b) λb=>Z (li cx c a d) λd=>iX (AI b d) (val g (sK (asSlice h.u e) f b d))
def s7(n:ab)(a:ah)(i:Nat):Hd:=λcx m g c=>Z (AA cx n i) λb=>Z (iG cx m g a) λa=>match a with
 | .ptr d h j k=>Z (jd (Nat.add k b.1)) λl=>some (.val (.ptr d h j l) c)
 | .kH e=>Z (lJ b.1 e) λf=>some (.val (.kH f) c)
 |_=>none
def DS(i:ab)(a:ah)(e:Nat):Hd:=λcx g d f=>
 Z (AA cx i e) λb=>Z (cx.ty b.2) λj=>Z (iG cx g d a) λa=>match a with
  | .agg c=>Z (lJ b.1 c) λh=>val f (lI j h)
  |_=>none
def nC(a:H)(f:Ty)(l:T)(b:Nat):aa nO:=
 match l with
 | .fg h _=>Z (qN h b) λg=>iX (Nat.beq (oo g.cells) f.size) (some (.val (.kH g.cells) a))
 | .arr c e k j _=>iX (Nat.blt b j) (Z (a.get c) λd=>iX (Nat.beq d.sz f.size)<|iX (Nat.beq d.ep e) (Z (jd (Nat.add k b)) λi=>some (.val (.ptr c e i 0) a)))
 |_=>none
def pX(a:H)(m:Nat)(d:Ty)(n:T)(b:Nat):aa nO:=
 iX (Nat.blt b m) (match n with
  | .ptr c e f g=>Z (a.get c) λh=>Bool.casesOn (Nat.beq h.sz d.size)
   (Z (jd (Nat.add g (Nat.mul b d.size))) λl=>some (.val (.ptr c e f l) a))
   (iX (Nat.beq g 0) (Z (jd (Nat.add f b)) λk=>some (.val (.ptr c e k 0) a)))
  | .kH i=>Z (lJ (Nat.mul b d.size) i) λj=>some (.val (.kH j) a)
  |_=>none)
def sZ(j:ab)(a c:ah):Hd:=λcx h e f=>
 Z (cx.ty j) λk=>Z (iG cx h e a) λa=>Z (iG cx h e c) λc=>Z (uJ c) λg=>match k.u with
  | .slice b=>Z (cx.ty b) λd=>nC f d a g
  | .array i b=>Z (cx.ty b) λd=>pX f i d a g
  |_=>none
def DP(n:ab)(a c:ah):Hd:=λcx f d e=>
 Z (cx.ty n) λo=>Z (iG cx f d a) λa=>Z (iG cx f d c) λc=>Z (uJ c) λb=>match o.u with
  | .str=>(match a with| .str m=>Z (qN m b) λh=>val e (some (.int .u8 (.ofNat h)))|_=>none)
  | .array k j=>(match a with
   | .agg i=>Z (cx.ty j) λg=>iX (Nat.blt b k) (Z (lJ (Nat.mul b g.size) i) λl=>val e (lI g l))
   |_=>none)
  |_=>none
def H.entries(d:H)(f:T):aa (List T):=
 match f with
 | .pV=>some []
 | .map a=>Z (d.get a) λb=>jO.casesOn b λ_ _ _ _ e c=>iX e (some c)
 |_=>none
def E3(a:List T):Bool:=match a with
 | []=>true
 | .tuple _::_=>true
 |_=>false
def rY(i:U)(e:T)(g:List T):Nat->aa (aa (Nat×T)):=
 @List.rec T (λ_=>Nat->aa (aa (Nat×T))) (λ_=>some none)
  (λb _ d a=>match b with
    | .tuple [f,j]=>Z (tq i e f) λh=>Bool.casesOn h (Z (jd (Nat.succ a)) λc=>d c) (some (some (a,j)))
    |_=>none) g
def Ev(b:U)(a:T):Bool:=match b with
 | .str=>(match a with| .str _=>true|_=>false)
 |_=>false
def xJ(d:ab)(c:aa ah):Hd:=λcx _ _ b=>Option.casesOn c
 (Z (cx.ty d) λe=>(match e.u with
   | .map _ _=>kJ (b.new (λa=> .map a) ⟨0,0,0,true,true,[]⟩)
   |_=>none))
 λ_=>none
def wK(n:ab)(a i:ah)(k:Bool):Hd:=λcx e b c=>Z (cx.ty n) λp=>match p.u with
 | .map j h=>Z (cx.ty j) λf=>Z (cx.ty h) λo=>Z (iG cx e b a) λa=>Z (iG cx e b i) λd=>iX (Ev f.u d)
  (Z (c.entries a) λg=>Z (rY f.u d g 0) λm=>Bool.casesOn k (val c (some (Option.casesOn m o.ls λl=>l.2))) none)
 |_=>none
def qR(t:ab)(d o y:ah):Hd:=λcx e b h=>Z (cx.ty t) λv=>match v.u with
 | .map p _=>Z (cx.ty p) λi=>Z (iG cx e b d) λd=>Z (iG cx e b o) λa=>Z (iG cx e b y) λf=>iX (Ev i.u a) (iX f.je
  (match d with
  | .map g=>Z (h.get g) λj=>jO.casesOn j λs k w exact n c=>iX n (Z (rY i.u a c 0) λr=>Z (jd (Nat.succ w)) λx=>
   (Z (Option.casesOn r (D7 c [.tuple [a,f]]) λq=>nH c q.1 (.tuple [a,f])) λl=>Z (h.put g ⟨s,k,x,exact,true,l⟩) λm=>some (.val .undef m)))
  |_=>none))
 |_=>none
def xK(g:ah)(c:Nat):Hd:=λcx d a b=>Z (iG cx d a g) λe=>match e with| .tuple f=>val b (qN f c)|_=>none
def R7(cx:Ctx)(a:H)(h:List ab)(c:T):aa nO:=
 Z (qN h 0) λg=>Z (cx.ty g) λi=>match i.u with
  | .str=>(match c with
   | .str f=>val a (Z (jd (oo f)) λb=>some (.int .i64 (.ofNat b)))
   |_=>none)
  | .slice _=>(match c with
   | .fg d _=>val a (Z (jd (oo d)) λb=>some (.int .i64 (.ofNat b)))
   | .jf=>val a (some (.int .i64 0))
   | .arr _ _ _ e _=>val a (some (.int .i64 (.ofNat e)))
   |_=>none)
  | .array b _=>val a (some (.int .i64 (.ofNat b)))
  |_=>none
def tu(cx:Ctx)(b:ab):aa Ty:=
 Z (cx.ty b) λc=>match c.u with| .slice a=>cx.ty a|_=>none
def pP(cx:Ctx)(d:H)(e:ab)(a:T):aa (List T):=
 Z (cx.ty e) λf=>match f.u with
  | .str=>(match a with| .str b=>iN (λc=>some (T.int .u8 (.ofNat c))) b|_=>none)
  | .slice _=>d.kd a
  |_=>none
def jE(cx:Ctx)(b:H)(e f:ab)(d g:T):aa nO:=
 Z (tu cx e) λa=>Z (pP cx b f g) λc=>iX (fits a.size c) (kJ (b.append a.size a.bytes d c))
def Hw(cx:Ctx)(a:H)(n:ab)(q:T):aa nO:=
 Z (tu cx n) λg=>match q with
  | .fg b _=>List.casesOn b (some (.val .undef a)) λ_ _=>none
  | .jf=>some (.val .undef a)
  | .arr c j m e _=>Nat.casesOn e (some (.val .undef a)) λ_=>Z (a.get c) λh=>jO.casesOn h λf d o exact l i=>
   iX (Nat.beq d j)<|iX (Nat.beq f g.size) (Bool.casesOn l
    (Z (mR i m (sM g.ls e)) λb=>Z (jd (Nat.succ o)) λp=>
      Z (a.put c ⟨f,d,p,exact,false,b⟩) λk=>some (.val .undef k)) none)
  |_=>none
def nG:Builtin->Ctx->H->List ab->List T->aa nO
 | .clear=>λcx b f a=>(match a with| [c]=>(match f with| [h]=>Hw cx b h c|_=>none)|_=>none)
 | .len=>λcx b f a=>(match a with| [c]=>R7 cx b f c|_=>none)
 | .append=>λcx b f a=>(match a with| [j,c]=>(match f with| [h,k]=>jE cx b h k j c|_=>none)|_=>none)
 | .min=>λ_ b _ a=>(match a with| [c,i]=>val b (AK c i λg d e=>Bi g (Bool.casesOn (PB e d) d e))|_=>none)
 | .max=>λ_ b _ a=>(match a with| [c,i]=>val b (AK c i λg d e=>Bi g (Bool.casesOn (PB d e) d e))|_=>none)
 |_=>λ_ _ _ _=>none
def IX(a:Call):Hd:=λcx e d h=>Z (ud cx e d a.args.toList) λc=>match a.callee with
 | .builtin f=>nG f cx h a.argTypes.toList c
 | .value b=>Z (iG cx e d b) λj=>(match j with
  | .func b g=>Z (D7 c g) λi=>some (.call b i)
  |_=>none)
 |_=>none
def j9:Op->Hd
 | .move a=>GQ a
 | .assign a=>GQ a
 | .pick e c g=>IV e c g
 | .alloc b=>GU b
 | .box _ a=>RM a
 | .build b i=>DT b i
 | .buildSlice b s i=>qY b s i
 | .load b c=>L3 b c
 | .store b c a=>GN b c a
 | .nilCheck a=>vi a
 | .binOp f b a j _=>(match f with| .eql=>hEq false b a j| .neq=>hEq true b a j|_=>RN f a j)
 | .unOp f _ a=>hUn f a
 | .convert v k a=>PK v k a
 | .makeInterface b a=>DQ b a
 | .makeFunc l c g=>GS l c g
 | .makeSlice b o e=>sY b o e
 | .slice b a p m r=>GP b a p m r
 | .fieldAddr b a h=>s7 b a h
 | .field b a h=>DS b a h
 | .indexAddr b a d=>sZ b a d
 | .index b a d=>DP b a d
 | .extract a d=>xK a d
 | .makeMap b u=>xJ b u
 | .lookup b a d t=>wK b a d t
 | .mapUpdate b q n a=>qR b q n a
 | .range .. =>λ_ _ _ _=>none
 | .next .. =>λ_ _ _ _=>none
 | .entry _=>λ_ _ _ _=>none
 | .call e=>IX e
 |_=>λ_ _ _ _=>none
def De(e:ai):TypeDesc->aa U
 | .int c=>some (.int c)
 | .bool=>some .bool
 | .string=>some .str
 | .slice a=>some (.slice a)
 | .array g a=>some (.array g a)
 | .struct d=>if d.toList.all (λb=>(e.info? b.type).any λf=> !(f.size==0))then some (.struct (d.toList.map λb=>(b.offset,b.type)))else none
 | .pointer a=>some (.ptr a)
 | .map c a=>some (.map c a)
 | .func _ _ _=>some .func
 | .interface _=>some .iface
 |_=>some .other
def wY(a:TypeDesc)(b:am):Bool:=
 match a,b with
 | .struct _,.agg _| .array _ _,.agg _=>true
 | .struct _,_| .array _ _,_|_,.agg _=>false
 |_,_=>true
def Pz:TypeDesc->Bool
 | .struct b=>b.toList.all λa=>a.name != "_"
 |_=>true
def dW(a:ai)(c:ab)(e:Bool):aa Ty:=
 Z (a.info? c) λb=>Z (a.underlying c) λd=>Z b.zero λf=>Z (iN qM f.cells.toList) λg=>Z (De a d) λh=>
  iX (wY d f) (iX (Nat.beq (oo g) b.size) (iX (Bool.casesOn e true (!a.stoodInHeld c&& !a.eqGuardType a.depth c&&Pz d)) (some ⟨h,b.size,b.bytes,e,g⟩)))
abbrev jS:=aj->List T->H->aa (T×H)
def mf(i:af Oper)(g:Nat)(d:Env)(e:aa (Nat×Bool)):aa Bool:=
 Option.casesOn e (some true) λj=>two j λf a=>Z (Z (Z (qN i.toList f) λh=>h.dst) λc=>d.get g c) λk=>
  match k with
  | .bool b=>some (Bool.casesOn b (Bool.casesOn a true false) a)
  |_=>some false
def nW(cx:Ctx)(call:jS)(c:Nat)(k:af Oper)(a:Env)(e:H)(d:Oper):aa (Env×H):=
 Z (mf k c a d.guard) λm=>Bool.casesOn m
  (Z (a.dst c d.dst .undef) λb=>some (b,e))
  (Z (j9 d.op cx c a e) λi=>nO.casesOn i
    (λg f=>Z (a.dst c d.dst g) λb=>some (b,f))
    (λj h=>Z (call j h e) λl=>two l λg f=>Z (a.dst c d.dst g) λb=>some (b,f)))
def mK(cx:Ctx)(call:jS)(g:Nat)(i:af Oper)(f:List Oper):Env->H->aa (Env×H):=
 @List.rec Oper (λ_=>Env->H->aa (Env×H)) (λa b=>some (a,b))
  (λh _ e a b=>Z (nW cx call g i a b h) λj=>two j λc d=>e c d) f
def fD:T->aa Nat
 | .ptr a _ _ _=>some a
 | .arr a _ _ _ _=>some a
 | .map a=>some a
 |_=>none
def iY(cx:Ctx)(d:Nat)(b:Env)(c:H)(e:Op):aa Nat:=
 match e with
 | .load _ a=>Z (iG cx d b a) fD
 | .indexAddr _ a _=>Z (iG cx d b a) fD
 | .slice _ a _ _ _=>Z (iG cx d b a) fD
 | .convert _ _ a=>Z (iG cx d b a) fD
 | .lookup _ a _ _=>Z (iG cx d b a) fD
 | .makeMap _ _=>some c.size
 | .alloc _=>some c.size
 | .box _ _=>some c.size
 | .buildSlice _ _ _=>some c.size
 | .makeSlice _ _ _=>some c.size
 |_=>none
def ju:Op->Bool
 | .store .. =>true
 | .call b=>(match b.callee with
  | .builtin a=>(match a with| .len| .min| .max=>false|_=>true)
  |_=>true)
 | .next .. =>true
 | .range .. =>true
 | .entry .. =>true
 | .mapUpdate .. =>true
 |_=>false
structure Seen where
 oU:List (Nat×Nat)
 mX:List (Nat×H×H)
def AF(c:List Nat)(d:List Edge):Nat:=
 d.foldr (λa b=>Bool.casesOn (Region.binds .any a) b (Nat.lor b (Nat.lor (Nat.shiftLeft 1 a.on) (c.getD a.on 0)))) 0
def OI:List Oper->List Nat->List Nat
 | [],a=>a
 |o::b,a=>OI b (a++[AF a o.after.toList])
def kY(c:af Oper)(a b:Nat):Bool:=((OI c.toList []).getD b 0).testBit a
def il(b c:H)(a:Nat):Bool:=
 Option.casesOn (b.get a) true λd=>Option.casesOn (c.get a) false λe=>Nat.beq d.ver e.ver
def qQ(e:af Oper)(c b:Nat)(d:List (Nat×H×H)):Bool:=
 D8 (λa=>Bool.casesOn (il a.2.1 a.2.2 b) (kY e a.1 c) true) d
def A0(f:af Oper)(d:Nat)(b c:H)(e:List (Nat×Nat)):Bool:=
 D8 (λa=>Bool.casesOn (il b c a.2) (kY f a.1 d) true) e
def uS(cx:Ctx)(e:Nat)(g:af Oper)(c:Nat)(b:Env)(d:List (Nat×H×H))(f:Op):Bool:=
 match f with
 | .store _ h _=>Option.casesOn (Z (iG cx e b h) fD) true λa=>qQ g c a d
 |_=>true
def lH(cx:Ctx)(call:jS)(j:Nat)(g:af Oper)(l:List Oper):Nat->Seen->Env->H->aa (Env×H):=
 @List.rec Oper (λ_=>Nat->Seen->Env->H->aa (Env×H)) (λ_ _ c d=>some (c,d))
  (λf _ i a b c d=>Z (nW cx call j g c d f) λm=>two m λh e=>
    Z (mf g j c f.guard) λn=>Bool.casesOn n (i (Nat.succ a) b h e)
     (Bool.casesOn (ju f.op)
       (Option.casesOn (iY cx j c d f.op) (i (Nat.succ a) b h e)
         λk=>iX (qQ g a k b.mX) (i (Nat.succ a) ⟨(a,k)::b.oU,b.mX⟩ h e))
       (iX (A0 g a d e b.oU) (iX (uS cx j g a c b.mX f.op) (i (Nat.succ a) ⟨b.oU,(a,d,e)::b.mX⟩ h e))))) l
inductive Ex where
 |normal|exit (id:Nat)|ret
 deriving Inhabited
abbrev Out:=aa (Ex×Env×H)
def three{a:Type}(e:Ex×Env×H)(c:Ex->Env->H->a):a:=Prod.casesOn e λg f=>Prod.casesOn f λb d=>c g b d
def su(c:Env->H->Out)(h:Nat):Env->H->Out:=
 @Nat.rec (λ_=>Env->H->Out) (λ_ _=>none)
  (λ_ g d e=>Z (c d e) λi=>three i λj a b=>Ex.casesOn j (g a b) (λf=>some (.exit f,a,b)) (some (.ret,a,b))) h
def Pj(cx:Ctx)(call:jS)(g:Nat)(a:af Oper)(i:Bool)(j:Env)(f:H):Out:=
 Env.casesOn j λh _=>Bool.casesOn i
  (Z (mK cx call g a a.toList ⟨h,.nil⟩ f) λd=>two d λb c=>some (.normal,Env.casesOn b λe _=>⟨e,.nil⟩,c))
  (Z (lH cx call g a a.toList 0 ⟨[],[]⟩ ⟨h,.nil⟩ f) λd=>two d λb c=>some (.normal,Env.casesOn b λe _=>⟨e,.nil⟩,c))
def HN(c d:Env->H->Out)(e:Env)(f:H):Out:=
 Z (c e f) λh=>three h λi a b=>Ex.casesOn i (d a b) (λg=>some (.exit g,a,b)) (some (.ret,a,b))
def P2(cx:Ctx)(f:Nat)(e:ah)(c d:Env->H->Out)(a:Env)(b:H):Out:=
 Z (iG cx f a e) λh=>match h with
  | .bool g=>Bool.casesOn g (d a b) (c a b)
  |_=>none
def D5(id:Nat)(d:Env->H->Out)(e:Env)(f:H):Out:=
 Z (d e f) λg=>three g λh a b=>Ex.casesOn h (some (.normal,a,b)) (λc=>Bool.casesOn (Nat.beq c id) (some (.exit c,a,b)) (some (.normal,a,b))) (some (.ret,a,b))
def lV(cx:Ctx)(call:jS)(c a:Nat):Code->Env->H->Out
 | .skip=>λd e=>some (.normal,d,e)
 | .region _ i h=>Pj cx call a i h
 | .seq f b=>HN (lV cx call c a f) (lV cx call c a b)
 | .cond g f b=>P2 cx a g (lV cx call c a f) (lV cx call c a b)
 | .block id b=>D5 id (lV cx call c a b)
 | .loop b=>su (lV cx call c a b) c
 | .exit id=>λd e=>some (.exit id,d,e)
 | .ret=>λd e=>some (.ret,d,e)
 |_=>λ_ _=>none
def oX(g:Nat)(h:Nat):Nat->List T->aa iM:=
 @Nat.rec (λ_=>Nat->List T->aa iM) (λ_ _=>some .nil)
  (λ_ c a f=>Z (jd (Nat.succ a)) λb=>List.casesOn f
    (Bool.casesOn (lO g a) (c b []) (Z (c b []) λd=>some (.cons a .undef d)))
    λe i=>Z (c b i) λd=>some (.cons a e d)) h
def pS(cx:Ctx)(c:Nat)(b:Env)(e:H)(f:List ResultVar):aa (List T):=
 iN (λh=>ResultVar.casesOn h (λa=>b.get c a) (λd a=>Z (b.get c d) λg=>Z (cx.ty a) λi=>e.load i g)) f
def zK(b:Nat)(e:List Nat):Nat->aa Int:=
 @List.rec Nat (λ_=>Nat->aa Int) (λ_=>some (.negSucc 0))
  (λf _ d a=>Bool.casesOn (Nat.beq f b) (Z (jd (Nat.succ a)) λc=>d c) (some (.ofNat a))) e
def Cp(f:Prim)(b:List T)(a:H):aa (T×H):=
 match f with
 | .qF=>(match b with
  | [.str g,.int .u8 (.ofNat c)]=>iX (Nat.blt c 256) (Z (zK c g 0) λe=>some (.int .i64 e,a))
  |_=>none)
 | .clone h bytes=>(match b with
  | [i]=>Z (a.kd i) λd=>List.casesOn d (some (.fg [] false,a)) λ_ _=>a.ku h bytes [] d
  |_=>none)
def ky(a:List T):T:=match a with| [b]=>b|_=> .tuple a
def wM(cx:Ctx)(call:jS)(l:Nat)(a:Func)(c:Nat)(g:Bool)(i:List T)(m:H):aa (T×H):=
 Option.casesOn a.body none λj=>H.casesOn m λd h k=>
  Z (oX c a.ntmps 0 i) λo=>
  Z (lV cx call l c j ⟨o,.nil⟩ ⟨d,d,k⟩) λn=>three n λp f b=>Ex.casesOn p
   (Z (pS cx c f b a.results.toList) λe=>GE g d h (ky e) b)
   (λ_=>none)
   (Z (pS cx c f b a.results.toList) λe=>GE g d h (ky e) b)
