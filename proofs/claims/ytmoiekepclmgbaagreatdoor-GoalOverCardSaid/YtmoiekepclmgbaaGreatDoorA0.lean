/- TiDefs -/
import GoSem.Step
set_option linter.all false
namespace Go.TI
theorem nl9{α:Type}{f:α->Nat}{b:Nat}(h:∀a,Nat.ble (f a) b=true:=by intro _;rfl):∀a,f a<=b:=λa=>Nat.le_of_ble_eq_true (h a)
theorem D{p:Prop}(h:p:=by omega):p:=h
theorem Y{p:Prop}(h:p:=by simp):p:=h
theorem dN{p:Prop}(h:p:=by (simp;omega)):p:=h
theorem dO{p:Prop}(h:p:=by (simp only;omega)):p:=h
theorem dP{p:Prop}(h:p:=by decide):p:=h
end Go.TI
namespace Go.TI
abbrev aa:=@Option
abbrev ab:=@TypeId
abbrev af:=@Array
abbrev ah:=@Operand
abbrev ai:=@Program
abbrev aj:=@FuncId
abbrev ak:=@IntKind
abbrev am:=@Value
theorem ao:type_of% @if_neg:=@if_neg
theorem aq:type_of% @if_pos:=@if_pos
theorem ar:type_of% @Option.some.injEq:=@Option.some.injEq
theorem au:type_of% @Nat.le_refl:=@Nat.le_refl
theorem aw:type_of% @Nat.zero_le:=@Nat.zero_le
theorem ax:type_of% @Bool.and_eq_true:=@Bool.and_eq_true
theorem ay:type_of% @List.mem_of_getElem?:=@List.mem_of_getElem?
theorem az:type_of% @List.getElem?_eq_getElem:=@List.getElem?_eq_getElem
theorem aB:type_of% @Prod.mk.injEq:=@Prod.mk.injEq
theorem aC:type_of% @List.getElem_mem:=@List.getElem_mem
theorem aD:type_of% @Prod.ext:=@Prod.ext
theorem aF:type_of% @Nat.eq_of_beq_eq_true:=@Nat.eq_of_beq_eq_true
theorem aG:type_of% @List.length_map:=@List.length_map
theorem aH:type_of% @List.drop_eq_getElem_cons:=@List.drop_eq_getElem_cons
theorem aI:type_of% @List.take_length:=@List.take_length
theorem aJ:type_of% @Nat.blt_eq:=@Nat.blt_eq
theorem aK:type_of% @decide_eq_true_eq:=@decide_eq_true_eq
theorem aL:type_of% @List.map_cons:=@List.map_cons
theorem aM:type_of% @List.take_succ_eq_append_getElem:=@List.take_succ_eq_append_getElem
theorem aO:type_of% @decide_eq_false:=@decide_eq_false
theorem aP:type_of% @List.length_cons:=@List.length_cons
theorem aQ:type_of% @Nat.le_trans:=@Nat.le_trans
theorem aR:type_of% @List.getElem?_map:=@List.getElem?_map
theorem aS:type_of% @Nat.lt_or_ge:=@Nat.lt_or_ge
theorem aT:type_of% @List.length_append:=@List.length_append
theorem aU:type_of% @List.map_set:=@List.map_set
theorem aV:type_of% @Nat.mul_le_mul_right:=@Nat.mul_le_mul_right
theorem aW:type_of% @List.eq_nil_of_length_eq_zero:=@List.eq_nil_of_length_eq_zero
theorem aY:type_of% @Nat.le_of_ble_eq_true:=@Nat.le_of_ble_eq_true
theorem aZ:type_of% @List.append_assoc:=@List.append_assoc
theorem bg:type_of% @Bool.true_and:=@Bool.true_and
theorem bh:type_of% @if_false:=@if_false
theorem bj:type_of% @if_true:=@if_true
theorem bm:type_of% @List.flatMap_cons:=@List.flatMap_cons
theorem br:type_of% @Ne.symm:=@Ne.symm
theorem bw:type_of% @List.map_nil:=@List.map_nil
theorem bD:type_of% @Nat.le_of_lt:=@Nat.le_of_lt
theorem bE:type_of% @Bool.eq_iff_iff:=@Bool.eq_iff_iff
theorem bF:type_of% @Nat.lt_of_lt_of_le:=@Nat.lt_of_lt_of_le
theorem bG:type_of% @List.append_nil:=@List.append_nil
theorem bI:type_of% @decide_eq_true:=@decide_eq_true
theorem bJ:type_of% @List.mem_of_mem_take:=@List.mem_of_mem_take
theorem bK:type_of% @List.mem_of_mem_drop:=@List.mem_of_mem_drop
theorem bL:type_of% @List.take_of_length_le:=@List.take_of_length_le
theorem bM:type_of% @List.getElem?_drop:=@List.getElem?_drop
theorem bO:type_of% @congrArg:=@congrArg
theorem bP:type_of% @List.getElem?_eq_none:=@List.getElem?_eq_none
theorem bQ:type_of% @List.getD_eq_getElem?_getD:=@List.getD_eq_getElem?_getD
theorem bR:type_of% @List.getElem?_set:=@List.getElem?_set
theorem bU:type_of% @List.drop_length:=@List.drop_length
theorem bV:type_of% @List.cons.injEq:=@List.cons.injEq
theorem bY:type_of% @List.eq_of_mem_replicate:=@List.eq_of_mem_replicate
theorem bZ:type_of% @decide_eq_false_iff_not:=@decide_eq_false_iff_not
theorem cd:type_of% @Array.getD_eq_getD_getElem?:=@Array.getD_eq_getD_getElem?
theorem cg:type_of% @Nat.succ_mul:=@Nat.succ_mul
theorem ci:type_of% @List.getElem?_take:=@List.getElem?_take
theorem cj:type_of% @Bool.not_eq_true':=@Bool.not_eq_true'
theorem cm:type_of% @Int.toNat_natCast:=@Int.toNat_natCast
theorem cq:type_of% @Nat.ble_eq_true_of_le:=@Nat.ble_eq_true_of_le
theorem cr:type_of% @Bool.or_eq_true:=@Bool.or_eq_true
theorem cu:type_of% @List.mem_cons:=@List.mem_cons
theorem cv:type_of% @List.getElem?_append_left:=@List.getElem?_append_left
theorem cw:type_of% @Nat.add_mul:=@Nat.add_mul
theorem cy:type_of% @Nat.min_eq_left:=@Nat.min_eq_left
theorem cz:type_of% @List.all_eq_true:=@List.all_eq_true
theorem cA:type_of% @List.set_cons_zero:=@List.set_cons_zero
theorem cB:type_of% @List.all_cons:=@List.all_cons
theorem cC:type_of% @List.flatMap_nil:=@List.flatMap_nil
theorem cD:type_of% @Bool.false_eq_true:=@Bool.false_eq_true
theorem cE:type_of% @List.mem_or_eq_of_mem_set:=@List.mem_or_eq_of_mem_set
theorem cG:type_of% @List.nil_append:=@List.nil_append
theorem cH:type_of% @List.mem_flatMap:=@List.mem_flatMap
theorem cI:type_of% @Array.ext':=@Array.ext'
theorem cJ:type_of% @Nat.zero_add:=@Nat.zero_add
theorem cK:type_of% @List.set_cons_succ:=@List.set_cons_succ
theorem cM:type_of% @List.cons_append:=@List.cons_append
theorem cN:type_of% @List.getElem?_of_mem:=@List.getElem?_of_mem
theorem cO:type_of% @List.not_mem_nil:=@List.not_mem_nil
theorem cP:type_of% @Bool.or_eq_false_iff:=@Bool.or_eq_false_iff
theorem cQ:type_of% @List.length_nil:=@List.length_nil
theorem cR:type_of% @Array.length_toList:=@Array.length_toList
theorem cS:type_of% @List.take_append_drop:=@List.take_append_drop
theorem cT:type_of% @Bool.not_eq_false':=@Bool.not_eq_false'
theorem cU:type_of% @Option.getD_some:=@Option.getD_some
theorem cV:type_of% @Nat.add_assoc:=@Nat.add_assoc
theorem cW:type_of% @List.mem_map:=@List.mem_map
theorem cY:type_of% @Nat.ne_of_beq_eq_false:=@Nat.ne_of_beq_eq_false
theorem cZ:type_of% @List.getElem?_append_right:=@List.getElem?_append_right
theorem c8:type_of% @Option.some.inj:=@Option.some.inj
theorem dc:type_of% @List.length_set:=@List.length_set
theorem df:type_of% @Bool.false_and:=@Bool.false_and
theorem dg:type_of% @List.drop_drop:=@List.drop_drop
theorem dh:type_of% @List.ext_getElem?:=@List.ext_getElem?
theorem dj:type_of% @List.take_append_of_le_length:=@List.take_append_of_le_length
theorem dq:type_of% @List.getElem?_cons_succ:=@List.getElem?_cons_succ
theorem dt:type_of% @List.mem_append_left:=@List.mem_append_left
theorem du:type_of% @Nat.lt_succ_self:=@Nat.lt_succ_self
theorem dw:type_of% @List.mem_range:=@List.mem_range
theorem dx:type_of% @List.take_add_one:=@List.take_add_one
theorem dy:type_of% @List.getElem_of_mem:=@List.getElem_of_mem
theorem dz:type_of% @List.replicate_succ:=@List.replicate_succ
theorem dA:type_of% @List.toList_toArray:=@List.toList_toArray
theorem dB:type_of% @List.mem_iff_getElem?:=@List.mem_iff_getElem?
theorem dC:type_of% @Bool.eq_false_iff:=@Bool.eq_false_iff
theorem dD:type_of% @List.pairwise_cons:=@List.pairwise_cons
theorem dE:type_of% @List.getElem?_modify:=@List.getElem?_modify
theorem dF:type_of% @List.flatMap_append:=@List.flatMap_append
theorem dG:type_of% @List.getElem?_set_self:=@List.getElem?_set_self
theorem dH:type_of% @List.getElem?_set_ne:=@List.getElem?_set_ne
theorem dI:type_of% @List.length_range:=@List.length_range
theorem dJ:type_of% @Array.getElem?_toList:=@Array.getElem?_toList
theorem dK:type_of% @List.mem_append_right:=@List.mem_append_right
end Go.TI
namespace Go.TI
noncomputable section
inductive T where
 |undef
 |bool (b:Bool)
 |int (k:ak) (n:Int)
 |str (s:List Nat)
 |lr
 |ptr (b ep i j:Nat)
 |j9 (cells:List T)
 |ed (fR:List T) (full:Bool)
 |iO
 |arr (b ep o l:Nat) (full:Bool)
 |func (f:aj) (captured:List T)
 |lV
 |ma
 |iface (t:ab) (v:T)
 |iter (b:Nat)
 |map (b:Nat)
 |po
 |agg (cells:List T)
 |tuple (vs:List T)
 deriving Inhabited
def T.cells:T->List T
 | .agg a=>a
 |v=>[v]
def T.iN:T->Bool
 | .undef| .tuple _=>false
 |_=>true
structure jv where
 sz:Nat
 ep:Nat
 ver:Nat
 exact:Bool
 it:Bool
 fR:List T
 deriving Inhabited
structure H where
 size:Nat
 low:Nat
 gU:List jv
 deriving Inhabited
inductive U where
 |int (k:ak)|bool|str|slice (e:ab)|array (n:Nat) (e:ab)|map (k e:ab)|struct (fs:List (Nat×ab))|ptr (e:ab)|func|iface|other
 deriving Inhabited
structure Ty where
 u:U
 size:Nat
 bytes:Nat
 cmp:Bool
 zero:List T
 deriving Inhabited
inductive Prim where
 |pA
 |clone (sz bytes:Nat)
 deriving Inhabited
structure Fun where
 fn:Func
 J:Nat
 md:Bool
 aiX:aa Prim
 deriving Inhabited
structure Ctx where
 ty:ab->aa Ty
 fn:aj->aa Fun
 gl:Nat->aa (List T)
def Z{a b:Type}(d:aa a)(c:a->aa b):aa b:=Option.casesOn d none c
def iG{a:Type}(b:Bool)(c:aa a):aa a:=Bool.casesOn b none c
def two{a b c:Type}(e:a×b)(d:a->b->c):c:=Prod.casesOn e d
def nJ{a:Type}(c:List a):Nat->aa a:=
 @List.rec a (λ_=>Nat->aa a) (λ_=>none) (λf _ b e=> @Nat.rec (λ_=>aa a) (some f) (λd _=>b d) e) c
def lU{a:Type}(d:List a):Nat->a->aa (List a):=
 @List.rec a (λ_=>Nat->a->aa (List a)) (λ_ _=>none)
  (λi g c f b=> @Nat.rec (λ_=>aa (List a)) (some (b::g)) (λe _=>Z (c e b) λh=>some (i::h)) f) d
def takeN{a:Type}(d:Nat):List a->aa (List a):=
 @Nat.rec (λ_=>List a->aa (List a)) (λ_=>some [])
  (λ_ b c=> @List.rec a (λ_=>aa (List a)) none (λg e _=>Z (b e) λf=>some (g::f)) c) d
def kH{a:Type}(d:Nat):List a->aa (List a):=
 @Nat.rec (λ_=>List a->aa (List a)) (λb=>some b)
  (λ_ c b=> @List.rec a (λ_=>aa (List a)) none (λ_ e _=>c e) b) d
def ml{a:Type}(c:List a):Nat:= @List.rec a (λ_=>Nat) 0 (λ_ _ b=>Nat.succ b) c
def GA{a:Type}(e f:List a):aa (List a):=
 @List.rec a (λ_=>aa (List a)) (some f) (λd _ b=>Z b λc=>some (d::c)) e
def iu{a b:Type}(c:a->aa b)(e:List a):aa (List b):=
 @List.rec a (λ_=>aa (List b)) (some []) (λg _ d=>Z (c g) λh=>Z d λf=>some (h::f)) e
def qS{a:Type}(d:a)(c:Nat):List a:= @Nat.rec (λ_=>List a) [] (λ_ b=>d::b) c
def y8{a:Type}(b:a->Bool)(d:List a):Bool:= @List.rec a (λ_=>Bool) true (λe _ c=>Bool.rec false c (b e)) d
def iQ(b:Nat):aa Nat:=Nat.casesOn b (some 0) (λa=>some (Nat.succ a))
def NS(c:Int):aa Int:=
 Int.casesOn c (λa=>Nat.casesOn a (some (.ofNat 0)) (λb=>some (.ofNat (Nat.succ b)))) (λa=>Nat.casesOn a (some (.negSucc 0)) (λb=>some (.negSucc (Nat.succ b))))
def zU(a:ak)(c:Int):aa T:=Z (NS c) λb=>some (.int a b)
def zf(a:Bool):aa T:=Bool.casesOn a (some (.bool false)) (some (.bool true))
def kNo:ak->Nat
 | .i8=>0| .i16=>1| .i32=>2| .i64=>3| .u8=>4| .u16=>5| .u32=>6| .u64=>7
def F8(a b:ak):Bool:=Nat.beq (kNo a) (kNo b)
def NY(d c:Int):Bool:=Int.casesOn d (λa=>Int.casesOn c (λb=>Nat.blt a b) (λ_=>false)) (λa=>Int.casesOn c (λ_=>true) (λb=>Nat.blt b a))
def U7(d c:Int):Bool:=Int.casesOn d (λa=>Int.casesOn c (λb=>Nat.beq a b) (λ_=>false)) (λa=>Int.casesOn c (λ_=>false) (λb=>Nat.beq a b))
def No(k:ak)(a:Int):Int:=
 match k with
 | .i64=>Int.casesOn a (λb=>Bool.casesOn (Nat.ble b 9223372036854775807) (IntKind.i64.wrap a) a) (λb=>Bool.casesOn (Nat.ble b 9223372036854775807) (IntKind.i64.wrap a) a)
 |k=>k.wrap a
def rS(a:ak)(b:Int):aa T:=zU a (No a b)
def YG(b:List Nat):List Nat->Bool:=
 @List.rec Nat (λ_=>List Nat->Bool) (λa=>List.casesOn a true (λ_ _=>false))
  (λe _ c a=>List.casesOn a false (λf d=>Bool.rec false (c d) (Nat.beq e f))) b
def U6(d:List Nat):List Nat->Bool:=
 @List.rec Nat (λ_=>List Nat->Bool) (λa=>List.casesOn a false (λ_ _=>true))
  (λb _ e a=>List.casesOn a false (λc f=>Bool.rec (Bool.rec false (e f) (Nat.beq b c)) true (Nat.blt b c))) d
def H.get(d:H)(a:Nat):aa jv:=
 H.casesOn d λb _ c=>iG (Nat.blt a b) (nJ c (Nat.sub (Nat.sub b 1) a))
def H.new(g:Nat->T)(h:H)(i:jv):aa (T×H):=
 H.casesOn h λa d c=>Z (iQ (Nat.succ a)) λe=>some (g a,⟨e,d,i::c⟩)
def H.put(g:H)(a:Nat)(x:jv):aa H:=
 H.casesOn g λb e f=>iG (Nat.blt a b)
  (Z (lU f (Nat.sub (Nat.sub b 1) a) x) λd=>Bool.casesOn (Nat.blt a e) (some ⟨b,e,d⟩) (some ⟨b,a,d⟩))
def over(a:List T)(f:List T):aa (List T):=
 @List.rec T (λ_=>List T->aa (List T)) (λa=>some a)
  (λe _ b a=>List.casesOn a none (λ_ c=>Z (b c) λd=>some (e::d))) f a
def mg(a:List T)(d:Nat)(g:List T):aa (List T):=
 @Nat.rec (λ_=>List T->aa (List T)) (λa=>over a g)
  (λ_ c a=>List.casesOn a none (λb e=>Z (c e) λf=>some (b::f))) d a
def Ty.isAgg(a:Ty):Bool:=match a.u with| .struct _| .array _ _=>true|_=>false
def YE(a:List T):T:=List.casesOn a .undef (λb _=>b)
def Ty.kR(a:Ty):T:=Bool.casesOn a.isAgg (YE a.zero) (.agg a.zero)
def kU(b:Ty)(a:List T):aa T:=
 Bool.casesOn b.isAgg (nJ a 0) (Z (takeN b.size a) λc=>some (.agg c))
def H.elem(e:H)(a c i:Nat):aa T:=
 Z (e.get a) λx=>jv.casesOn x λ_ d _ _ f b=>iG (Nat.beq d c) (Bool.casesOn f (nJ b i) none)
def H.load(g:H)(b:Ty)(c:T):aa T:=
 match c with
 | .ptr d f h i=>Z (g.elem d f h) λe=>Z (kH i e.cells) λa=>kU b a
 | .j9 a=>kU b a
 |_=>none
def mG(d:T)(a:Nat)(b:List T):aa T:=
 match d with
 | .agg c=>Z (mg c a b) λe=>some (.agg e)
 |_=>match a,b with
  |0,[f]=>some f
  |_,_=>none
def H.store(d:H)(o:Ty)(g f:T):aa H:=
 match g with
 | .ptr a j e m=>iG (Nat.beq (ml f.cells) o.size) (Z (d.get a) λr=>jv.casesOn r λn c p exact l b=>
  iG (Nat.beq c j) (Bool.casesOn l (Z (nJ b e) λh=>Z (mG h m f.cells) λi=>Z (lU b e i) λk=>
   Z (iQ (Nat.succ p)) λq=>d.put a ⟨n,c,q,exact,false,k⟩) none))
 |_=>none
def H.jM(f:H)(k:T):aa (List T):=
 match k with
 | .ed e _=>some e
 | .iO=>some []
 | .arr a c i h _=>Z (f.get a) λl=>jv.casesOn l λ_ d _ _ g b=>iG (Nat.beq d c) (Bool.casesOn g (Z (kH i b) λj=>takeN h j) none)
 |_=>none
def fits(c:Nat)(b:List T):Bool:=List.casesOn b true (λa _=>Nat.beq (ml a.cells) c)
def mL(b:Nat)(exact:Bool)(a:List T):jv:=⟨b,0,0,exact,false,a⟩
def H.js(g:H)(a bytes:Nat)(d e:List T):aa (T×H):=
 Z (GA d e) λb=>Z (iQ (ml b)) λc=>
 iG (Nat.ble 1 bytes)<|iG (Nat.ble (Nat.mul c bytes) 70368744177664) (iG (fits a d) (iG (fits a e) (g.new (λf=> .arr f 0 0 c false) (mL a false b))))
def H.nP(e:H)(g bytes a k o:Nat)(i:List T):aa (T×H):=
 Z (e.get a) λr=>jv.casesOn r λh b p _ n j=>
  Z (takeN o j) λl=>Z (GA l i) λd=>Z (iQ (ml d)) λf=>
  iG (Nat.ble 1 bytes)<|iG (Nat.beq b k) (iG (Nat.beq h g) (iG (Nat.ble (Nat.mul f bytes) 70368744177664) (iG (fits g i) (Bool.casesOn n
   (Z (iQ (Nat.succ b)) λc=>Z (iQ (Nat.succ p)) λq=>
     Z (e.put a ⟨h,c,q,false,false,d⟩) λm=>some (.arr a c 0 f false,m)) none))))
def qp:T->Bool
 | .ed _ _| .iO| .arr .. =>true
 |_=>false
def H.append(a:H)(e bytes:Nat)(d:T)(b:List T):aa (T×H):=
 List.casesOn b (iG (qp d) (some (d,a))) λ_ _=>match d with
  | .ed c f=>List.casesOn c (a.js e bytes [] b) λ_ _=>iG f (a.js e bytes c b)
  | .arr g h j i f=>Bool.casesOn f
   (Nat.casesOn j (a.nP e bytes g h i b) λ_=>none)
   (Z (a.jM d) λc=>a.js e bytes c b)
  |_=>none
def freeze(m:H)(p:Nat)(h:Nat):T->aa T:=
 @Nat.rec (λ_=>T->aa T) (λ_=>none) (λ_ e f=>match f with
  | .arr b i q o l=>iG (Nat.ble p b) (Z (m.get b) λr=>jv.casesOn r λ_ j _ exact n c=>
   iG (Nat.beq j i) (Bool.casesOn n (Z (Z (kH q c) λa=>takeN o a) λk=>Z (iu e k) λd=>
    List.casesOn d (List.casesOn c (Bool.casesOn exact (some .iO) (some (.ed [] false))) λ_ _=>some .iO) λ_ _=>some (.ed d l)) none))
  | .agg g=>Z (iu e g) λa=>some (.agg a)
  | .bool _| .int _ _| .str _| .lr| .ed _ _| .iO| .lV| .ma=>some f
  |_=>none) h
def jk(d:H)(c:Nat)(a:T):aa T:=
 match a with
 | .arr b _ _ _ _=>Bool.casesOn (Nat.ble c b) (some a) (freeze d c 12 a)
 | .ptr b _ _ _=>Bool.casesOn (Nat.ble c b) (some a) none
 | .map b=>Bool.casesOn (Nat.ble c b) (some a) none
 | .undef=>some a
 |_=>freeze d c 12 a
def lf(a:H)(b:Nat)(c:T):aa T:=
 match c with
 | .agg d=>Z (iu (jk a b) d) λe=>some (.agg e)
 |_=>jk a b c
def jJ(a:H)(b:Nat)(c:T):aa T:=
 match c with
 | .tuple e=>Z (iu (lf a b) e) λd=>some (.tuple d)
 |_=>lf a b c
def li(b:Nat):T->Bool
 | .arr a _ _ _ _=>Nat.blt a b
 | .ptr a _ _ _=>Nat.blt a b
 | .map a=>Nat.blt a b
 | .bool _| .int _ _| .str _| .lr| .ed _ _| .iO| .lV| .ma| .po| .j9 _=>true
 |_=>false
def below(b:Nat):T->Bool
 | .agg a=>y8 (li b) a
 | .func _ a=>y8 (li b) a
 | .tuple a=>y8 (li b) a
 |v=>li b v
def uA(d:Nat)(b:Nat):List jv->Bool:=
 @Nat.rec (λ_=>List jv->Bool) (λ_=>true) (λ_ a c=>List.casesOn c true λf e=>Bool.casesOn (y8 (below d) f.fR) false (a e)) b
def oO(c:Nat)(d:T)(f:H):aa (T×H):=
 H.casesOn f λe b a=>Bool.casesOn (Nat.blt b c) (some (d,⟨e,c,a⟩)) (some (d,⟨e,b,a⟩))
def wh(a c:Nat)(i e:T)(h:H):aa (T×H):=
 H.casesOn h λg b f=>Z (kH (Nat.sub g a) f) λd=>
  Bool.casesOn (Nat.ble a b)
   (Bool.casesOn (uA a (Nat.sub a b) d) (oO c i ⟨g,b,f⟩)
     (Bool.casesOn (Nat.blt b c) (some (e,⟨a,c,d⟩)) (some (e,⟨a,b,d⟩))))
   (some (e,⟨a,c,d⟩))
def E1(e:Bool)(d c:Nat)(b:T)(a:H):aa (T×H):=
 Bool.casesOn e (Option.casesOn (jJ a d b) (oO c b a) λf=>wh d c b f a) (oO c b a)
inductive iz where
 |nil
 |cons (s:Nat) (v:T) (r:iz)
 deriving Inhabited
structure Env where
 vars:iz
 tmps:iz
 deriving Inhabited
def d8(c:iz)(d:Nat):aa T:=
 @iz.rec (λ_=>aa T) none (λb e _ a=>Bool.rec a (some e) (Nat.beq b d)) c
def mX(e:iz)(b:Nat)(c:T):aa iz:=
 @iz.rec (λ_=>aa iz) (some (.cons b c .nil)) (λa h f d=>Bool.rec (Z d λg=>some (.cons a h g)) (some (.cons a c f)) (Nat.beq a b)) e
def kS(a b:Nat):Bool:=Nat.beq (Nat.land (Nat.shiftRight a b) 1) 1
def Env.get(c:Nat)(b:Env)(a:Nat):aa T:=
 Env.casesOn b λe d=>Bool.casesOn (kS c a) (d8 d a) (d8 e a)
def Env.set(g:Nat)(e:Env)(a:Nat)(c:T):aa Env:=
 Env.casesOn e λd b=>Bool.casesOn (kS g a) (some ⟨d,.cons a c b⟩) (Z (mX d a c) λf=>some ⟨f,b⟩)
def Env.dst(c:Nat)(a:Env)(b:aa Tmp)(e:T):aa Env:=
 Option.casesOn b (some a) λd=>a.set c d e
def Cv(b:List UInt8):aa (List Nat):=iu (λa=>iQ a.toNat) b
def pK:am->aa T
 | .bool a=>some (.bool a)
 | .int b d=>some (.int b d)
 | .string e=>Z (Cv e.data.toList) λc=>some (.str c)
 | .pointer none=>some .lr
 | .map none=>some .po
 | .slice none 0 0=>some (.ed [] false)
 | .nilFunc=>some .lV
 | .nilIface=>some .ma
 |_=>none
def A5:am->aa T
 | .agg a=>Z (iu pK a.toList) λb=>some (.agg b)
 |v=>pK v
def ir(cx:Ctx)(e:Nat)(b:Env)(f:ah):aa T:=
 Operand.casesOn f (λg=>b.get e g) (λh=>A5 h) (λd=>Z (cx.gl d) λa=>some (.j9 a)) (λc=>some (.func c []))
def r7(cx:Ctx)(c:Nat)(a:Env)(b:List ah):aa (List T):=iu (ir cx c a) b
def rN:T->aa Nat
 | .int _ b=>Int.casesOn b (λa=>some a) (λ_=>none)
 |_=>none
def uv(g:U)(c a:T):aa Bool:=
 match g with
 | .int _=>(match c with| .int e d=>(match a with| .int f b=>iG (F8 e f) (some (U7 d b))|_=>none)|_=>none)
 | .bool=>(match c with| .bool d=>(match a with| .bool b=>some (Bool.casesOn d (Bool.casesOn b true false) b)|_=>none)|_=>none)
 | .str=>(match c with| .str d=>(match a with| .str b=>some (YG d b)|_=>none)|_=>none)
 | .ptr _=>(match c with
  | .lr=>(match a with| .lr=>some true| .ptr .. | .j9 _=>some false|_=>none)
  | .ptr .. | .j9 _=>(match a with| .lr=>some false|_=>none)
  |_=>none)
 | .func=>(match c with
  | .lV=>(match a with| .lV=>some true| .func .. =>some false|_=>none)
  | .func .. =>(match a with| .lV=>some false|_=>none)
  |_=>none)
 | .iface=>(match c with
  | .ma=>(match a with| .ma=>some true| .iface .. =>some false|_=>none)
  | .iface .. =>(match a with| .ma=>some false|_=>none)
  |_=>none)
 |_=>none
def U.plain:U->Bool
 | .int _| .bool| .str=>true
 |_=>false
def eqFields(cx:Ctx)(f:List (Nat×ab)):Nat->List T->List T->aa Bool:=
 @List.rec (Nat×ab) (λ_=>Nat->List T->List T->aa Bool) (λ_ _ _=>some true)
  (λa _ g b d e=>List.casesOn d none λk h=>List.casesOn e none λl i=>iG (Nat.beq a.1 b) (Z (cx.ty a.2) λc=>iG c.u.plain
    (Z (uv c.u k l) λj=>Bool.casesOn j (some false) (g (Nat.succ b) h i)))) f
def Bq(f:U)(b:List T):List T->aa Bool:=
 @List.rec T (λ_=>List T->aa Bool) (λa=>List.casesOn a (some true) λ_ _=>none)
  (λg _ c a=>List.casesOn a none λh d=>Z (uv f g h) λe=>Bool.casesOn e (some false) (c d)) b
def Lm(cx:Ctx)(d:Ty)(e f:T):aa Bool:=
 match d.u with
 | .struct h=>(match e with
  | .agg a=>(match f with
   | .agg b=>iG d.cmp (eqFields cx h 0 a b)
   |_=>none)
  |_=>none)
 | .array i g=>(match e with
  | .agg a=>(match f with
   | .agg b=>iG d.cmp (Z (cx.ty g) λc=>iG c.u.plain (iG (Nat.beq c.size 1) (iG (Nat.beq (ml a) i) (Bq c.u a b))))
   |_=>none)
  |_=>none)
 |u=>uv u e f
def yX(f g:T)(d:ak->Int->Int->aa T):aa T:=
 match f with
 | .int a b=>(match g with| .int e c=>iG (F8 a e) (d a b c)|_=>none)
 |_=>none
def BT(f g:T)(d:ak->Int->Nat->aa T):aa T:=
 match f with
 | .int a b=>(match g with| .int _ c=>Int.casesOn c (λe=>d a b (min e a.bits)) (λ_=>none)|_=>none)
 |_=>none
def MZ(h c:T)(d:Int->Int->Bool)(e:List Nat->List Nat->Bool):aa T:=
 match h with
 | .int f a=>(match c with| .int g b=>iG (F8 f g) (zf (d a b))|_=>none)
 | .str a=>(match c with| .str b=>zf (e a b)|_=>none)
 |_=>none
def Xo(d e:T):aa T:=
 match d with
 | .str a=>(match e with
  | .str b=>Z (GA a b) λc=>iG (Nat.ble (ml c) 4294967296) (some (.str c))
  |_=>none)
 |_=>yX d e λf a b=>rS f (a+b)
def binop:BinOp->T->T->aa T
 | .add=>Xo
 | .sub=>λd e=>yX d e λc a b=>rS c (a-b)
 | .mul=>λd e=>yX d e λc a b=>rS c (a*b)
 | .quo=>λd e=>yX d e λc a b=>Bool.casesOn (U7 b 0) (rS c (a.tdiv b)) none
 | .rem=>λd e=>yX d e λc a b=>Bool.casesOn (U7 b 0) (zU c (a.tmod b)) none
 | .and=>λd e=>yX d e λc a b=>zU c (c.wrap (BitVec.ofInt c.bits a&&&BitVec.ofInt c.bits b).toNat)
 | .or=>λd e=>yX d e λc a b=>zU c (c.wrap (BitVec.ofInt c.bits a|||BitVec.ofInt c.bits b).toNat)
 | .xor=>λd e=>yX d e λc a b=>zU c (c.wrap (BitVec.ofInt c.bits a^^^BitVec.ofInt c.bits b).toNat)
 | .shl=>λd e=>BT d e λc a f=>zU c (c.wrap (a*2^f))
 | .shr=>λd e=>BT d e λc a f=>zU c (a.fdiv (2^f))
 | .lss=>λd e=>MZ d e NY U6
 | .leq=>λd e=>MZ d e (λa b=> !NY b a) (λa b=> !U6 b a)
 | .gtr=>λd e=>MZ d e (λa b=>NY b a) (λa b=>U6 b a)
 | .geq=>λd e=>MZ d e (λa b=> !NY a b) (λa b=> !U6 a b)
 |_=>λ_ _=>none
def unop:UnOp->T->aa T
 | .neg=>λa=>(match a with| .int c d=>rS c (0-d)|_=>none)
 | .not=>λa=>(match a with| .bool b=>Bool.casesOn b (some (.bool true)) (some (.bool false))|_=>none)
 |_=>λ_=>none
def conv(cx:Ctx)(c:ab)(a:T):aa T:=
 Z (cx.ty c) λb=>match b.u with
  | .int d=>(match a with| .int _ n=>rS d n|_=>none)
  | .str=>(match a with| .str e=>some (.str e)|_=>none)
  |_=>none
def FS(cx:Ctx)(d:ab)(i:T):aa T:=
 Z (cx.ty d) λc=>match c.u with
  | .slice e=>(match i with
   | .str a=>Z (cx.ty e) λh=>(match h.u with
    | .int g=>iG (F8 g .u8) (List.casesOn a (some .iO) λ_ _=>Z (iu (λb=>some (T.int .u8 (.ofNat b))) a) λf=>some (.ed f false))
    |_=>none)
   |_=>none)
  |_=>none
def Bo(cx:Ctx)(c:ab)(a:Nat):aa (Nat×ab):=
 Z (cx.ty c) λd=>match d.u with| .struct b=>nJ b a|_=>none
def nR(place:Nat->aa (Nat×Nat))(f:List (Nat×T)):List T->aa (List T):=
 @List.rec (Nat×T) (λ_=>List T->aa (List T)) (λa=>some a)
  (λb _ e a=>Z (place b.1) λc=>iG (Nat.beq (ml b.2.cells) c.2) (Z (mg a c.1 b.2.cells) λd=>e d)) f
def rh(h:Nat)(g:List (Nat×T)):List T->aa (List T):=
 @List.rec (Nat×T) (λ_=>List T->aa (List T)) (λa=>some a)
  (λf _ e a=>two f λd b=>iG (Nat.beq (ml b.cells) h) (Z (lU a d b) λc=>e c)) g
def partsOf(cx:Ctx)(e:Nat)(b:Env)(d:List (Nat×ah)):aa (List (Nat×T)):=
 iu (λg=>two g λc f=>Z (ir cx e b f) λa=>iG a.iN (some (c,a))) d
def kw(cx:Ctx)(b:Nat)(a:Env)(f:aa ah):aa (aa Nat):=
 Option.casesOn f (some none) λd=>Z (ir cx b a d) λe=>Z (rN e) λc=>some (some c)
def iH(c:aa Nat)(a:Nat):Nat:=Option.casesOn c a λb=>b
def MW{b:Type}(d:List b)(a c:Nat):aa (List b):=Z (kH a d) λe=>takeN (Nat.sub c a) e
def qO(c:List T)(e:Bool)(d a:Nat)(g:aa Nat):aa T:=
 iG (Nat.ble d a) (Z (MW c d a) λb=>Option.casesOn g
  (List.casesOn b (List.casesOn c (some (.ed [] false)) λ_ _=>some .iO) λ_ _=>some (.ed b (Bool.casesOn e false (Nat.beq a (ml c)))))
  λf=>iG (Nat.beq f a) (List.casesOn b (some (.ed [] false)) λ_ _=>some (.ed b true)))
def xN(b c k g:Nat)(h:Bool)(e a:Nat)(j:aa Nat):aa T:=
 iG (Nat.ble e a) (iG (Nat.ble a g) (Z (iQ (Nat.add k e)) λf=>Z (iQ (Nat.sub a e)) λd=>Option.casesOn j
  (Bool.casesOn h (some (.arr b c f d false)) (iG (Nat.beq a g) (some (.arr b c f d true))))
  λi=>iG (Nat.beq i a) (some (.arr b c f d true))))
def qP(m:T)(b a c:aa Nat):aa T:=
 match m with
 | .str e=>Option.casesOn c (iG (Nat.ble (iH b 0) (iH a (ml e))) (Z (MW e (iH b 0) (iH a (ml e))) λl=>some (.str l))) λ_=>none
 | .ed f d=>qO f d (iH b 0) (iH a (ml f)) c
 | .iO=>iG (Nat.beq (iH b 0) 0) (iG (Nat.beq (iH a 0) 0) (Option.casesOn c (some .iO) λj=>iG (Nat.beq j 0) (some (.ed [] false))))
 | .arr h i k g d=>xN h i k g d (iH b 0) (iH a g) c
 |_=>none
inductive mS where
 |val (v:T) (h:H)
 |call (f:aj) (args:List T)
 deriving Inhabited
def val(a:H)(c:aa T):aa mS:=Z c λb=>some (.val b a)
def j7(d:aa (T×H)):aa mS:=Z d λb=>two b λc a=>some (.val c a)
abbrev Hd:=Ctx->Nat->Env->H->aa mS
def Fc(d:ah):Hd:=λcx c a b=>val b (ir cx c a d)
def Ho(a e f:ah):Hd:=λcx c b d=>
 Z (ir cx c b a) λa=>match a with
  | .bool g=>Bool.casesOn g (val d (ir cx c b f)) (val d (ir cx c b e))
  |_=>none
def yP(cx:Ctx)(d:Ty):Bool:=
 match d.u with
 | .array _ a=>Option.casesOn (cx.ty a) false λc=>(match c.u with| .int b=>F8 b .u8|_=>false)
 |_=>false
def Fg(d:ab):Hd:=λcx _ _ c=>Z (cx.ty d) λa=>Bool.casesOn (yP cx a)
 (j7 (c.new (λb=> .ptr b 0 0 0) (mL a.size true [a.kR])))
 (j7 (c.new (λb=> .ptr b 0 0 0) (mL 1 true a.zero)))
def Qn(f:ah):Hd:=λcx e c d=>Z (ir cx e c f) λa=>iG a.iN (j7 (d.new (λb=> .ptr b 0 0 0) (mL (ml a.cells) true [a])))
def Co(m:ab)(l:af (Nat×ah)):Hd:=λcx k h e=>
 Z (cx.ty m) λc=>Z (partsOf cx k h l.toList) λf=>match c.u with
  | .struct j=>Z (nR (λb=>Z (nJ j b) λd=>Z (cx.ty d.2) λn=>some (d.1,n.size)) f c.zero) λa=>val e (some (.agg a))
  | .array _ i=>Z (cx.ty i) λg=>Z (nR (λb=>some (Nat.mul b g.size,g.size)) f c.zero) λa=>val e (some (.agg a))
  |_=>none
def pW(k:ab)(b:Nat)(i:af (Nat×ah)):Hd:=λcx h d g=>
 Z (cx.ty k) λl=>match l.u with
  | .slice e=>Z (cx.ty e) λa=>Z (partsOf cx h d i.toList) λj=>
   iG (Nat.ble 1 a.size)<|iG (Nat.ble (Nat.mul b a.size) 65536) (Z (rh a.size j (qS a.kR b)) λf=>
    j7 (g.new (λc=> .arr c 0 0 b false) (mL a.size true f)))
  |_=>none
def KA(e:ab)(a:ah):Hd:=λcx d c b=>Z (cx.ty e) λf=>Z (ir cx d c a) λa=>val b (b.load f a)
def E9(g:ab)(a i:ah):Hd:=λcx c b e=>
 Z (cx.ty g) λh=>Z (ir cx c b a) λa=>Z (ir cx c b i) λd=>iG d.iN (Z (e.store h a d) λf=>some (.val .undef f))
def tM(e:ah):Hd:=λcx d b c=>Z (ir cx d b e) λa=>match a with
 | .ptr .. | .j9 _| .func .. =>some (.val a c)
 |_=>none
def A7(c d:ah)(a b:T):Bool:=
 match a with
 | .ma=>(match b with| .ma=>Region.isConst c||Region.isConst d|_=>true)
 |_=>true
def hEq(i:Bool)(j:ab)(f g:ah):Hd:=λcx d c h=>
 Z (cx.ty j) λk=>Z (ir cx d c f) λa=>Z (ir cx d c g) λb=>
  iG (A7 f g a b) (Z (Lm cx k a b) λe=>val h (zf (Bool.casesOn i e (!e))))
def Qo(f:BinOp)(g h:ah):Hd:=λcx b a e=>
 Z (ir cx b a g) λc=>Z (ir cx b a h) λd=>val e (binop f c d)
def hUn(e:UnOp)(f:ah):Hd:=λcx d b c=>Z (ir cx d b f) λa=>val c (unop e a)
def byteOf(d:T):aa Nat:=match d with
 | .int b c=>iG (F8 b .u8) (Int.casesOn c (λa=>iG (Nat.blt a 256) (some a)) (λ_=>none))
 |_=>none
def Jf(cx:Ctx)(d:H)(g:ab)(i:T):aa T:=
 Z (cx.ty g) λf=>match f.u with
  | .slice b=>Z (cx.ty b) λh=>(match h.u with
   | .int e=>iG (F8 e .u8) (Z (d.jM i) λc=>Z (iu byteOf c) λa=>iG (Nat.ble (ml a) 4294967296) (some (.str a)))
   |_=>none)
  |_=>none
def N5(d c:ab)(h:ah):Hd:=λcx g f b=>Z (cx.ty d) λ_=>Z (ir cx g f h) λa=>
 Z (cx.ty c) λe=>match e.u with
  | .slice _=>val b (FS cx c a)
  | .str=>(match a with
   | .str _=>val b (conv cx c a)
   |_=>val b (Jf cx b d a))
  |_=>val b (conv cx c a)
def Ck(b:ab)(g:ah):Hd:=λcx e c d=>Z (cx.ty b) λf=>match f.u with
 | .iface=>none
 |_=>Z (ir cx e c g) λa=>iG a.iN (val d (some (.iface b a)))
def Fd(e:Fn)(first a:af ah):Hd:=λcx g c f=>match e with
 | .func d=>(match first.toList with
  | []=>Z (r7 cx g c a.toList) λb=>val f (some (.func d b))
  |_=>none)
 |_=>none
def qY(i:ab)(a b:ah):Hd:=λcx e d h=>Z (cx.ty i) λj=>match j.u with
 | .slice g=>Z (cx.ty g) λc=>Z (ir cx e d a) λa=>Z (ir cx e d b) λb=>Z (rN a) λa=>Z (rN b) λb=>
  iG (Nat.ble 1 c.size)<|iG (Nat.ble 1 c.bytes)<|iG (Nat.ble a b) (iG (Nat.ble (Nat.mul b c.bytes) 70368744177664) (j7 (h.new (λf=> .arr f 0 0 a false) (mL c.size (Nat.beq a b) (qS c.kR a)))))
 |_=>none
def A9(a b:aa Nat):Bool:=Option.casesOn b true λ_=>Option.casesOn a false λ_=>true
def jI(cx:Ctx)(f:H)(p:U)(e:T):Bool:=
 match p with
 | .str=>(match e with| .str _=>true|_=>false)
 | .slice d=>Option.casesOn (cx.ty d) false λa=>(match e with
  | .ed j _=>fits a.size j
  | .iO=>true
  | .arr b _ _ _ _=>Option.casesOn (f.get b) false λc=>Nat.beq c.sz a.size
  |_=>false)
 | .array n d=>Option.casesOn (cx.ty d) false λa=>(match e with
  | .ptr b h k m=>Option.casesOn (f.get b) false λc=>jv.casesOn c λo i _ exact l g=>
   Nat.beq o a.size&&Nat.beq i h&&Nat.beq k 0&&Nat.beq m 0&&exact&& !l&&Nat.beq (ml g) n
  |_=>false)
 |_=>false
def asSlice(e:U)(a:T):T:=match e with
 | .array d _=>(match a with| .ptr b c _ _=> .arr b c 0 d false|_=>a)
 |_=>a
def Fa(i:ab)(e:ah)(f b d:aa ah):Hd:=λcx c a g=>Z (cx.ty i) λh=>
 Z (ir cx c a e) λe=>iG (jI cx g h.u e)<|Z (kw cx c a f) λf=>Z (kw cx c a b) λb=>Z (kw cx c a d) λd=>iG (A9 b d) (val g (qP (asSlice h.u e) f b d))
def rf(n:ab)(a:ah)(i:Nat):Hd:=λcx m g c=>Z (Bo cx n i) λb=>Z (ir cx m g a) λa=>match a with
 | .ptr d h j k=>Z (iQ (Nat.add k b.1)) λl=>some (.val (.ptr d h j l) c)
 | .j9 e=>Z (kH b.1 e) λf=>some (.val (.j9 f) c)
 |_=>none
def Cn(i:ab)(a:ah)(e:Nat):Hd:=λcx g d f=>
 Z (Bo cx i e) λb=>Z (cx.ty b.2) λj=>Z (ir cx g d a) λa=>match a with
  | .agg c=>Z (kH b.1 c) λh=>val f (kU j h)
  |_=>none
def lM(a:H)(f:Ty)(l:T)(b:Nat):aa mS:=
 match l with
 | .ed h _=>Z (nJ h b) λg=>iG (Nat.beq (ml g.cells) f.size) (some (.val (.j9 g.cells) a))
 | .arr c e k j _=>iG (Nat.blt b j) (Z (a.get c) λd=>iG (Nat.beq d.sz f.size)<|iG (Nat.beq d.ep e) (Z (iQ (Nat.add k b)) λi=>some (.val (.ptr c e i 0) a)))
 |_=>none
def qr(a:H)(m:Nat)(d:Ty)(n:T)(b:Nat):aa mS:=
 iG (Nat.blt b m) (match n with
  | .ptr c e f g=>Z (a.get c) λh=>Bool.casesOn (Nat.beq h.sz d.size)
   (Z (iQ (Nat.add g (Nat.mul b d.size))) λl=>some (.val (.ptr c e f l) a))
   (iG (Nat.beq g 0) (Z (iQ (Nat.add f b)) λk=>some (.val (.ptr c e k 0) a)))
  | .j9 i=>Z (kH (Nat.mul b d.size) i) λj=>some (.val (.j9 j) a)
  |_=>none)
def qZ(j:ab)(a c:ah):Hd:=λcx h e f=>
 Z (cx.ty j) λk=>Z (ir cx h e a) λa=>Z (ir cx h e c) λc=>Z (rN c) λg=>match k.u with
  | .slice b=>Z (cx.ty b) λd=>lM f d a g
  | .array i b=>Z (cx.ty b) λd=>qr f i d a g
  |_=>none
def Cj(n:ab)(a c:ah):Hd:=λcx f d e=>
 Z (cx.ty n) λo=>Z (ir cx f d a) λa=>Z (ir cx f d c) λc=>Z (rN c) λb=>match o.u with
  | .str=>(match a with| .str m=>Z (nJ m b) λh=>val e (some (.int .u8 (.ofNat h)))|_=>none)
  | .array k j=>(match a with
   | .agg i=>Z (cx.ty j) λg=>iG (Nat.blt b k) (Z (kH (Nat.mul b g.size) i) λl=>val e (kU g l))
   |_=>none)
  |_=>none
def wt(g:ah)(c:Nat):Hd:=λcx d a b=>Z (ir cx d a g) λe=>match e with| .tuple f=>val b (nJ f c)|_=>none
def Fb(g:ah):Hd:=λcx d b c=>Z (ir cx d b g) λf=>match f with
 | .str e=>j7 (c.new (λa=> .iter a) ⟨1,0,0,true,true,[.str e,.int .i64 0]⟩)
 |_=>none
def Bi(d:ab)(f:ah):Hd:=λcx c a b=>Z (cx.ty d) λe=>match e.u with
 | .str=>Fb f cx c a b
 |_=>none
def A8(c:List Nat)(b:Nat):aa (Nat×Nat):=Z (nJ c b) λa=>Bool.casesOn (Nat.blt a 128) (Bool.casesOn (Nat.blt a 256) (some (65533,1)) (some (Utf8.decode ⟨(c.map UInt8.ofNat).toArray⟩ b))) (some (a,1))
def Cg(i:ah):Hd:=λcx j g c=>(Z (ir cx j g i) λm=>match m with
 | .iter e=>Z (c.get e) λa=>iG a.it (match a.fR with
  | [.str d,.int _ (.ofNat b)]=>Bool.casesOn (Nat.blt b (ml d)) (some (.val (.tuple [.bool false]) c))
   (Z (A8 d b) λl=>two l λf wd=>Z (iQ (Nat.add b wd)) λk=>Z (iQ (Nat.succ a.ver)) λn=>
     Z (c.put e ⟨a.sz,a.ep,n,a.exact,true,[.str d,.int .i64 (.ofNat k)]⟩) λh=>
      some (.val (.tuple [.bool true,.int .i64 (.ofNat b),.int .i32 (.ofNat f)]) h))
  |_=>none)
 |_=>none)
def Ky(d:ah)(c:Bool):Hd:=λcx e a b=>Bool.casesOn c none (Cg d cx e a b)
def QF(cx:Ctx)(a:H)(h:List ab)(c:T):aa mS:=
 Z (nJ h 0) λg=>Z (cx.ty g) λi=>match i.u with
  | .str=>(match c with
   | .str f=>val a (Z (iQ (ml f)) λb=>some (.int .i64 (.ofNat b)))
   |_=>none)
  | .slice _=>(match c with
   | .ed d _=>val a (Z (iQ (ml d)) λb=>some (.int .i64 (.ofNat b)))
   | .iO=>val a (some (.int .i64 0))
   | .arr _ _ _ e _=>val a (some (.int .i64 (.ofNat e)))
   |_=>none)
  | .array b _=>val a (some (.int .i64 (.ofNat b)))
  |_=>none
def qt(cx:Ctx)(b:ab):aa Ty:=
 Z (cx.ty b) λc=>match c.u with| .slice a=>cx.ty a|_=>none
def nH(cx:Ctx)(d:H)(e:ab)(a:T):aa (List T):=
 Z (cx.ty e) λf=>match f.u with
  | .str=>(match a with| .str b=>iu (λc=>some (T.int .u8 (.ofNat c))) b|_=>none)
  | .slice _=>d.jM a
  |_=>none
def jn(cx:Ctx)(b:H)(e f:ab)(d g:T):aa mS:=
 Z (qt cx e) λa=>Z (nH cx b f g) λc=>iG (fits a.size c) (j7 (b.append a.size a.bytes d c))
def FW(cx:Ctx)(a:H)(n:ab)(q:T):aa mS:=
 Z (qt cx n) λg=>match q with
  | .ed b _=>List.casesOn b (some (.val .undef a)) λ_ _=>none
  | .iO=>some (.val .undef a)
  | .arr c j m e _=>Nat.casesOn e (some (.val .undef a)) λ_=>Z (a.get c) λh=>jv.casesOn h λf d o exact l i=>
   iG (Nat.beq d j)<|iG (Nat.beq f g.size) (Bool.casesOn l
    (Z (mg i m (qS g.kR e)) λb=>Z (iQ (Nat.succ o)) λp=>
      Z (a.put c ⟨f,d,p,exact,false,b⟩) λk=>some (.val .undef k)) none)
  |_=>none
def mH:Builtin->Ctx->H->List ab->List T->aa mS
 | .clear=>λcx b f a=>(match a with| [c]=>(match f with| [h]=>FW cx b h c|_=>none)|_=>none)
 | .len=>λcx b f a=>(match a with| [c]=>QF cx b f c|_=>none)
 | .append=>λcx b f a=>(match a with| [j,c]=>(match f with| [h,k]=>jn cx b h k j c|_=>none)|_=>none)
 | .min=>λ_ b _ a=>(match a with| [c,i]=>val b (yX c i λg d e=>zU g (Bool.casesOn (NY e d) d e))|_=>none)
 | .max=>λ_ b _ a=>(match a with| [c,i]=>val b (yX c i λg d e=>zU g (Bool.casesOn (NY d e) d e))|_=>none)
 |_=>λ_ _ _ _=>none
def Ff(a:Call):Hd:=λcx e d h=>Z (r7 cx e d a.args.toList) λc=>match a.callee with
 | .builtin f=>mH f cx h a.argTypes.toList c
 | .value b=>Z (ir cx e d b) λj=>(match j with
  | .func b g=>Z (GA c g) λi=>some (.call b i)
  |_=>none)
 |_=>none
def jT:Op->Hd
 | .move a=>Fc a
 | .assign a=>Fc a
 | .pick d c g=>Ho d c g
 | .alloc b=>Fg b
 | .box _ a=>Qn a
 | .build b i=>Co b i
 | .buildSlice b q i=>pW b q i
 | .load b c=>KA b c
 | .store b c a=>E9 b c a
 | .nilCheck a=>tM a
 | .binOp f b a j _=>(match f with| .eql=>hEq false b a j| .neq=>hEq true b a j|_=>Qo f a j)
 | .unOp f _ a=>hUn f a
 | .convert s k a=>N5 s k a
 | .makeInterface b a=>Ck b a
 | .makeFunc l c g=>Fd l c g
 | .makeSlice b n d=>qY b n d
 | .slice b a o m p=>Fa b a o m p
 | .fieldAddr b a h=>rf b a h
 | .field b a h=>Cn b a h
 | .indexAddr b a e=>qZ b a e
 | .index b a e=>Cj b a e
 | .extract a e=>wt a e
 | .makeMap .. =>λ_ _ _ _=>none
 | .lookup .. =>λ_ _ _ _=>none
 | .mapUpdate .. =>λ_ _ _ _=>none
 | .range b a=>Bi b a
 | .next it r=>Ky it r
 | .entry _=>λ_ _ _ _=>none
 | .call d=>Ff d
 |_=>λ_ _ _ _=>none
def C7(e:ai):TypeDesc->aa U
 | .int c=>some (.int c)
 | .bool=>some .bool
 | .string=>some .str
 | .slice a=>some (.slice a)
 | .array g a=>some (.array g a)
 | .struct d=>if d.toList.all (λb=>(e.info? b.type).any λf=> !(f.size==0))then some (.struct (d.toList.map λb=>(b.offset,b.type)))else none
 | .pointer a=>some (.ptr a)
 | .map c a=>some (.map c a)
 | .func _ _ _=>some .func
 | .interface _=>some .iface
 |_=>some .other
def vJ(a:TypeDesc)(b:am):Bool:=
 match a,b with
 | .struct _,.agg _| .array _ _,.agg _=>true
 | .struct _,_| .array _ _,_|_,.agg _=>false
 |_,_=>true
def NV:TypeDesc->Bool
 | .struct b=>b.toList.all λa=>a.name != "_"
 |_=>true
def Y5(a:ai)(c:ab)(e:Bool):aa Ty:=
 Z (a.info? c) λb=>Z (a.underlying c) λd=>Z b.zero λf=>Z (iu pK f.cells.toList) λg=>Z (C7 a d) λh=>
  iG (vJ d f) (iG (Nat.beq (ml g) b.size) (iG (Bool.casesOn e true (!a.stoodInHeld c&& !a.eqGuardType a.depth c&&NV d)) (some ⟨h,b.size,b.bytes,e,g⟩)))
abbrev jB:=aj->List T->H->aa (T×H)
def lq(i:af Oper)(g:Nat)(d:Env)(e:aa (Nat×Bool)):aa Bool:=
 Option.casesOn e (some true) λj=>two j λf a=>Z (Z (Z (nJ i.toList f) λh=>h.dst) λc=>d.get g c) λk=>
  match k with
  | .bool b=>some (Bool.casesOn b (Bool.casesOn a true false) a)
  |_=>some false
def mI(cx:Ctx)(call:jB)(c:Nat)(k:af Oper)(a:Env)(e:H)(d:Oper):aa (Env×H):=
 Z (lq k c a d.guard) λm=>Bool.casesOn m
  (Z (a.dst c d.dst .undef) λb=>some (b,e))
  (Z (jT d.op cx c a e) λi=>mS.casesOn i
    (λg f=>Z (a.dst c d.dst g) λb=>some (b,f))
    (λj h=>Z (call j h e) λl=>two l λg f=>Z (a.dst c d.dst g) λb=>some (b,f)))
def ly(cx:Ctx)(call:jB)(g:Nat)(i:af Oper)(f:List Oper):Env->H->aa (Env×H):=
 @List.rec Oper (λ_=>Env->H->aa (Env×H)) (λa b=>some (a,b))
  (λh _ e a b=>Z (mI cx call g i a b h) λj=>two j λc d=>e c d) f
def eG:T->aa Nat
 | .ptr a _ _ _=>some a
 | .arr a _ _ _ _=>some a
 | .map a=>some a
 |_=>none
def iM(cx:Ctx)(d:Nat)(b:Env)(c:H)(e:Op):aa Nat:=
 match e with
 | .load _ a=>Z (ir cx d b a) eG
 | .indexAddr _ a _=>Z (ir cx d b a) eG
 | .slice _ a _ _ _=>Z (ir cx d b a) eG
 | .convert _ _ a=>Z (ir cx d b a) eG
 | .lookup _ a _ _=>Z (ir cx d b a) eG
 | .makeMap _ _=>some c.size
 | .alloc _=>some c.size
 | .box _ _=>some c.size
 | .buildSlice _ _ _=>some c.size
 | .makeSlice _ _ _=>some c.size
 |_=>none
def jb:Op->Bool
 | .store .. =>true
 | .call b=>(match b.callee with
  | .builtin a=>(match a with| .len| .min| .max=>false|_=>true)
  |_=>true)
 | .next .. =>true
 | .range .. =>true
 | .entry .. =>true
 | .mapUpdate .. =>true
 |_=>false
structure Seen where
 nK:List (Nat×Nat)
 mo:List (Nat×H×H)
def yU(c:List Nat)(d:List Edge):Nat:=
 d.foldr (λa b=>Bool.casesOn (Region.binds .any a) b (Nat.lor b (Nat.lor (Nat.shiftLeft 1 a.on) (c.getD a.on 0)))) 0
def M9:List Oper->List Nat->List Nat
 | [],a=>a
 |o::b,a=>M9 b (a++[yU a o.after.toList])
def ku(c:af Oper)(a b:Nat):Bool:=((M9 c.toList []).getD b 0).testBit a
def fQ(b c:H)(a:Nat):Bool:=
 Option.casesOn (b.get a) true λd=>Option.casesOn (c.get a) false λe=>Nat.beq d.ver e.ver
def pN(e:af Oper)(c b:Nat)(d:List (Nat×H×H)):Bool:=
 y8 (λa=>Bool.casesOn (fQ a.2.1 a.2.2 b) (ku e a.1 c) true) d
def zu(f:af Oper)(d:Nat)(b c:H)(e:List (Nat×Nat)):Bool:=
 y8 (λa=>Bool.casesOn (fQ b c a.2) (ku f a.1 d) true) e
def tc(cx:Ctx)(e:Nat)(g:af Oper)(c:Nat)(b:Env)(d:List (Nat×H×H))(f:Op):Bool:=
 match f with
 | .store _ h _=>Option.casesOn (Z (ir cx e b h) eG) true λa=>pN g c a d
 |_=>true
def kI(cx:Ctx)(call:jB)(j:Nat)(g:af Oper)(l:List Oper):Nat->Seen->Env->H->aa (Env×H):=
 @List.rec Oper (λ_=>Nat->Seen->Env->H->aa (Env×H)) (λ_ _ c d=>some (c,d))
  (λf _ i a b c d=>Z (mI cx call j g c d f) λm=>two m λh e=>
    Z (lq g j c f.guard) λn=>Bool.casesOn n (i (Nat.succ a) b h e)
     (Bool.casesOn (jb f.op)
       (Option.casesOn (iM cx j c d f.op) (i (Nat.succ a) b h e)
         λk=>iG (pN g a k b.mo) (i (Nat.succ a) ⟨(a,k)::b.nK,b.mo⟩ h e))
       (iG (zu g a d e b.nK) (iG (tc cx j g a c b.mo f.op) (i (Nat.succ a) ⟨b.nK,(a,d,e)::b.mo⟩ h e))))) l
inductive Ex where
 |normal|exit (id:Nat)|ret
 deriving Inhabited
abbrev Out:=aa (Ex×Env×H)
def three{a:Type}(e:Ex×Env×H)(c:Ex->Env->H->a):a:=Prod.casesOn e λg f=>Prod.casesOn f λb d=>c g b d
def pT(c:Env->H->Out)(h:Nat):Env->H->Out:=
 @Nat.rec (λ_=>Env->H->Out) (λ_ _=>none)
  (λ_ g d e=>Z (c d e) λi=>three i λj a b=>Ex.casesOn j (g a b) (λf=>some (.exit f,a,b)) (some (.ret,a,b))) h
def ND(cx:Ctx)(call:jB)(g:Nat)(a:af Oper)(i:Bool)(j:Env)(f:H):Out:=
 Env.casesOn j λh _=>Bool.casesOn i
  (Z (ly cx call g a a.toList ⟨h,.nil⟩ f) λd=>two d λb c=>some (.normal,Env.casesOn b λe _=>⟨e,.nil⟩,c))
  (Z (kI cx call g a a.toList 0 ⟨[],[]⟩ ⟨h,.nil⟩ f) λd=>two d λb c=>some (.normal,Env.casesOn b λe _=>⟨e,.nil⟩,c))
def Ed(c d:Env->H->Out)(e:Env)(f:H):Out:=
 Z (c e f) λh=>three h λi a b=>Ex.casesOn i (d a b) (λg=>some (.exit g,a,b)) (some (.ret,a,b))
def KT(cx:Ctx)(f:Nat)(e:ah)(c d:Env->H->Out)(a:Env)(b:H):Out:=
 Z (ir cx f a e) λh=>match h with
  | .bool g=>Bool.casesOn g (d a b) (c a b)
  |_=>none
def At(id:Nat)(d:Env->H->Out)(e:Env)(f:H):Out:=
 Z (d e f) λg=>three g λh a b=>Ex.casesOn h (some (.normal,a,b)) (λc=>Bool.casesOn (Nat.beq c id) (some (.exit c,a,b)) (some (.normal,a,b))) (some (.ret,a,b))
def kJ(cx:Ctx)(call:jB)(c a:Nat):Code->Env->H->Out
 | .skip=>λd e=>some (.normal,d,e)
 | .region _ i h=>ND cx call a i h
 | .seq f b=>Ed (kJ cx call c a f) (kJ cx call c a b)
 | .cond g f b=>KT cx a g (kJ cx call c a f) (kJ cx call c a b)
 | .block id b=>At id (kJ cx call c a b)
 | .loop b=>pT (kJ cx call c a b) c
 | .exit id=>λd e=>some (.exit id,d,e)
 | .ret=>λd e=>some (.ret,d,e)
 |_=>λ_ _=>none
def nL(g:Nat)(h:Nat):Nat->List T->aa iz:=
 @Nat.rec (λ_=>Nat->List T->aa iz) (λ_ _=>some .nil)
  (λ_ c a f=>Z (iQ (Nat.succ a)) λb=>List.casesOn f
    (Bool.casesOn (kS g a) (c b []) (Z (c b []) λd=>some (.cons a .undef d)))
    λe i=>Z (c b i) λd=>some (.cons a e d)) h
def oq(cx:Ctx)(c:Nat)(b:Env)(e:H)(f:List ResultVar):aa (List T):=
 iu (λh=>ResultVar.casesOn h (λa=>b.get c a) (λd a=>Z (b.get c d) λg=>Z (cx.ty a) λi=>e.load i g)) f
def yo(b:Nat)(e:List Nat):Nat->aa Int:=
 @List.rec Nat (λ_=>Nat->aa Int) (λ_=>some (.negSucc 0))
  (λf _ d a=>Bool.casesOn (Nat.beq f b) (Z (iQ (Nat.succ a)) λc=>d c) (some (.ofNat a))) e
def Ez(f:Prim)(b:List T)(a:H):aa (T×H):=
 match f with
 | .pA=>(match b with
  | [.str g,.int .u8 (.ofNat c)]=>iG (Nat.blt c 256) (Z (yo c g 0) λe=>some (.int .i64 e,a))
  |_=>none)
 | .clone h bytes=>(match b with
  | [i]=>Z (a.jM i) λd=>List.casesOn d (some (.ed [] false,a)) λ_ _=>a.js h bytes [] d
  |_=>none)
def kt(a:List T):T:=match a with| [b]=>b|_=> .tuple a
def u9(cx:Ctx)(call:jB)(l:Nat)(a:Func)(c:Nat)(g:Bool)(i:List T)(m:H):aa (T×H):=
 Option.casesOn a.body none λj=>H.casesOn m λd h k=>
  Z (nL c a.ntmps 0 i) λo=>
  Z (kJ cx call l c j ⟨o,.nil⟩ ⟨d,d,k⟩) λn=>three n λp f b=>Ex.casesOn p
   (Z (oq cx c f b a.results.toList) λe=>E1 g d h (kt e) b)
   (λ_=>none)
   (Z (oq cx c f b a.results.toList) λe=>E1 g d h (kt e) b)
