/- TiDefs -/
import GoSem.Step
set_option linter.all false
namespace Go.TI
theorem nl9{α:Type}{f:α->Nat}{b:Nat}(h:∀a,Nat.ble (f a) b=true:=by intro _;rfl):∀a,f a<=b:=λa=>Nat.le_of_ble_eq_true (h a)
theorem B{p:Prop}(h:p:=by omega):p:=h
theorem J{p:Prop}(h:p:=by simp):p:=h
theorem dp{p:Prop}(h:p:=by (simp;omega)):p:=h
theorem dq{p:Prop}(h:p:=by (simp only;omega)):p:=h
theorem dt{p:Prop}(h:p:=by decide):p:=h
end Go.TI
namespace Go.TI
abbrev aa:=@Option
abbrev ab:=@TypeId
abbrev af:=@Array
abbrev ah:=@Operand
abbrev ai:=@Program
abbrev aj:=@FuncId
abbrev ak:=@IntKind
abbrev am:=@Value
theorem ao:type_of% @if_neg:=@if_neg
theorem aq:type_of% @if_pos:=@if_pos
theorem ar:type_of% @Option.some.injEq:=@Option.some.injEq
theorem au:type_of% @Nat.le_refl:=@Nat.le_refl
theorem aw:type_of% @Nat.zero_le:=@Nat.zero_le
theorem ax:type_of% @List.mem_of_getElem?:=@List.mem_of_getElem?
theorem ay:type_of% @List.getElem?_eq_getElem:=@List.getElem?_eq_getElem
theorem az:type_of% @Bool.and_eq_true:=@Bool.and_eq_true
theorem aB:type_of% @Prod.mk.injEq:=@Prod.mk.injEq
theorem aC:type_of% @Nat.eq_of_beq_eq_true:=@Nat.eq_of_beq_eq_true
theorem aD:type_of% @List.getElem_mem:=@List.getElem_mem
theorem aF:type_of% @Nat.blt_eq:=@Nat.blt_eq
theorem aG:type_of% @List.length_map:=@List.length_map
theorem aH:type_of% @List.drop_eq_getElem_cons:=@List.drop_eq_getElem_cons
theorem aI:type_of% @Prod.ext:=@Prod.ext
theorem aJ:type_of% @List.take_length:=@List.take_length
theorem aK:type_of% @decide_eq_false:=@decide_eq_false
theorem aL:type_of% @decide_eq_true_eq:=@decide_eq_true_eq
theorem aM:type_of% @Nat.lt_or_ge:=@Nat.lt_or_ge
theorem aO:type_of% @Nat.le_trans:=@Nat.le_trans
theorem aP:type_of% @List.map_cons:=@List.map_cons
theorem aQ:type_of% @List.getElem?_map:=@List.getElem?_map
theorem aR:type_of% @decide_eq_true:=@decide_eq_true
theorem aS:type_of% @List.eq_nil_of_length_eq_zero:=@List.eq_nil_of_length_eq_zero
theorem aT:type_of% @List.take_succ_eq_append_getElem:=@List.take_succ_eq_append_getElem
theorem aU:type_of% @Nat.le_of_ble_eq_true:=@Nat.le_of_ble_eq_true
theorem aV:type_of% @Nat.mul_le_mul_right:=@Nat.mul_le_mul_right
theorem aW:type_of% @Ne.symm:=@Ne.symm
theorem aY:type_of% @List.length_cons:=@List.length_cons
theorem aZ:type_of% @decide_eq_false_iff_not:=@decide_eq_false_iff_not
theorem bg:type_of% @Bool.eq_iff_iff:=@Bool.eq_iff_iff
theorem bh:type_of% @List.length_append:=@List.length_append
theorem bj:type_of% @if_true:=@if_true
theorem bm:type_of% @Nat.le_of_lt:=@Nat.le_of_lt
theorem bo:type_of% @if_false:=@if_false
theorem bp:type_of% @Nat.lt_of_lt_of_le:=@Nat.lt_of_lt_of_le
theorem br:type_of% @List.mem_of_mem_take:=@List.mem_of_mem_take
theorem bw:type_of% @List.mem_of_mem_drop:=@List.mem_of_mem_drop
theorem bA:type_of% @List.take_of_length_le:=@List.take_of_length_le
theorem bD:type_of% @Bool.true_and:=@Bool.true_and
theorem bE:type_of% @Bool.or_eq_false_iff:=@Bool.or_eq_false_iff
theorem bF:type_of% @Bool.not_eq_true':=@Bool.not_eq_true'
theorem bG:type_of% @congrArg:=@congrArg
theorem bI:type_of% @List.cons.injEq:=@List.cons.injEq
theorem bJ:type_of% @List.getElem?_drop:=@List.getElem?_drop
theorem bK:type_of% @List.eq_of_mem_replicate:=@List.eq_of_mem_replicate
theorem bL:type_of% @List.getElem?_eq_none:=@List.getElem?_eq_none
theorem bM:type_of% @Bool.or_eq_true:=@Bool.or_eq_true
theorem bO:type_of% @List.map_set:=@List.map_set
theorem bP:type_of% @Bool.not_eq_false':=@Bool.not_eq_false'
theorem bQ:type_of% @Array.getD_eq_getD_getElem?:=@Array.getD_eq_getD_getElem?
theorem bR:type_of% @Nat.ble_eq_true_of_le:=@Nat.ble_eq_true_of_le
theorem bU:type_of% @List.getElem?_set:=@List.getElem?_set
theorem bV:type_of% @Nat.succ_mul:=@Nat.succ_mul
theorem bW:type_of% @Nat.add_mul:=@Nat.add_mul
theorem bX:type_of% @Bool.eq_false_iff:=@Bool.eq_false_iff
theorem bY:type_of% @List.map_nil:=@List.map_nil
theorem bZ:type_of% @List.mem_or_eq_of_mem_set:=@List.mem_or_eq_of_mem_set
theorem cd:type_of% @Bool.false_eq_true:=@Bool.false_eq_true
theorem cg:type_of% @List.getElem?_take:=@List.getElem?_take
theorem ci:type_of% @Array.ext':=@Array.ext'
theorem cj:type_of% @List.append_nil:=@List.append_nil
theorem cm:type_of% @Nat.min_eq_left:=@Nat.min_eq_left
theorem co:type_of% @List.mem_cons:=@List.mem_cons
theorem cq:type_of% @List.all_cons:=@List.all_cons
theorem cr:type_of% @List.getElem?_append_left:=@List.getElem?_append_left
theorem cu:type_of% @Array.length_toList:=@Array.length_toList
theorem cv:type_of% @Int.toNat_natCast:=@Int.toNat_natCast
theorem cw:type_of% @List.all_eq_true:=@List.all_eq_true
theorem cy:type_of% @List.cons_append:=@List.cons_append
theorem cz:type_of% @List.map_map:=@List.map_map
theorem cA:type_of% @Nat.add_assoc:=@Nat.add_assoc
theorem cB:type_of% @Nat.zero_add:=@Nat.zero_add
theorem cC:type_of% @List.getElem?_append_right:=@List.getElem?_append_right
theorem cD:type_of% @Nat.ne_of_beq_eq_false:=@Nat.ne_of_beq_eq_false
theorem cE:type_of% @List.set_cons_zero:=@List.set_cons_zero
theorem cF:type_of% @List.take_append_drop:=@List.take_append_drop
theorem cG:type_of% @List.length_set:=@List.length_set
theorem cH:type_of% @List.getElem?_of_mem:=@List.getElem?_of_mem
theorem cI:type_of% @List.drop_drop:=@List.drop_drop
theorem cJ:type_of% @Option.map_some:=@Option.map_some
theorem cK:type_of% @List.length_nil:=@List.length_nil
theorem cM:type_of% @List.flatMap_cons:=@List.flatMap_cons
theorem cN:type_of% @List.ext_getElem?:=@List.ext_getElem?
theorem cO:type_of% @List.append_assoc:=@List.append_assoc
theorem cP:type_of% @List.take_append_of_le_length:=@List.take_append_of_le_length
theorem cQ:type_of% @List.getElem?_set_self:=@List.getElem?_set_self
theorem cR:type_of% @List.getElem?_set_ne:=@List.getElem?_set_ne
theorem cS:type_of% @List.mem_append_left:=@List.mem_append_left
theorem cT:type_of% @List.set_cons_succ:=@List.set_cons_succ
theorem cU:type_of% @Nat.lt_succ_self:=@Nat.lt_succ_self
theorem cV:type_of% @List.not_mem_nil:=@List.not_mem_nil
theorem cW:type_of% @List.drop_length:=@List.drop_length
theorem cX:type_of% @Array.getElem?_push:=@Array.getElem?_push
theorem cY:type_of% @List.replicate_succ:=@List.replicate_succ
theorem cZ:type_of% @List.toList_toArray:=@List.toList_toArray
theorem c8:type_of% @List.mem_iff_getElem?:=@List.mem_iff_getElem?
theorem da:type_of% @List.getElem?_cons_succ:=@List.getElem?_cons_succ
theorem db:type_of% @List.pairwise_cons:=@List.pairwise_cons
theorem dc:type_of% @List.flatMap_nil:=@List.flatMap_nil
theorem df:type_of% @List.mem_append_right:=@List.mem_append_right
theorem dg:type_of% @Array.getElem?_setIfInBounds_ne:=@Array.getElem?_setIfInBounds_ne
end Go.TI
namespace Go.TI
noncomputable section
inductive T where
 |undef
 |bool (b:Bool)
 |int (k:ak) (n:Int)
 |str (s:List Nat)
 |jQ
 |ptr (b ep i j:Nat)
 |jh (cells:List T)
 |Y (eg:List T) (full:Bool)
 |fK
 |arr (b ep o l:Nat) (full:Bool)
 |func (f:aj) (captured:List T)
 |kj
 |kq
 |iface (t:ab) (v:T)
 |iter (b:Nat)
 |map (b:Nat)
 |mw
 |agg (cells:List T)
 |tuple (vs:List T)
 deriving Inhabited
def T.cells:T->List T
 | .agg a=>a
 |v=>[v]
def T.fg:T->Bool
 | .undef| .tuple _=>false
 |_=>true
structure iI where
 sz:Nat
 ep:Nat
 ver:Nat
 exact:Bool
 it:Bool
 eg:List T
 deriving Inhabited
structure H where
 size:Nat
 low:Nat
 eZ:List iI
 deriving Inhabited
inductive U where
 |int (k:ak)|bool|str|slice (e:ab)|array (n:Nat) (e:ab)|map (k e:ab)|struct (fs:List (Nat×ab))|ptr (e:ab)|func|iface|other
 deriving Inhabited
structure Ty where
 u:U
 size:Nat
 bytes:Nat
 cmp:Bool
 zero:List T
 deriving Inhabited
inductive Prim where
 |ng
 |clone (sz bytes:Nat)
 deriving Inhabited
structure Fun where
 fn:Func
 G:Nat
 jV:Bool
 agZ:aa Prim
 deriving Inhabited
structure Ctx where
 ty:ab->aa Ty
 fn:aj->aa Fun
 gl:Nat->aa (List T)
def M{a b:Type}(d:aa a)(c:a->aa b):aa b:=Option.casesOn d none c
def fQ{a:Type}(b:Bool)(c:aa a):aa a:=Bool.casesOn b none c
def two{a b c:Type}(e:a×b)(d:a->b->c):c:=Prod.casesOn e d
def lF{a:Type}(c:List a):Nat->aa a:=
 @List.rec a (λ_=>Nat->aa a) (λ_=>none) (λf _ b e=> @Nat.rec (λ_=>aa a) (some f) (λd _=>b d) e) c
def kf{a:Type}(d:List a):Nat->a->aa (List a):=
 @List.rec a (λ_=>Nat->a->aa (List a)) (λ_ _=>none)
  (λi g c f b=> @Nat.rec (λ_=>aa (List a)) (some (b::g)) (λe _=>M (c e b) λh=>some (i::h)) f) d
def takeN{a:Type}(d:Nat):List a->aa (List a):=
 @Nat.rec (λ_=>List a->aa (List a)) (λ_=>some [])
  (λ_ b c=> @List.rec a (λ_=>aa (List a)) none (λg e _=>M (b e) λf=>some (g::f)) c) d
def jB{a:Type}(d:Nat):List a->aa (List a):=
 @Nat.rec (λ_=>List a->aa (List a)) (λb=>some b)
  (λ_ c b=> @List.rec a (λ_=>aa (List a)) none (λ_ e _=>c e) b) d
def kv{a:Type}(c:List a):Nat:= @List.rec a (λ_=>Nat) 0 (λ_ _ b=>Nat.succ b) c
def AV{a:Type}(e f:List a):aa (List a):=
 @List.rec a (λ_=>aa (List a)) (some f) (λd _ b=>M b λc=>some (d::c)) e
def fG{a b:Type}(c:a->aa b)(e:List a):aa (List b):=
 @List.rec a (λ_=>aa (List b)) (some []) (λg _ d=>M (c g) λh=>M d λf=>some (h::f)) e
def oG{a:Type}(d:a)(c:Nat):List a:= @Nat.rec (λ_=>List a) [] (λ_ b=>d::b) c
def wC{a:Type}(b:a->Bool)(d:List a):Bool:= @List.rec a (λ_=>Bool) true (λe _ c=>Bool.rec false c (b e)) d
def fU(b:Nat):aa Nat:=Nat.casesOn b (some 0) (λa=>some (Nat.succ a))
def JW(c:Int):aa Int:=
 Int.casesOn c (λa=>Nat.casesOn a (some (.ofNat 0)) (λb=>some (.ofNat (Nat.succ b)))) (λa=>Nat.casesOn a (some (.negSucc 0)) (λb=>some (.negSucc (Nat.succ b))))
def xe(a:ak)(c:Int):aa T:=M (JW c) λb=>some (.int a b)
def wG(a:Bool):aa T:=Bool.casesOn a (some (.bool false)) (some (.bool true))
def kNo:ak->Nat
 | .i8=>0| .i16=>1| .i32=>2| .i64=>3| .u8=>4| .u16=>5| .u32=>6| .u64=>7
def C7(a b:ak):Bool:=Nat.beq (kNo a) (kNo b)
def J2(d c:Int):Bool:=Int.casesOn d (λa=>Int.casesOn c (λb=>Nat.blt a b) (λ_=>false)) (λa=>Int.casesOn c (λ_=>true) (λb=>Nat.blt b a))
def Qh(d c:Int):Bool:=Int.casesOn d (λa=>Int.casesOn c (λb=>Nat.beq a b) (λ_=>false)) (λa=>Int.casesOn c (λ_=>false) (λb=>Nat.beq a b))
def Jv(k:ak)(a:Int):Int:=
 match k with
 | .i64=>Int.casesOn a (λb=>Bool.casesOn (Nat.ble b 9223372036854775807) (IntKind.i64.wrap a) a) (λb=>Bool.casesOn (Nat.ble b 9223372036854775807) (IntKind.i64.wrap a) a)
 |k=>k.wrap a
def pj(a:ak)(b:Int):aa T:=xe a (Jv a b)
def Uk(b:List Nat):List Nat->Bool:=
 @List.rec Nat (λ_=>List Nat->Bool) (λa=>List.casesOn a true (λ_ _=>false))
  (λe _ c a=>List.casesOn a false (λf d=>Bool.rec false (c d) (Nat.beq e f))) b
def Qf(d:List Nat):List Nat->Bool:=
 @List.rec Nat (λ_=>List Nat->Bool) (λa=>List.casesOn a false (λ_ _=>true))
  (λb _ e a=>List.casesOn a false (λc f=>Bool.rec (Bool.rec false (e f) (Nat.beq b c)) true (Nat.blt b c))) d
def H.get(d:H)(a:Nat):aa iI:=
 H.casesOn d λb _ c=>fQ (Nat.blt a b) (lF c (Nat.sub (Nat.sub b 1) a))
def H.new(g:Nat->T)(c:H)(h:iI):aa (T×H):=
 H.casesOn c λa d b=>M (fU (Nat.succ a)) λe=>some (g a,⟨e,d,h::b⟩)
def H.put(g:H)(a:Nat)(x:iI):aa H:=
 H.casesOn g λb e f=>fQ (Nat.blt a b)
  (M (kf f (Nat.sub (Nat.sub b 1) a) x) λd=>Bool.casesOn (Nat.blt a e) (some ⟨b,e,d⟩) (some ⟨b,a,d⟩))
def over(a:List T)(f:List T):aa (List T):=
 @List.rec T (λ_=>List T->aa (List T)) (λa=>some a)
  (λe _ b a=>List.casesOn a none (λ_ c=>M (b c) λd=>some (e::d))) f a
def kc(a:List T)(d:Nat)(g:List T):aa (List T):=
 @Nat.rec (λ_=>List T->aa (List T)) (λa=>over a g)
  (λ_ c a=>List.casesOn a none (λb e=>M (c e) λf=>some (b::f))) d a
def Ty.isAgg(a:Ty):Bool:=match a.u with| .struct _| .array _ _=>true|_=>false
def Ui(a:List T):T:=List.casesOn a .undef (λb _=>b)
def Ty.jW(a:Ty):T:=Bool.casesOn a.isAgg (Ui a.zero) (.agg a.zero)
def j4(b:Ty)(a:List T):aa T:=
 Bool.casesOn b.isAgg (lF a 0) (M (takeN b.size a) λc=>some (.agg c))
def H.elem(e:H)(a c i:Nat):aa T:=
 M (e.get a) λx=>iI.casesOn x λ_ d _ _ f b=>fQ (Nat.beq d c) (Bool.casesOn f (lF b i) none)
def H.load(g:H)(b:Ty)(c:T):aa T:=
 match c with
 | .ptr d f h i=>M (g.elem d f h) λe=>M (jB i e.cells) λa=>j4 b a
 | .jh a=>j4 b a
 |_=>none
def lj(d:T)(a:Nat)(b:List T):aa T:=
 match d with
 | .agg c=>M (kc c a b) λe=>some (.agg e)
 |_=>match a,b with
  |0,[f]=>some f
  |_,_=>none
def H.store(d:H)(o:Ty)(g f:T):aa H:=
 match g with
 | .ptr a j e m=>fQ (Nat.beq (kv f.cells) o.size) (M (d.get a) λr=>iI.casesOn r λn c p exact l b=>
  fQ (Nat.beq c j) (Bool.casesOn l (M (lF b e) λh=>M (lj h m f.cells) λi=>M (kf b e i) λk=>
   M (fU (Nat.succ p)) λq=>d.put a ⟨n,c,q,exact,false,k⟩) none))
 |_=>none
def H.jf(f:H)(k:T):aa (List T):=
 match k with
 | .Y e _=>some e
 | .fK=>some []
 | .arr a c i h _=>M (f.get a) λl=>iI.casesOn l λ_ d _ _ g b=>fQ (Nat.beq d c) (Bool.casesOn g (M (jB i b) λj=>takeN h j) none)
 |_=>none
def fits(c:Nat)(b:List T):Bool:=List.casesOn b true (λa _=>Nat.beq (kv a.cells) c)
def kN(b:Nat)(exact:Bool)(a:List T):iI:=⟨b,0,0,exact,false,a⟩
def H.ja(g:H)(a bytes:Nat)(d e:List T):aa (T×H):=
 M (AV d e) λb=>M (fU (kv b)) λc=>
 fQ (Nat.ble 1 bytes)<|fQ (Nat.ble (Nat.mul c bytes) 70368744177664) (fQ (fits a d) (fQ (fits a e) (g.new (λf=> .arr f 0 0 c false) (kN a false b))))
def H.ma(e:H)(g bytes a k o:Nat)(i:List T):aa (T×H):=
 M (e.get a) λr=>iI.casesOn r λh b p _ n j=>
  M (takeN o j) λl=>M (AV l i) λd=>M (fU (kv d)) λf=>
  fQ (Nat.ble 1 bytes)<|fQ (Nat.beq b k) (fQ (Nat.beq h g) (fQ (Nat.ble (Nat.mul f bytes) 70368744177664) (fQ (fits g i) (Bool.casesOn n
   (M (fU (Nat.succ b)) λc=>M (fU (Nat.succ p)) λq=>
     M (e.put a ⟨h,c,q,false,false,d⟩) λm=>some (.arr a c 0 f false,m)) none))))
def oa:T->Bool
 | .Y _ _| .fK| .arr .. =>true
 |_=>false
def H.append(a:H)(e bytes:Nat)(d:T)(b:List T):aa (T×H):=
 List.casesOn b (fQ (oa d) (some (d,a))) λ_ _=>match d with
  | .Y c f=>List.casesOn c (a.ja e bytes [] b) λ_ _=>fQ f (a.ja e bytes c b)
  | .arr g h j i f=>Bool.casesOn f
   (Nat.casesOn j (a.ma e bytes g h i b) λ_=>none)
   (M (a.jf d) λc=>a.ja e bytes c b)
  |_=>none
def freeze(m:H)(p:Nat)(h:Nat):T->aa T:=
 @Nat.rec (λ_=>T->aa T) (λ_=>none) (λ_ e f=>match f with
  | .arr b i q o l=>fQ (Nat.ble p b) (M (m.get b) λr=>iI.casesOn r λ_ j _ exact n c=>
   fQ (Nat.beq j i) (Bool.casesOn n (M (M (jB q c) λa=>takeN o a) λk=>M (fG e k) λd=>
    List.casesOn d (List.casesOn c (Bool.casesOn exact (some .fK) (some (.Y [] false))) λ_ _=>some .fK) λ_ _=>some (.Y d l)) none))
  | .agg g=>M (fG e g) λa=>some (.agg a)
  | .bool _| .int _ _| .str _| .jQ| .Y _ _| .fK| .kj| .kq=>some f
  |_=>none) h
def iu(d:H)(c:Nat)(a:T):aa T:=
 match a with
 | .arr b _ _ _ _=>Bool.casesOn (Nat.ble c b) (some a) (freeze d c 12 a)
 | .ptr b _ _ _=>Bool.casesOn (Nat.ble c b) (some a) none
 | .map b=>Bool.casesOn (Nat.ble c b) (some a) none
 | .undef=>some a
 |_=>freeze d c 12 a
def j7(a:H)(b:Nat)(c:T):aa T:=
 match c with
 | .agg d=>M (fG (iu a b) d) λe=>some (.agg e)
 |_=>iu a b c
def iZ(a:H)(b:Nat)(c:T):aa T:=
 match c with
 | .tuple e=>M (fG (j7 a b) e) λd=>some (.tuple d)
 |_=>j7 a b c
def j8(b:Nat):T->Bool
 | .arr a _ _ _ _=>Nat.blt a b
 | .ptr a _ _ _=>Nat.blt a b
 | .map a=>Nat.blt a b
 | .bool _| .int _ _| .str _| .jQ| .Y _ _| .fK| .kj| .kq| .mw| .jh _=>true
 |_=>false
def below(b:Nat):T->Bool
 | .agg a=>wC (j8 b) a
 | .func _ a=>wC (j8 b) a
 | .tuple a=>wC (j8 b) a
 |v=>j8 b v
def rj(d:Nat)(b:Nat):List iI->Bool:=
 @Nat.rec (λ_=>List iI->Bool) (λ_=>true) (λ_ a c=>List.casesOn c true λf e=>Bool.casesOn (wC (below d) f.eg) false (a e)) b
def mN(c:Nat)(d:T)(f:H):aa (T×H):=
 H.casesOn f λe b a=>Bool.casesOn (Nat.blt b c) (some (d,⟨e,c,a⟩)) (some (d,⟨e,b,a⟩))
def tq(a c:Nat)(i e:T)(h:H):aa (T×H):=
 H.casesOn h λg b f=>M (jB (Nat.sub g a) f) λd=>
  Bool.casesOn (Nat.ble a b)
   (Bool.casesOn (rj a (Nat.sub a b) d) (mN c i ⟨g,b,f⟩)
     (Bool.casesOn (Nat.blt b c) (some (e,⟨a,c,d⟩)) (some (e,⟨a,b,d⟩))))
   (some (e,⟨a,c,d⟩))
def qR(e:Bool)(d c:Nat)(b:T)(a:H):aa (T×H):=
 Bool.casesOn e (Option.casesOn (iZ a d b) (mN c b a) λf=>tq d c b f a) (mN c b a)
inductive fH where
 |nil
 |cons (s:Nat) (v:T) (r:fH)
 deriving Inhabited
structure Env where
 vars:fH
 tmps:fH
 deriving Inhabited
def dG(c:fH)(d:Nat):aa T:=
 @fH.rec (λ_=>aa T) none (λb e _ a=>Bool.rec a (some e) (Nat.beq b d)) c
def li(e:fH)(b:Nat)(c:T):aa fH:=
 @fH.rec (λ_=>aa fH) (some (.cons b c .nil)) (λa h f d=>Bool.rec (M d λg=>some (.cons a h g)) (some (.cons a c f)) (Nat.beq a b)) e
def jX(a b:Nat):Bool:=Nat.beq (Nat.land (Nat.shiftRight a b) 1) 1
def Env.get(c:Nat)(b:Env)(a:Nat):aa T:=
 Env.casesOn b λe d=>Bool.casesOn (jX c a) (dG d a) (dG e a)
def Env.set(g:Nat)(e:Env)(a:Nat)(c:T):aa Env:=
 Env.casesOn e λd b=>Bool.casesOn (jX g a) (some ⟨d,.cons a c b⟩) (M (li d a c) λf=>some ⟨f,b⟩)
def Env.dst(c:Nat)(a:Env)(b:aa Tmp)(e:T):aa Env:=
 Option.casesOn b (some a) λd=>a.set c d e
def Af(b:List UInt8):aa (List Nat):=fG (λa=>fU a.toNat) b
def mF:am->aa T
 | .bool a=>some (.bool a)
 | .int b d=>some (.int b d)
 | .string e=>M (Af e.data.toList) λc=>some (.str c)
 | .pointer none=>some .jQ
 | .map none=>some .mw
 | .slice none 0 0=>some (.Y [] false)
 | .nilFunc=>some .kj
 | .nilIface=>some .kq
 |_=>none
def yr:am->aa T
 | .agg a=>M (fG mF a.toList) λb=>some (.agg b)
 |v=>mF v
def fq(cx:Ctx)(e:Nat)(b:Env)(f:ah):aa T:=
 Operand.casesOn f (λg=>b.get e g) (λh=>yr h) (λd=>M (cx.gl d) λa=>some (.jh a)) (λc=>some (.func c []))
def py(cx:Ctx)(c:Nat)(a:Env)(b:List ah):aa (List T):=fG (fq cx c a) b
def mZ:T->aa Nat
 | .int _ b=>Int.casesOn b (λa=>some a) (λ_=>none)
 |_=>none
def oe(g:U)(c a:T):aa Bool:=
 match g with
 | .int _=>(match c with| .int e d=>(match a with| .int f b=>fQ (C7 e f) (some (Qh d b))|_=>none)|_=>none)
 | .bool=>(match c with| .bool d=>(match a with| .bool b=>some (Bool.casesOn d (Bool.casesOn b true false) b)|_=>none)|_=>none)
 | .str=>(match c with| .str d=>(match a with| .str b=>some (Uk d b)|_=>none)|_=>none)
 | .ptr _=>(match c with
  | .jQ=>(match a with| .jQ=>some true| .ptr .. | .jh _=>some false|_=>none)
  | .ptr .. | .jh _=>(match a with| .jQ=>some false|_=>none)
  |_=>none)
 | .func=>(match c with
  | .kj=>(match a with| .kj=>some true| .func .. =>some false|_=>none)
  | .func .. =>(match a with| .kj=>some false|_=>none)
  |_=>none)
 | .iface=>(match c with
  | .kq=>(match a with| .kq=>some true| .iface .. =>some false|_=>none)
  | .iface .. =>(match a with| .kq=>some false|_=>none)
  |_=>none)
 |_=>none
def U.plain:U->Bool
 | .int _| .bool| .str=>true
 |_=>false
def eqFields(cx:Ctx)(f:List (Nat×ab)):Nat->List T->List T->aa Bool:=
 @List.rec (Nat×ab) (λ_=>Nat->List T->List T->aa Bool) (λ_ _ _=>some true)
  (λa _ g b d e=>List.casesOn d none λk h=>List.casesOn e none λl i=>fQ (Nat.beq a.1 b) (M (cx.ty a.2) λc=>fQ c.u.plain
    (M (oe c.u k l) λj=>Bool.casesOn j (some false) (g (Nat.succ b) h i)))) f
def yF(f:U)(b:List T):List T->aa Bool:=
 @List.rec T (λ_=>List T->aa Bool) (λa=>List.casesOn a (some true) λ_ _=>none)
  (λg _ c a=>List.casesOn a none λh d=>M (oe f g h) λe=>Bool.casesOn e (some false) (c d)) b
def Mq(cx:Ctx)(d:Ty)(e f:T):aa Bool:=
 match d.u with
 | .struct h=>(match e with
  | .agg a=>(match f with
   | .agg b=>fQ d.cmp (eqFields cx h 0 a b)
   |_=>none)
  |_=>none)
 | .array i g=>(match e with
  | .agg a=>(match f with
   | .agg b=>fQ d.cmp (M (cx.ty g) λc=>fQ c.u.plain (fQ (Nat.beq c.size 1) (fQ (Nat.beq (kv a) i) (yF c.u a b))))
   |_=>none)
  |_=>none)
 |u=>oe u e f
def wB(f g:T)(d:ak->Int->Int->aa T):aa T:=
 match f with
 | .int a b=>(match g with| .int e c=>fQ (C7 a e) (d a b c)|_=>none)
 |_=>none
def zi(f g:T)(d:ak->Int->Nat->aa T):aa T:=
 match f with
 | .int a b=>(match g with| .int _ c=>Int.casesOn c (λe=>d a b (min e a.bits)) (λ_=>none)|_=>none)
 |_=>none
def Ja(h c:T)(d:Int->Int->Bool)(e:List Nat->List Nat->Bool):aa T:=
 match h with
 | .int f a=>(match c with| .int g b=>fQ (C7 f g) (wG (d a b))|_=>none)
 | .str a=>(match c with| .str b=>wG (e a b)|_=>none)
 |_=>none
def R3(d e:T):aa T:=
 match d with
 | .str a=>(match e with
  | .str b=>M (AV a b) λc=>fQ (Nat.ble (kv c) 4294967296) (some (.str c))
  |_=>none)
 |_=>wB d e λf a b=>pj f (a+b)
def binop:BinOp->T->T->aa T
 | .add=>R3
 | .sub=>λd e=>wB d e λc a b=>pj c (a-b)
 | .mul=>λd e=>wB d e λc a b=>pj c (a*b)
 | .quo=>λd e=>wB d e λc a b=>Bool.casesOn (Qh b 0) (pj c (a.tdiv b)) none
 | .rem=>λd e=>wB d e λc a b=>Bool.casesOn (Qh b 0) (xe c (a.tmod b)) none
 | .and=>λd e=>wB d e λc a b=>xe c (c.wrap (BitVec.ofInt c.bits a&&&BitVec.ofInt c.bits b).toNat)
 | .or=>λd e=>wB d e λc a b=>xe c (c.wrap (BitVec.ofInt c.bits a|||BitVec.ofInt c.bits b).toNat)
 | .xor=>λd e=>wB d e λc a b=>xe c (c.wrap (BitVec.ofInt c.bits a^^^BitVec.ofInt c.bits b).toNat)
 | .shl=>λd e=>zi d e λc a f=>xe c (c.wrap (a*2^f))
 | .shr=>λd e=>zi d e λc a f=>xe c (a.fdiv (2^f))
 | .lss=>λd e=>Ja d e J2 Qf
 | .leq=>λd e=>Ja d e (λa b=> !J2 b a) (λa b=> !Qf b a)
 | .gtr=>λd e=>Ja d e (λa b=>J2 b a) (λa b=>Qf b a)
 | .geq=>λd e=>Ja d e (λa b=> !J2 a b) (λa b=> !Qf a b)
 |_=>λ_ _=>none
def unop:UnOp->T->aa T
 | .neg=>λa=>(match a with| .int c d=>pj c (0-d)|_=>none)
 | .not=>λa=>(match a with| .bool b=>Bool.casesOn b (some (.bool true)) (some (.bool false))|_=>none)
 |_=>λ_=>none
def conv(cx:Ctx)(c:ab)(a:T):aa T:=
 M (cx.ty c) λb=>match b.u with
  | .int d=>(match a with| .int _ n=>pj d n|_=>none)
  | .str=>(match a with| .str e=>some (.str e)|_=>none)
  |_=>none
def CS(cx:Ctx)(d:ab)(i:T):aa T:=
 M (cx.ty d) λc=>match c.u with
  | .slice e=>(match i with
   | .str a=>M (cx.ty e) λh=>(match h.u with
    | .int g=>fQ (C7 g .u8) (List.casesOn a (some .fK) λ_ _=>M (fG (λb=>some (T.int .u8 (.ofNat b))) a) λf=>some (.Y f false))
    |_=>none)
   |_=>none)
  |_=>none
def wt(cx:Ctx)(c:ab)(a:Nat):aa (Nat×ab):=
 M (cx.ty c) λd=>match d.u with| .struct b=>lF b a|_=>none
def mf(f:Nat->aa (Nat×Nat))(g:List (Nat×T)):List T->aa (List T):=
 @List.rec (Nat×T) (λ_=>List T->aa (List T)) (λa=>some a)
  (λb _ e a=>M (f b.1) λc=>fQ (Nat.beq (kv b.2.cells) c.2) (M (kc a c.1 b.2.cells) λd=>e d)) g
def oP(h:Nat)(g:List (Nat×T)):List T->aa (List T):=
 @List.rec (Nat×T) (λ_=>List T->aa (List T)) (λa=>some a)
  (λf _ e a=>two f λd b=>fQ (Nat.beq (kv b.cells) h) (M (kf a d b) λc=>e c)) g
def partsOf(cx:Ctx)(e:Nat)(b:Env)(d:List (Nat×ah)):aa (List (Nat×T)):=
 fG (λg=>two g λc f=>M (fq cx e b f) λa=>fQ a.fg (some (c,a))) d
def jF(cx:Ctx)(b:Nat)(a:Env)(f:aa ah):aa (aa Nat):=
 Option.casesOn f (some none) λd=>M (fq cx b a d) λe=>M (mZ e) λc=>some (some c)
def fT(c:aa Nat)(a:Nat):Nat:=Option.casesOn c a λb=>b
def I8{b:Type}(d:List b)(a c:Nat):aa (List b):=M (jB a d) λe=>takeN (Nat.sub c a) e
def sM(c:List T)(e:Bool)(d a:Nat)(g:aa Nat):aa T:=
 fQ (Nat.ble d a) (M (I8 c d a) λb=>Option.casesOn g
  (List.casesOn b (List.casesOn c (some (.Y [] false)) λ_ _=>some .fK) λ_ _=>some (.Y b (Bool.casesOn e false (Nat.beq a (kv c)))))
  λf=>fQ (Nat.beq f a) (List.casesOn b (some (.Y [] false)) λ_ _=>some (.Y b true)))
def uI(b c k g:Nat)(h:Bool)(e a:Nat)(j:aa Nat):aa T:=
 fQ (Nat.ble e a) (fQ (Nat.ble a g) (M (fU (Nat.add k e)) λf=>M (fU (Nat.sub a e)) λd=>Option.casesOn j
  (Bool.casesOn h (some (.arr b c f d false)) (fQ (Nat.beq a g) (some (.arr b c f d true))))
  λi=>fQ (Nat.beq i a) (some (.arr b c f d true))))
def oE(m:T)(b a c:aa Nat):aa T:=
 match m with
 | .str e=>Option.casesOn c (fQ (Nat.ble (fT b 0) (fT a (kv e))) (M (I8 e (fT b 0) (fT a (kv e))) λl=>some (.str l))) λ_=>none
 | .Y f d=>sM f d (fT b 0) (fT a (kv f)) c
 | .fK=>fQ (Nat.beq (fT b 0) 0) (fQ (Nat.beq (fT a 0) 0) (Option.casesOn c (some .fK) λj=>fQ (Nat.beq j 0) (some (.Y [] false))))
 | .arr h i k g d=>uI h i k g d (fT b 0) (fT a g) c
 |_=>none
inductive kC where
 |val (v:T) (h:H)
 |call (f:aj) (args:List T)
 deriving Inhabited
def val(a:H)(c:aa T):aa kC:=M c λb=>some (.val b a)
def jl(d:aa (T×H)):aa kC:=M d λb=>two b λc a=>some (.val c a)
abbrev Hd:=Ctx->Nat->Env->H->aa kC
def Co(d:ah):Hd:=λcx c a b=>val b (fq cx c a d)
def Ea(a e f:ah):Hd:=λcx c b d=>
 M (fq cx c b a) λa=>match a with
  | .bool g=>Bool.casesOn g (val d (fq cx c b f)) (val d (fq cx c b e))
  |_=>none
def wi(cx:Ctx)(d:Ty):Bool:=
 match d.u with
 | .array _ a=>Option.casesOn (cx.ty a) false λc=>(match c.u with| .int b=>C7 b .u8|_=>false)
 |_=>false
def Cu(d:ab):Hd:=λcx _ _ c=>M (cx.ty d) λa=>Bool.casesOn (wi cx a)
 (jl (c.new (λb=> .ptr b 0 0 0) (kN a.size true [a.jW])))
 (jl (c.new (λb=> .ptr b 0 0 0) (kN 1 true a.zero)))
def LP(f:ah):Hd:=λcx e c d=>M (fq cx e c f) λa=>fQ a.fg (jl (d.new (λb=> .ptr b 0 0 0) (kN (kv a.cells) true [a])))
def Aa(m:ab)(l:af (Nat×ah)):Hd:=λcx k h e=>
 M (cx.ty m) λc=>M (partsOf cx k h l.toList) λf=>match c.u with
  | .struct j=>M (mf (λb=>M (lF j b) λd=>M (cx.ty d.2) λn=>some (d.1,n.size)) f c.zero) λa=>val e (some (.agg a))
  | .array _ i=>M (cx.ty i) λg=>M (mf (λb=>some (Nat.mul b g.size,g.size)) f c.zero) λa=>val e (some (.agg a))
  |_=>none
def nK(k:ab)(b:Nat)(i:af (Nat×ah)):Hd:=λcx h d g=>
 M (cx.ty k) λl=>match l.u with
  | .slice e=>M (cx.ty e) λa=>M (partsOf cx h d i.toList) λj=>
   fQ (Nat.ble 1 a.size)<|fQ (Nat.ble (Nat.mul b a.size) 65536) (M (oP a.size j (oG a.jW b)) λf=>
    jl (g.new (λc=> .arr c 0 0 b false) (kN a.size true f)))
  |_=>none
def G4(e:ab)(a:ah):Hd:=λcx d c b=>M (cx.ty e) λf=>M (fq cx d c a) λa=>val b (b.load f a)
def Ck(g:ab)(a i:ah):Hd:=λcx c b e=>
 M (cx.ty g) λh=>M (fq cx c b a) λa=>M (fq cx c b i) λd=>fQ d.fg (M (e.store h a d) λf=>some (.val .undef f))
def qy(e:ah):Hd:=λcx d b c=>M (fq cx d b e) λa=>match a with
 | .ptr .. | .jh _| .func .. =>some (.val a c)
 |_=>none
def tc(c d:ah)(a b:T):Bool:=
 match a with
 | .kq=>(match b with| .kq=>Region.isConst c||Region.isConst d|_=>true)
 |_=>true
def VT(i:Bool)(j:ab)(f g:ah):Hd:=λcx d c h=>
 M (cx.ty j) λk=>M (fq cx d c f) λa=>M (fq cx d c g) λb=>
  fQ (tc f g a b) (M (Mq cx k a b) λe=>val h (wG (Bool.casesOn i e (!e))))
def LQ(f:BinOp)(g h:ah):Hd:=λcx b a e=>
 M (fq cx b a g) λc=>M (fq cx b a h) λd=>val e (binop f c d)
def hUn(e:UnOp)(f:ah):Hd:=λcx d b c=>M (fq cx d b f) λa=>val c (unop e a)
def byteOf(d:T):aa Nat:=match d with
 | .int b c=>fQ (C7 b .u8) (Int.casesOn c (λa=>fQ (Nat.blt a 256) (some a)) (λ_=>none))
 |_=>none
def FN(cx:Ctx)(d:H)(g:ab)(i:T):aa T:=
 M (cx.ty g) λf=>match f.u with
  | .slice b=>M (cx.ty b) λh=>(match h.u with
   | .int e=>fQ (C7 e .u8) (M (d.jf i) λc=>M (fG byteOf c) λa=>fQ (Nat.ble (kv a) 4294967296) (some (.str a)))
   |_=>none)
  |_=>none
def J8(d c:ab)(h:ah):Hd:=λcx g f b=>M (cx.ty d) λ_=>M (fq cx g f h) λa=>
 M (cx.ty c) λe=>match e.u with
  | .slice _=>val b (CS cx c a)
  | .str=>(match a with
   | .str _=>val b (conv cx c a)
   |_=>val b (FN cx b d a))
  |_=>val b (conv cx c a)
def z7(b:ab)(g:ah):Hd:=λcx e c d=>M (cx.ty b) λf=>match f.u with
 | .iface=>none
 |_=>M (fq cx e c g) λa=>fQ a.fg (val d (some (.iface b a)))
def Cr(e:Fn)(first a:af ah):Hd:=λcx g c f=>match e with
 | .func d=>(match first.toList with
  | []=>M (py cx g c a.toList) λb=>val f (some (.func d b))
  |_=>none)
 |_=>none
def oL(i:ab)(a b:ah):Hd:=λcx e d h=>M (cx.ty i) λj=>match j.u with
 | .slice g=>M (cx.ty g) λc=>M (fq cx e d a) λa=>M (fq cx e d b) λb=>M (mZ a) λa=>M (mZ b) λb=>
  fQ (Nat.ble 1 c.size)<|fQ (Nat.ble 1 c.bytes)<|fQ (Nat.ble a b) (fQ (Nat.ble (Nat.mul b c.bytes) 70368744177664) (jl (h.new (λf=> .arr f 0 0 a false) (kN c.size (Nat.beq a b) (oG c.jW a)))))
 |_=>none
def zI(a b:aa Nat):Bool:=Option.casesOn b true λ_=>Option.casesOn a false λ_=>true
def jm(cx:Ctx)(f:H)(p:U)(e:T):Bool:=
 match p with
 | .str=>(match e with| .str _=>true|_=>false)
 | .slice d=>Option.casesOn (cx.ty d) false λa=>(match e with
  | .Y j _=>fits a.size j
  | .fK=>true
  | .arr b _ _ _ _=>Option.casesOn (f.get b) false λc=>Nat.beq c.sz a.size
  |_=>false)
 | .array n d=>Option.casesOn (cx.ty d) false λa=>(match e with
  | .ptr b h k m=>Option.casesOn (f.get b) false λc=>iI.casesOn c λo i _ exact l g=>
   Nat.beq o a.size&&Nat.beq i h&&Nat.beq k 0&&Nat.beq m 0&&exact&& !l&&Nat.beq (kv g) n
  |_=>false)
 |_=>false
def asSlice(e:U)(a:T):T:=match e with
 | .array d _=>(match a with| .ptr b c _ _=> .arr b c 0 d false|_=>a)
 |_=>a
def Cm(i:ab)(e:ah)(f b d:aa ah):Hd:=λcx c a g=>M (cx.ty i) λh=>
 M (fq cx c a e) λe=>fQ (jm cx g h.u e)<|M (jF cx c a f) λf=>M (jF cx c a b) λb=>M (jF cx c a d) λd=>fQ (zI b d) (val g (oE (asSlice h.u e) f b d))
def oN(n:ab)(a:ah)(i:Nat):Hd:=λcx m g c=>M (wt cx n i) λb=>M (fq cx m g a) λa=>match a with
 | .ptr d h j k=>M (fU (Nat.add k b.1)) λl=>some (.val (.ptr d h j l) c)
 | .jh e=>M (jB b.1 e) λf=>some (.val (.jh f) c)
 |_=>none
def z9(i:ab)(a:ah)(e:Nat):Hd:=λcx g d f=>
 M (wt cx i e) λb=>M (cx.ty b.2) λj=>M (fq cx g d a) λa=>match a with
  | .agg c=>M (jB b.1 c) λh=>val f (j4 j h)
  |_=>none
def kw(a:H)(f:Ty)(l:T)(b:Nat):aa kC:=
 match l with
 | .Y h _=>M (lF h b) λg=>fQ (Nat.beq (kv g.cells) f.size) (some (.val (.jh g.cells) a))
 | .arr c e k j _=>fQ (Nat.blt b j) (M (a.get c) λd=>fQ (Nat.beq d.sz f.size)<|fQ (Nat.beq d.ep e) (M (fU (Nat.add k b)) λi=>some (.val (.ptr c e i 0) a)))
 |_=>none
def oc(a:H)(m:Nat)(d:Ty)(n:T)(b:Nat):aa kC:=
 fQ (Nat.blt b m) (match n with
  | .ptr c e f g=>M (a.get c) λh=>Bool.casesOn (Nat.beq h.sz d.size)
   (M (fU (Nat.add g (Nat.mul b d.size))) λl=>some (.val (.ptr c e f l) a))
   (fQ (Nat.beq g 0) (M (fU (Nat.add f b)) λk=>some (.val (.ptr c e k 0) a)))
  | .jh i=>M (jB (Nat.mul b d.size) i) λj=>some (.val (.jh j) a)
  |_=>none)
def oM(j:ab)(a c:ah):Hd:=λcx h e f=>
 M (cx.ty j) λk=>M (fq cx h e a) λa=>M (fq cx h e c) λc=>M (mZ c) λg=>match k.u with
  | .slice b=>M (cx.ty b) λd=>kw f d a g
  | .array i b=>M (cx.ty b) λd=>oc f i d a g
  |_=>none
def zW(n:ab)(a c:ah):Hd:=λcx f d e=>
 M (cx.ty n) λo=>M (fq cx f d a) λa=>M (fq cx f d c) λc=>M (mZ c) λb=>match o.u with
  | .str=>(match a with| .str m=>M (lF m b) λh=>val e (some (.int .u8 (.ofNat h)))|_=>none)
  | .array k j=>(match a with
   | .agg i=>M (cx.ty j) λg=>fQ (Nat.blt b k) (M (jB (Nat.mul b g.size) i) λl=>val e (j4 g l))
   |_=>none)
  |_=>none
def H.entries(d:H)(f:T):aa (List T):=
 match f with
 | .mw=>some []
 | .map a=>M (d.get a) λb=>iI.casesOn b λ_ _ _ _ e c=>fQ e (some c)
 |_=>none
def A5(a:List T):Bool:=match a with
 | []=>true
 | .tuple _::_=>true
 |_=>false
def wq(i:U)(e:T)(g:List T):Nat->aa (aa (Nat×T)):=
 @List.rec T (λ_=>Nat->aa (aa (Nat×T))) (λ_=>some none)
  (λb _ d a=>match b with
    | .tuple [f,j]=>M (oe i e f) λh=>Bool.casesOn h (M (fU (Nat.succ a)) λc=>d c) (some (some (a,j)))
    |_=>none) g
def J5(b:U)(a:T):Bool:=match b with
 | .str=>(match a with| .str _=>true|_=>false)
 |_=>false
def tI(d:ab)(c:aa ah):Hd:=λcx _ _ b=>Option.casesOn c
 (M (cx.ty d) λe=>(match e.u with
   | .map _ _=>jl (b.new (λa=> .map a) ⟨0,0,0,true,true,[]⟩)
   |_=>none))
 λ_=>none
def wm(n:ab)(a i:ah)(k:Bool):Hd:=λcx e b c=>M (cx.ty n) λp=>match p.u with
 | .map j h=>M (cx.ty j) λf=>M (cx.ty h) λo=>M (fq cx e b a) λa=>M (fq cx e b i) λd=>fQ (J5 f.u d)
  (M (c.entries a) λg=>M (wq f.u d g 0) λm=>Bool.casesOn k (val c (some (Option.casesOn m o.jW λl=>l.2))) none)
 |_=>none
def qW(t:ab)(d o y:ah):Hd:=λcx e b h=>M (cx.ty t) λv=>match v.u with
 | .map p _=>M (cx.ty p) λi=>M (fq cx e b d) λd=>M (fq cx e b o) λa=>M (fq cx e b y) λf=>fQ (J5 i.u a) (fQ f.fg
  (match d with
  | .map g=>M (h.get g) λj=>iI.casesOn j λs k w exact n c=>fQ n (M (wq i.u a c 0) λr=>M (fU (Nat.succ w)) λx=>
   (M (Option.casesOn r (AV c [.tuple [a,f]]) λq=>kf c q.1 (.tuple [a,f])) λl=>M (h.put g ⟨s,k,x,exact,true,l⟩) λm=>some (.val .undef m)))
  |_=>none))
 |_=>none
def tJ(g:ah)(c:Nat):Hd:=λcx d a b=>M (fq cx d a g) λe=>match e with| .tuple f=>val b (lF f c)|_=>none
def Cn(g:ah):Hd:=λcx d b c=>M (fq cx d b g) λf=>match f with
 | .str e=>jl (c.new (λa=> .iter a) ⟨1,0,0,true,true,[.str e,.int .i64 0]⟩)
 |_=>none
def yy(d:ab)(f:ah):Hd:=λcx c a b=>M (cx.ty d) λe=>match e.u with
 | .str=>Cn f cx c a b
 |_=>none
def u6(c:List Nat)(b:Nat):aa (Nat×Nat):=M (lF c b) λa=>Bool.casesOn (Nat.blt a 128) (Bool.casesOn (Nat.blt a 256) (some (65533,1)) (some (Utf8.decode ⟨(c.map UInt8.ofNat).toArray⟩ b))) (some (a,1))
def vk(i:ah):Hd:=λcx j g c=>(M (fq cx j g i) λm=>match m with
 | .iter e=>M (c.get e) λa=>fQ a.it (match a.eg with
  | [.str d,.int _ (.ofNat b)]=>Bool.casesOn (Nat.blt b (kv d)) (some (.val (.tuple [.bool false]) c))
   (M (u6 d b) λl=>two l λf wd=>M (fU (Nat.add b wd)) λk=>M (fU (Nat.succ a.ver)) λn=>
     M (c.put e ⟨a.sz,a.ep,n,a.exact,true,[.str d,.int .i64 (.ofNat k)]⟩) λh=>
      some (.val (.tuple [.bool true,.int .i64 (.ofNat b),.int .i32 (.ofNat f)]) h))
  |_=>none)
 |_=>none)
def GY(d:ah)(c:Bool):Hd:=λcx e a b=>Bool.casesOn c none (vk d cx e a b)
def L9(cx:Ctx)(a:H)(h:List ab)(c:T):aa kC:=
 M (lF h 0) λg=>M (cx.ty g) λi=>match i.u with
  | .str=>(match c with
   | .str f=>val a (M (fU (kv f)) λb=>some (.int .i64 (.ofNat b)))
   |_=>none)
  | .slice _=>(match c with
   | .Y d _=>val a (M (fU (kv d)) λb=>some (.int .i64 (.ofNat b)))
   | .fK=>val a (some (.int .i64 0))
   | .arr _ _ _ e _=>val a (some (.int .i64 (.ofNat e)))
   |_=>none)
  | .array b _=>val a (some (.int .i64 (.ofNat b)))
  |_=>none
def pS(cx:Ctx)(b:ab):aa Ty:=
 M (cx.ty b) λc=>match c.u with| .slice a=>cx.ty a|_=>none
def m7(cx:Ctx)(d:H)(e:ab)(a:T):aa (List T):=
 M (cx.ty e) λf=>match f.u with
  | .str=>(match a with| .str b=>fG (λc=>some (T.int .u8 (.ofNat c))) b|_=>none)
  | .slice _=>d.jf a
  |_=>none
def iN(cx:Ctx)(b:H)(e f:ab)(d g:T):aa kC:=
 M (pS cx e) λa=>M (m7 cx b f g) λc=>fQ (fits a.size c) (jl (b.append a.size a.bytes d c))
def CV(cx:Ctx)(a:H)(n:ab)(q:T):aa kC:=
 M (pS cx n) λg=>match q with
  | .Y b _=>List.casesOn b (some (.val .undef a)) λ_ _=>none
  | .fK=>some (.val .undef a)
  | .arr c j m e _=>Nat.casesOn e (some (.val .undef a)) λ_=>M (a.get c) λh=>iI.casesOn h λf d o exact l i=>
   fQ (Nat.beq d j)<|fQ (Nat.beq f g.size) (Bool.casesOn l
    (M (kc i m (oG g.jW e)) λb=>M (fU (Nat.succ o)) λp=>
      M (a.put c ⟨f,d,p,exact,false,b⟩) λk=>some (.val .undef k)) none)
  |_=>none
def kR:Builtin->Ctx->H->List ab->List T->aa kC
 | .clear=>λcx b f a=>(match a with| [c]=>(match f with| [h]=>CV cx b h c|_=>none)|_=>none)
 | .len=>λcx b f a=>(match a with| [c]=>L9 cx b f c|_=>none)
 | .append=>λcx b f a=>(match a with| [j,c]=>(match f with| [h,k]=>iN cx b h k j c|_=>none)|_=>none)
 | .min=>λ_ b _ a=>(match a with| [c,i]=>val b (wB c i λg d e=>xe g (Bool.casesOn (J2 e d) d e))|_=>none)
 | .max=>λ_ b _ a=>(match a with| [c,i]=>val b (wB c i λg d e=>xe g (Bool.casesOn (J2 d e) d e))|_=>none)
 |_=>λ_ _ _ _=>none
def Ct(a:Call):Hd:=λcx e d h=>M (py cx e d a.args.toList) λc=>match a.callee with
 | .builtin f=>kR f cx h a.argTypes.toList c
 | .value b=>M (fq cx e d b) λj=>(match j with
  | .func b g=>M (AV c g) λi=>some (.call b i)
  |_=>none)
 |_=>none
def iT:Op->Hd
 | .move a=>Co a
 | .assign a=>Co a
 | .pick e c g=>Ea e c g
 | .alloc b=>Cu b
 | .box _ a=>LP a
 | .build b i=>Aa b i
 | .buildSlice b s i=>nK b s i
 | .load b c=>G4 b c
 | .store b c a=>Ck b c a
 | .nilCheck a=>qy a
 | .binOp f b a j _=>(match f with| .eql=>VT false b a j| .neq=>VT true b a j|_=>LQ f a j)
 | .unOp f _ a=>hUn f a
 | .convert w k a=>J8 w k a
 | .makeInterface b a=>z7 b a
 | .makeFunc l c g=>Cr l c g
 | .makeSlice b o e=>oL b o e
 | .slice b a p m r=>Cm b a p m r
 | .fieldAddr b a h=>oN b a h
 | .field b a h=>z9 b a h
 | .indexAddr b a d=>oM b a d
 | .index b a d=>zW b a d
 | .extract a d=>tJ a d
 | .makeMap b u=>tI b u
 | .lookup b a d t=>wm b a d t
 | .mapUpdate b q n a=>qW b q n a
 | .range b a=>yy b a
 | .next it v=>GY it v
 | .entry _=>λ_ _ _ _=>none
 | .call e=>Ct e
 |_=>λ_ _ _ _=>none
def ze(e:ai):TypeDesc->aa U
 | .int c=>some (.int c)
 | .bool=>some .bool
 | .string=>some .str
 | .slice a=>some (.slice a)
 | .array g a=>some (.array g a)
 | .struct d=>if d.toList.all (λb=>(e.info? b.type).any λf=> !(f.size==0))then some (.struct (d.toList.map λb=>(b.offset,b.type)))else none
 | .pointer a=>some (.ptr a)
 | .map c a=>some (.map c a)
 | .func _ _ _=>some .func
 | .interface _=>some .iface
 |_=>some .other
def sI(a:TypeDesc)(b:am):Bool:=
 match a,b with
 | .struct _,.agg _| .array _ _,.agg _=>true
 | .struct _,_| .array _ _,_|_,.agg _=>false
 |_,_=>true
def JY:TypeDesc->Bool
 | .struct b=>b.toList.all λa=>a.name != "_"
 |_=>true
def UI(a:ai)(c:ab)(e:Bool):aa Ty:=
 M (a.info? c) λb=>M (a.underlying c) λd=>M b.zero λf=>M (fG mF f.cells.toList) λg=>M (ze a d) λh=>
  fQ (sI d f) (fQ (Nat.beq (kv g) b.size) (fQ (Bool.casesOn e true (!a.stoodInHeld c&& !a.eqGuardType a.depth c&&JY d)) (some ⟨h,b.size,b.bytes,e,g⟩)))
abbrev iH:=aj->List T->H->aa (T×H)
def ka(i:af Oper)(g:Nat)(d:Env)(e:aa (Nat×Bool)):aa Bool:=
 Option.casesOn e (some true) λj=>two j λf a=>M (M (M (lF i.toList f) λh=>h.dst) λc=>d.get g c) λk=>
  match k with
  | .bool b=>some (Bool.casesOn b (Bool.casesOn a true false) a)
  |_=>some false
def kU(cx:Ctx)(call:iH)(c:Nat)(k:af Oper)(a:Env)(e:H)(d:Oper):aa (Env×H):=
 M (ka k c a d.guard) λm=>Bool.casesOn m
  (M (a.dst c d.dst .undef) λb=>some (b,e))
  (M (iT d.op cx c a e) λi=>kC.casesOn i
    (λg f=>M (a.dst c d.dst g) λb=>some (b,f))
    (λj h=>M (call j h e) λl=>two l λg f=>M (a.dst c d.dst g) λb=>some (b,f)))
def kh(cx:Ctx)(call:iH)(g:Nat)(i:af Oper)(f:List Oper):Env->H->aa (Env×H):=
 @List.rec Oper (λ_=>Env->H->aa (Env×H)) (λa b=>some (a,b))
  (λh _ e a b=>M (kU cx call g i a b h) λj=>two j λc d=>e c d) f
def dM:T->aa Nat
 | .ptr a _ _ _=>some a
 | .arr a _ _ _ _=>some a
 | .map a=>some a
 |_=>none
def fP(cx:Ctx)(d:Nat)(b:Env)(c:H)(e:Op):aa Nat:=
 match e with
 | .load _ a=>M (fq cx d b a) dM
 | .indexAddr _ a _=>M (fq cx d b a) dM
 | .slice _ a _ _ _=>M (fq cx d b a) dM
 | .convert _ _ a=>M (fq cx d b a) dM
 | .lookup _ a _ _=>M (fq cx d b a) dM
 | .makeMap _ _=>some c.size
 | .alloc _=>some c.size
 | .box _ _=>some c.size
 | .buildSlice _ _ _=>some c.size
 | .makeSlice _ _ _=>some c.size
 |_=>none
def gJ:Op->Bool
 | .store .. =>true
 | .call b=>(match b.callee with
  | .builtin a=>(match a with| .len| .min| .max=>false|_=>true)
  |_=>true)
 | .next .. =>true
 | .range .. =>true
 | .entry .. =>true
 | .mapUpdate .. =>true
 |_=>false
structure Seen where
 lU:List (Nat×Nat)
 kG:List (Nat×H×H)
def ww(c:List Nat)(d:List Edge):Nat:=
 d.foldr (λa b=>Bool.casesOn (Region.binds .any a) b (Nat.lor b (Nat.lor (Nat.shiftLeft 1 a.on) (c.getD a.on 0)))) 0
def Jk:List Oper->List Nat->List Nat
 | [],a=>a
 |o::b,a=>Jk b (a++[ww a o.after.toList])
def jy(c:af Oper)(a b:Nat):Bool:=((Jk c.toList []).getD b 0).testBit a
def em(b c:H)(a:Nat):Bool:=
 Option.casesOn (b.get a) true λd=>Option.casesOn (c.get a) false λe=>Nat.beq d.ver e.ver
def nD(e:af Oper)(c b:Nat)(d:List (Nat×H×H)):Bool:=
 wC (λa=>Bool.casesOn (em a.2.1 a.2.2 b) (jy e a.1 c) true) d
def wQ(f:af Oper)(d:Nat)(b c:H)(e:List (Nat×Nat)):Bool:=
 wC (λa=>Bool.casesOn (em b c a.2) (jy f a.1 d) true) e
def qf(cx:Ctx)(e:Nat)(g:af Oper)(c:Nat)(b:Env)(d:List (Nat×H×H))(f:Op):Bool:=
 match f with
 | .store _ h _=>Option.casesOn (M (fq cx e b h) dM) true λa=>nD g c a d
 |_=>true
def jL(cx:Ctx)(call:iH)(j:Nat)(g:af Oper)(l:List Oper):Nat->Seen->Env->H->aa (Env×H):=
 @List.rec Oper (λ_=>Nat->Seen->Env->H->aa (Env×H)) (λ_ _ c d=>some (c,d))
  (λf _ i a b c d=>M (kU cx call j g c d f) λm=>two m λh e=>
    M (ka g j c f.guard) λn=>Bool.casesOn n (i (Nat.succ a) b h e)
     (Bool.casesOn (gJ f.op)
       (Option.casesOn (fP cx j c d f.op) (i (Nat.succ a) b h e)
         λk=>fQ (nD g a k b.kG) (i (Nat.succ a) ⟨(a,k)::b.lU,b.kG⟩ h e))
       (fQ (wQ g a d e b.lU) (fQ (qf cx j g a c b.kG f.op) (i (Nat.succ a) ⟨b.lU,(a,d,e)::b.kG⟩ h e))))) l
inductive Ex where
 |normal|exit (id:Nat)|ret
 deriving Inhabited
abbrev Out:=aa (Ex×Env×H)
def three{a:Type}(e:Ex×Env×H)(c:Ex->Env->H->a):a:=Prod.casesOn e λg f=>Prod.casesOn f λb d=>c g b d
def nI(c:Env->H->Out)(h:Nat):Env->H->Out:=
 @Nat.rec (λ_=>Env->H->Out) (λ_ _=>none)
  (λ_ g d e=>M (c d e) λi=>three i λj a b=>Ex.casesOn j (g a b) (λf=>some (.exit f,a,b)) (some (.ret,a,b))) h
def JL(cx:Ctx)(call:iH)(g:Nat)(a:af Oper)(i:Bool)(j:Env)(f:H):Out:=
 Env.casesOn j λh _=>Bool.casesOn i
  (M (kh cx call g a a.toList ⟨h,.nil⟩ f) λd=>two d λb c=>some (.normal,Env.casesOn b λe _=>⟨e,.nil⟩,c))
  (M (jL cx call g a a.toList 0 ⟨[],[]⟩ ⟨h,.nil⟩ f) λd=>two d λb c=>some (.normal,Env.casesOn b λe _=>⟨e,.nil⟩,c))
def BB(c d:Env->H->Out)(e:Env)(f:H):Out:=
 M (c e f) λh=>three h λi a b=>Ex.casesOn i (d a b) (λg=>some (.exit g,a,b)) (some (.ret,a,b))
def Hh(cx:Ctx)(f:Nat)(e:ah)(c d:Env->H->Out)(a:Env)(b:H):Out:=
 M (fq cx f a e) λh=>match h with
  | .bool g=>Bool.casesOn g (d a b) (c a b)
  |_=>none
def xF(id:Nat)(d:Env->H->Out)(e:Env)(f:H):Out:=
 M (d e f) λg=>three g λh a b=>Ex.casesOn h (some (.normal,a,b)) (λc=>Bool.casesOn (Nat.beq c id) (some (.exit c,a,b)) (some (.normal,a,b))) (some (.ret,a,b))
def jP(cx:Ctx)(call:iH)(c a:Nat):Code->Env->H->Out
 | .skip=>λd e=>some (.normal,d,e)
 | .region _ i h=>JL cx call a i h
 | .seq f b=>BB (jP cx call c a f) (jP cx call c a b)
 | .cond g f b=>Hh cx a g (jP cx call c a f) (jP cx call c a b)
 | .block id b=>xF id (jP cx call c a b)
 | .loop b=>nI (jP cx call c a b) c
 | .exit id=>λd e=>some (.exit id,d,e)
 | .ret=>λd e=>some (.ret,d,e)
 |_=>λ_ _=>none
def lV(g:Nat)(h:Nat):Nat->List T->aa fH:=
 @Nat.rec (λ_=>Nat->List T->aa fH) (λ_ _=>some .nil)
  (λ_ c a f=>M (fU (Nat.succ a)) λb=>List.casesOn f
    (Bool.casesOn (jX g a) (c b []) (M (c b []) λd=>some (.cons a .undef d)))
    λe i=>M (c b i) λd=>some (.cons a e d)) h
def kF(cx:Ctx)(c:Nat)(b:Env)(e:H)(f:List ResultVar):aa (List T):=
 fG (λh=>ResultVar.casesOn h (λa=>b.get c a) (λd a=>M (b.get c d) λg=>M (cx.ty a) λi=>e.load i g)) f
def vl(b:Nat)(e:List Nat):Nat->aa Int:=
 @List.rec Nat (λ_=>Nat->aa Int) (λ_=>some (.negSucc 0))
  (λf _ d a=>Bool.casesOn (Nat.beq f b) (M (fU (Nat.succ a)) λc=>d c) (some (.ofNat a))) e
def yk(f:Prim)(b:List T)(a:H):aa (T×H):=
 match f with
 | .ng=>(match b with
  | [.str g,.int .u8 (.ofNat c)]=>fQ (Nat.blt c 256) (M (vl c g 0) λe=>some (.int .i64 e,a))
  |_=>none)
 | .clone h bytes=>(match b with
  | [i]=>M (a.jf i) λd=>List.casesOn d (some (.Y [] false,a)) λ_ _=>a.ja h bytes [] d
  |_=>none)
def iz(a:List T):T:=match a with| [b]=>b|_=> .tuple a
def rZ(cx:Ctx)(call:iH)(l:Nat)(a:Func)(c:Nat)(g:Bool)(i:List T)(m:H):aa (T×H):=
 Option.casesOn a.body none λj=>H.casesOn m λd h k=>
  M (lV c a.ntmps 0 i) λo=>
  M (jP cx call l c j ⟨o,.nil⟩ ⟨d,d,k⟩) λn=>three n λp f b=>Ex.casesOn p
   (M (kF cx c f b a.results.toList) λe=>qR g d h (iz e) b)
   (λ_=>none)
   (M (kF cx c f b a.results.toList) λe=>qR g d h (iz e) b)
