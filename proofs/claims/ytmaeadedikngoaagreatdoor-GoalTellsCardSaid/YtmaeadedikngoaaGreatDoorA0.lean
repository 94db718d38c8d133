/- Texts TiDefs to TiDefs. -/
import GoSem.Step
set_option linter.all false
namespace Go.TI
theorem dz{p:Prop}(h:p:=by omega):p:=h
theorem dA{p:Prop}(h:p:=by simp):p:=h
theorem dB{p:Prop}(h:p:=by (simp;omega)):p:=h
theorem dC{p:Prop}(h:p:=by (simp only;omega)):p:=h
theorem dD{p:Prop}(h:p:=by decide):p:=h
end Go.TI
namespace Go.TI
abbrev aa:=@Option
abbrev ab:=@TypeId
abbrev af:=@Array
abbrev ah:=@Operand
abbrev ai:=@Program
abbrev aj:=@FuncId
abbrev ak:=@IntKind
abbrev am:=@Value
theorem ao:type_of% @if_neg:=@if_neg
theorem aq:type_of% @if_pos:=@if_pos
theorem ar:type_of% @Option.some.injEq:=@Option.some.injEq
theorem au:type_of% @Nat.le_refl:=@Nat.le_refl
theorem aw:type_of% @Nat.zero_le:=@Nat.zero_le
theorem ax:type_of% @List.mem_of_getElem?:=@List.mem_of_getElem?
theorem ay:type_of% @Prod.mk.injEq:=@Prod.mk.injEq
theorem az:type_of% @List.getElem?_eq_getElem:=@List.getElem?_eq_getElem
theorem aB:type_of% @Bool.and_eq_true:=@Bool.and_eq_true
theorem aC:type_of% @List.getElem_mem:=@List.getElem_mem
theorem aD:type_of% @Nat.eq_of_beq_eq_true:=@Nat.eq_of_beq_eq_true
theorem aF:type_of% @Nat.lt_or_ge:=@Nat.lt_or_ge
theorem aG:type_of% @List.length_map:=@List.length_map
theorem aH:type_of% @Nat.blt_eq:=@Nat.blt_eq
theorem aI:type_of% @List.append_assoc:=@List.append_assoc
theorem aJ:type_of% @List.drop_eq_getElem_cons:=@List.drop_eq_getElem_cons
theorem aK:type_of% @decide_eq_true_eq:=@decide_eq_true_eq
theorem aL:type_of% @List.cons.injEq:=@List.cons.injEq
theorem aM:type_of% @List.getElem?_eq_none:=@List.getElem?_eq_none
theorem aO:type_of% @List.take_length:=@List.take_length
theorem aP:type_of% @decide_eq_false:=@decide_eq_false
theorem aQ:type_of% @List.flatMap_cons:=@List.flatMap_cons
theorem aR:type_of% @Prod.ext:=@Prod.ext
theorem aS:type_of% @Nat.le_trans:=@Nat.le_trans
theorem aT:type_of% @List.length_append:=@List.length_append
theorem aU:type_of% @List.getElem?_map:=@List.getElem?_map
theorem aV:type_of% @List.map_cons:=@List.map_cons
theorem aW:type_of% @Nat.mul_le_mul_right:=@Nat.mul_le_mul_right
theorem aY:type_of% @decide_eq_true:=@decide_eq_true
theorem aZ:type_of% @List.take_succ_eq_append_getElem:=@List.take_succ_eq_append_getElem
theorem bg:type_of% @Array.getD_eq_getD_getElem?:=@Array.getD_eq_getD_getElem?
theorem bh:type_of% @if_true:=@if_true
theorem bj:type_of% @List.length_cons:=@List.length_cons
theorem bm:type_of% @List.eq_nil_of_length_eq_zero:=@List.eq_nil_of_length_eq_zero
theorem bo:type_of% @Ne.symm:=@Ne.symm
theorem br:type_of% @if_false:=@if_false
theorem bw:type_of% @decide_eq_false_iff_not:=@decide_eq_false_iff_not
theorem bA:type_of% @Nat.le_of_ble_eq_true:=@Nat.le_of_ble_eq_true
theorem bD:type_of% @Nat.le_of_lt:=@Nat.le_of_lt
theorem bE:type_of% @Nat.lt_of_lt_of_le:=@Nat.lt_of_lt_of_le
theorem bF:type_of% @List.mem_of_mem_take:=@List.mem_of_mem_take
theorem bG:type_of% @List.mem_of_mem_drop:=@List.mem_of_mem_drop
theorem bI:type_of% @Bool.eq_iff_iff:=@Bool.eq_iff_iff
theorem bJ:type_of% @List.take_of_length_le:=@List.take_of_length_le
theorem bK:type_of% @List.getElem?_drop:=@List.getElem?_drop
theorem bL:type_of% @List.append_nil:=@List.append_nil
theorem bM:type_of% @Bool.or_eq_false_iff:=@Bool.or_eq_false_iff
theorem bO:type_of% @List.getElem?_take:=@List.getElem?_take
theorem bP:type_of% @Bool.true_and:=@Bool.true_and
theorem bQ:type_of% @congrArg:=@congrArg
theorem bR:type_of% @Bool.not_eq_true':=@Bool.not_eq_true'
theorem bU:type_of% @List.eq_of_mem_replicate:=@List.eq_of_mem_replicate
theorem bV:type_of% @Bool.or_eq_true:=@Bool.or_eq_true
theorem bW:type_of% @List.getElem?_set:=@List.getElem?_set
theorem bY:type_of% @List.map_set:=@List.map_set
theorem bZ:type_of% @Bool.not_eq_false':=@Bool.not_eq_false'
theorem cd:type_of% @Nat.succ_mul:=@Nat.succ_mul
theorem cg:type_of% @List.mem_or_eq_of_mem_set:=@List.mem_or_eq_of_mem_set
theorem ci:type_of% @Nat.ble_eq_true_of_le:=@Nat.ble_eq_true_of_le
theorem cj:type_of% @List.flatMap_nil:=@List.flatMap_nil
theorem cm:type_of% @List.getElem?_append_left:=@List.getElem?_append_left
theorem co:type_of% @Nat.add_mul:=@Nat.add_mul
theorem cq:type_of% @Array.length_toList:=@Array.length_toList
theorem cr:type_of% @Bool.false_eq_true:=@Bool.false_eq_true
theorem cu:type_of% @List.mem_cons:=@List.mem_cons
theorem cv:type_of% @Bool.eq_false_iff:=@Bool.eq_false_iff
theorem cw:type_of% @List.map_nil:=@List.map_nil
theorem cy:type_of% @Array.ext':=@Array.ext'
theorem cz:type_of% @List.getElem?_append_right:=@List.getElem?_append_right
theorem cA:type_of% @Nat.min_eq_left:=@Nat.min_eq_left
theorem cB:type_of% @List.all_eq_true:=@List.all_eq_true
theorem cC:type_of% @List.mem_cons_of_mem:=@List.mem_cons_of_mem
theorem cD:type_of% @List.nil_append:=@List.nil_append
theorem cE:type_of% @List.all_cons:=@List.all_cons
theorem cF:type_of% @List.mem_flatMap:=@List.mem_flatMap
theorem cG:type_of% @List.cons_append:=@List.cons_append
theorem cH:type_of% @Nat.add_assoc:=@Nat.add_assoc
theorem cI:type_of% @List.getElem?_set_ne:=@List.getElem?_set_ne
theorem cJ:type_of% @Int.toNat_natCast:=@Int.toNat_natCast
theorem cK:type_of% @List.map_map:=@List.map_map
theorem cM:type_of% @Bool.not_true:=@Bool.not_true
theorem cN:type_of% @Option.map_some:=@Option.map_some
theorem cO:type_of% @Nat.ne_of_beq_eq_false:=@Nat.ne_of_beq_eq_false
theorem cP:type_of% @List.set_cons_zero:=@List.set_cons_zero
theorem cQ:type_of% @List.flatMap_append:=@List.flatMap_append
theorem cR:type_of% @List.take_append_drop:=@List.take_append_drop
theorem cS:type_of% @List.length_set:=@List.length_set
theorem cT:type_of% @List.getElem?_of_mem:=@List.getElem?_of_mem
theorem cU:type_of% @Array.getElem?_eq_none:=@Array.getElem?_eq_none
theorem cV:type_of% @Nat.lt_trichotomy:=@Nat.lt_trichotomy
theorem cW:type_of% @List.drop_drop:=@List.drop_drop
theorem cY:type_of% @List.length_nil:=@List.length_nil
theorem cZ:type_of% @List.ext_getElem?:=@List.ext_getElem?
theorem c8:type_of% @List.take_append_of_le_length:=@List.take_append_of_le_length
theorem da:type_of% @List.mem_append_left:=@List.mem_append_left
theorem db:type_of% @List.set_cons_succ:=@List.set_cons_succ
theorem dc:type_of% @List.mem_range:=@List.mem_range
theorem df:type_of% @Nat.lt_succ_self:=@Nat.lt_succ_self
theorem dg:type_of% @List.not_mem_nil:=@List.not_mem_nil
theorem dh:type_of% @List.replicate_succ:=@List.replicate_succ
theorem dj:type_of% @List.toList_toArray:=@List.toList_toArray
theorem dp:type_of% @List.getElem?_cons_succ:=@List.getElem?_cons_succ
theorem dq:type_of% @List.mem_cons_self:=@List.mem_cons_self
theorem dt:type_of% @List.pairwise_cons:=@List.pairwise_cons
theorem du:type_of% @List.drop_length:=@List.drop_length
theorem dw:type_of% @List.getElem?_set_self:=@List.getElem?_set_self
theorem dx:type_of% @List.length_range:=@List.length_range
theorem dy:type_of% @List.mem_append_right:=@List.mem_append_right
end Go.TI
namespace Go.TI
noncomputable section
inductive T where
 |undef
 |bool (b:Bool)
 |int (k:ak) (n:Int)
 |str (s:List Nat)
 |kx
 |ptr (b ep i j:Nat)
 |jy (cells:List T)
 |dM (eY:List T) (full:Bool)
 |gu
 |arr (b ep o l:Nat) (full:Bool)
 |func (f:aj) (captured:List T)
 |kN
 |kP
 |iface (t:ab) (v:T)
 |iter (b:Nat)
 |map (b:Nat)
 |nU
 |agg (cells:List T)
 |tuple (vs:List T)
 deriving Inhabited
def T.cells:T->List T
 | .agg a=>a
 |v=>[v]
def T.il:T->Bool
 | .undef| .tuple _=>false
 |_=>true
structure iZ where
 sz:Nat
 ep:Nat
 ver:Nat
 exact:Bool
 it:Bool
 eY:List T
 deriving Inhabited
structure H where
 size:Nat
 low:Nat
 fx:List iZ
 deriving Inhabited
inductive U where
 |int (k:ak)|bool|str|slice (e:ab)|array (n:Nat) (e:ab)|map (k e:ab)|struct (fs:List (Nat×ab))|ptr (e:ab)|func|iface|other
 deriving Inhabited
structure Ty where
 u:U
 size:Nat
 bytes:Nat
 cmp:Bool
 zero:List T
 deriving Inhabited
inductive Prim where
 |nZ
 |clone (sz bytes:Nat)
 deriving Inhabited
structure Fun where
 fn:Func
 mask:Nat
 kY:Bool
 afB:aa Prim
 deriving Inhabited
structure Ctx where
 ty:ab->aa Ty
 fn:aj->aa Fun
 gl:Nat->aa (List T)
def dU{a b:Type}(d:aa a)(c:a->aa b):aa b:=Option.casesOn d none c
def gD{a:Type}(b:Bool)(c:aa a):aa a:=Bool.casesOn b none c
def two{a b c:Type}(e:a×b)(d:a->b->c):c:=Prod.casesOn e d
def mm{a:Type}(c:List a):Nat->aa a:=
 @List.rec a (λ_=>Nat->aa a) (λ_=>none) (λf _ b e=> @Nat.rec (λ_=>aa a) (some f) (λd _=>b d) e) c
def kM{a:Type}(d:List a):Nat->a->aa (List a):=
 @List.rec a (λ_=>Nat->a->aa (List a)) (λ_ _=>none)
  (λi g c f b=> @Nat.rec (λ_=>aa (List a)) (some (b::g)) (λe _=>dU (c e b) λh=>some (i::h)) f) d
def takeN{a:Type}(d:Nat):List a->aa (List a):=
 @Nat.rec (λ_=>List a->aa (List a)) (λ_=>some [])
  (λ_ b c=> @List.rec a (λ_=>aa (List a)) none (λg e _=>dU (b e) λf=>some (g::f)) c) d
def jX{a:Type}(d:Nat):List a->aa (List a):=
 @Nat.rec (λ_=>List a->aa (List a)) (λb=>some b)
  (λ_ c b=> @List.rec a (λ_=>aa (List a)) none (λ_ e _=>c e) b) d
def kW{a:Type}(c:List a):Nat:= @List.rec a (λ_=>Nat) 0 (λ_ _ b=>Nat.succ b) c
def Ej{a:Type}(e f:List a):aa (List a):=
 @List.rec a (λ_=>aa (List a)) (some f) (λd _ b=>dU b λc=>some (d::c)) e
def fN{a b:Type}(c:a->aa b)(e:List a):aa (List b):=
 @List.rec a (λ_=>aa (List b)) (some []) (λg _ d=>dU (c g) λh=>dU d λf=>some (h::f)) e
def py{a:Type}(d:a)(c:Nat):List a:= @Nat.rec (λ_=>List a) [] (λ_ b=>d::b) c
def wW{a:Type}(b:a->Bool)(d:List a):Bool:= @List.rec a (λ_=>Bool) true (λe _ c=>Bool.rec false c (b e)) d
def gY(b:Nat):aa Nat:=Nat.casesOn b (some 0) (λa=>some (Nat.succ a))
def La(c:Int):aa Int:=
 Int.casesOn c (λa=>Nat.casesOn a (some (.ofNat 0)) (λb=>some (.ofNat (Nat.succ b)))) (λa=>Nat.casesOn a (some (.negSucc 0)) (λb=>some (.negSucc (Nat.succ b))))
def xE(a:ak)(c:Int):aa T:=dU (La c) λb=>some (.int a b)
def xa(a:Bool):aa T:=Bool.casesOn a (some (.bool false)) (some (.bool true))
def kNo:ak->Nat
 | .i8=>0| .i16=>1| .i32=>2| .i64=>3| .u8=>4| .u16=>5| .u32=>6| .u64=>7
def Dx(a b:ak):Bool:=Nat.beq (kNo a) (kNo b)
def Lg(d c:Int):Bool:=Int.casesOn d (λa=>Int.casesOn c (λb=>Nat.blt a b) (λ_=>false)) (λa=>Int.casesOn c (λ_=>true) (λb=>Nat.blt b a))
def Rz(d c:Int):Bool:=Int.casesOn d (λa=>Int.casesOn c (λb=>Nat.beq a b) (λ_=>false)) (λa=>Int.casesOn c (λ_=>false) (λb=>Nat.beq a b))
def KG(k:ak)(a:Int):Int:=
 match k with
 | .i64=>Int.casesOn a (λb=>Bool.casesOn (Nat.ble b 9223372036854775807) (IntKind.i64.wrap a) a) (λb=>Bool.casesOn (Nat.ble b 9223372036854775807) (IntKind.i64.wrap a) a)
 |k=>k.wrap a
def pY(a:ak)(b:Int):aa T:=xE a (KG a b)
def UT(b:List Nat):List Nat->Bool:=
 @List.rec Nat (λ_=>List Nat->Bool) (λa=>List.casesOn a true (λ_ _=>false))
  (λe _ c a=>List.casesOn a false (λf d=>Bool.rec false (c d) (Nat.beq e f))) b
def Ry(d:List Nat):List Nat->Bool:=
 @List.rec Nat (λ_=>List Nat->Bool) (λa=>List.casesOn a false (λ_ _=>true))
  (λb _ e a=>List.casesOn a false (λc f=>Bool.rec (Bool.rec false (e f) (Nat.beq b c)) true (Nat.blt b c))) d
def H.get(d:H)(a:Nat):aa iZ:=
 H.casesOn d λb _ c=>gD (Nat.blt a b) (mm c (Nat.sub (Nat.sub b 1) a))
def H.new(g:Nat->T)(h:H)(i:iZ):aa (T×H):=
 H.casesOn h λa d c=>dU (gY (Nat.succ a)) λe=>some (g a,⟨e,d,i::c⟩)
def H.put(g:H)(a:Nat)(x:iZ):aa H:=
 H.casesOn g λb e f=>gD (Nat.blt a b)
  (dU (kM f (Nat.sub (Nat.sub b 1) a) x) λd=>Bool.casesOn (Nat.blt a e) (some ⟨b,e,d⟩) (some ⟨b,a,d⟩))
def over(a:List T)(f:List T):aa (List T):=
 @List.rec T (λ_=>List T->aa (List T)) (λa=>some a)
  (λe _ b a=>List.casesOn a none (λ_ c=>dU (b c) λd=>some (e::d))) f a
def kT(a:List T)(d:Nat)(g:List T):aa (List T):=
 @Nat.rec (λ_=>List T->aa (List T)) (λa=>over a g)
  (λ_ c a=>List.casesOn a none (λb e=>dU (c e) λf=>some (b::f))) d a
def Ty.isAgg(a:Ty):Bool:=match a.u with| .struct _| .array _ _=>true|_=>false
def UR(a:List T):T:=List.casesOn a .undef (λb _=>b)
def Ty.kf(a:Ty):T:=Bool.casesOn a.isAgg (UR a.zero) (.agg a.zero)
def kl(b:Ty)(a:List T):aa T:=
 Bool.casesOn b.isAgg (mm a 0) (dU (takeN b.size a) λc=>some (.agg c))
def H.elem(e:H)(a c i:Nat):aa T:=
 dU (e.get a) λx=>iZ.casesOn x λ_ d _ _ f b=>gD (Nat.beq d c) (Bool.casesOn f (mm b i) none)
def H.load(g:H)(b:Ty)(c:T):aa T:=
 match c with
 | .ptr d f h i=>dU (g.elem d f h) λe=>dU (jX i e.cells) λa=>kl b a
 | .jy a=>kl b a
 |_=>none
def mr(d:T)(a:Nat)(b:List T):aa T:=
 match d with
 | .agg c=>dU (kT c a b) λe=>some (.agg e)
 |_=>match a,b with
  |0,[f]=>some f
  |_,_=>none
def H.store(d:H)(o:Ty)(g f:T):aa H:=
 match g with
 | .ptr a j e m=>gD (Nat.beq (kW f.cells) o.size) (dU (d.get a) λr=>iZ.casesOn r λn c p exact l b=>
  gD (Nat.beq c j) (Bool.casesOn l (dU (mm b e) λh=>dU (mr h m f.cells) λi=>dU (kM b e i) λk=>
   dU (gY (Nat.succ p)) λq=>d.put a ⟨n,c,q,exact,false,k⟩) none))
 |_=>none
def H.jf(f:H)(k:T):aa (List T):=
 match k with
 | .dM e _=>some e
 | .gu=>some []
 | .arr a c i h _=>dU (f.get a) λl=>iZ.casesOn l λ_ d _ _ g b=>gD (Nat.beq d c) (Bool.casesOn g (dU (jX i b) λj=>takeN h j) none)
 |_=>none
def fits(c:Nat)(b:List T):Bool:=List.casesOn b true (λa _=>Nat.beq (kW a.cells) c)
def lJ(b:Nat)(exact:Bool)(a:List T):iZ:=⟨b,0,0,exact,false,a⟩
def H.jc(g:H)(a bytes:Nat)(d e:List T):aa (T×H):=
 dU (Ej d e) λb=>dU (gY (kW b)) λc=>
 gD (Nat.ble 1 bytes)<|gD (Nat.ble (Nat.mul c bytes) 70368744177664) (gD (fits a d) (gD (fits a e) (g.new (λf=> .arr f 0 0 c false) (lJ a false b))))
def H.mB(e:H)(g bytes a k o:Nat)(i:List T):aa (T×H):=
 dU (e.get a) λr=>iZ.casesOn r λh b p _ n j=>
  dU (takeN o j) λl=>dU (Ej l i) λd=>dU (gY (kW d)) λf=>
  gD (Nat.ble 1 bytes)<|gD (Nat.beq b k) (gD (Nat.beq h g) (gD (Nat.ble (Nat.mul f bytes) 70368744177664) (gD (fits g i) (Bool.casesOn n
   (dU (gY (Nat.succ b)) λc=>dU (gY (Nat.succ p)) λq=>
     dU (e.put a ⟨h,c,q,false,false,d⟩) λm=>some (.arr a c 0 f false,m)) none))))
def oX:T->Bool
 | .dM _ _| .gu| .arr .. =>true
 |_=>false
def H.append(a:H)(e bytes:Nat)(d:T)(b:List T):aa (T×H):=
 List.casesOn b (gD (oX d) (some (d,a))) λ_ _=>match d with
  | .dM c f=>List.casesOn c (a.jc e bytes [] b) λ_ _=>gD f (a.jc e bytes c b)
  | .arr g h j i f=>Bool.casesOn f
   (Nat.casesOn j (a.mB e bytes g h i b) λ_=>none)
   (dU (a.jf d) λc=>a.jc e bytes c b)
  |_=>none
def freeze(m:H)(p:Nat)(h:Nat):T->aa T:=
 @Nat.rec (λ_=>T->aa T) (λ_=>none) (λ_ e f=>match f with
  | .arr b i q o l=>gD (Nat.ble p b) (dU (m.get b) λr=>iZ.casesOn r λ_ j _ exact n c=>
   gD (Nat.beq j i) (Bool.casesOn n (dU (dU (jX q c) λa=>takeN o a) λk=>dU (fN e k) λd=>
    List.casesOn d (List.casesOn c (Bool.casesOn exact (some .gu) (some (.dM [] false))) λ_ _=>some .gu) λ_ _=>some (.dM d l)) none))
  | .agg g=>dU (fN e g) λa=>some (.agg a)
  | .bool _| .int _ _| .str _| .kx| .dM _ _| .gu| .kN| .kP=>some f
  |_=>none) h
def iJ(d:H)(c:Nat)(a:T):aa T:=
 match a with
 | .arr b _ _ _ _=>Bool.casesOn (Nat.ble c b) (some a) (freeze d c 12 a)
 | .ptr b _ _ _=>Bool.casesOn (Nat.ble c b) (some a) none
 | .map b=>Bool.casesOn (Nat.ble c b) (some a) none
 | .undef=>some a
 |_=>freeze d c 12 a
def ks(a:H)(b:Nat)(c:T):aa T:=
 match c with
 | .agg d=>dU (fN (iJ a b) d) λe=>some (.agg e)
 |_=>iJ a b c
def jm(a:H)(b:Nat)(c:T):aa T:=
 match c with
 | .tuple e=>dU (fN (ks a b) e) λd=>some (.tuple d)
 |_=>ks a b c
def kt(b:Nat):T->Bool
 | .arr a _ _ _ _=>Nat.blt a b
 | .ptr a _ _ _=>Nat.blt a b
 | .map a=>Nat.blt a b
 | .bool _| .int _ _| .str _| .kx| .dM _ _| .gu| .kN| .kP| .nU| .jy _=>true
 |_=>false
def below(b:Nat):T->Bool
 | .agg a=>wW (kt b) a
 | .func _ a=>wW (kt b) a
 | .tuple a=>wW (kt b) a
 |v=>kt b v
def sg(d:Nat)(b:Nat):List iZ->Bool:=
 @Nat.rec (λ_=>List iZ->Bool) (λ_=>true) (λ_ a c=>List.casesOn c true λf e=>Bool.casesOn (wW (below d) f.eY) false (a e)) b
def nl(c:Nat)(d:T)(f:H):aa (T×H):=
 H.casesOn f λe b a=>Bool.casesOn (Nat.blt b c) (some (d,⟨e,c,a⟩)) (some (d,⟨e,b,a⟩))
def ug(a c:Nat)(i e:T)(h:H):aa (T×H):=
 H.casesOn h λg b f=>dU (jX (Nat.sub g a) f) λd=>
  Bool.casesOn (Nat.ble a b)
   (Bool.casesOn (sg a (Nat.sub a b) d) (nl c i ⟨g,b,f⟩)
     (Bool.casesOn (Nat.blt b c) (some (e,⟨a,c,d⟩)) (some (e,⟨a,b,d⟩))))
   (some (e,⟨a,c,d⟩))
def Cz(e:Bool)(d c:Nat)(b:T)(a:H):aa (T×H):=
 Bool.casesOn e (Option.casesOn (jm a d b) (nl c b a) λf=>ug d c b f a) (nl c b a)
inductive fW where
 |nil
 |cons (s:Nat) (v:T) (r:fW)
 deriving Inhabited
structure Env where
 vars:fW
 tmps:fW
 deriving Inhabited
def dL(c:fW)(d:Nat):aa T:=
 @fW.rec (λ_=>aa T) none (λb e _ a=>Bool.rec a (some e) (Nat.beq b d)) c
def lV(e:fW)(b:Nat)(c:T):aa fW:=
 @fW.rec (λ_=>aa fW) (some (.cons b c .nil)) (λa h f d=>Bool.rec (dU d λg=>some (.cons a h g)) (some (.cons a c f)) (Nat.beq a b)) e
def kh(a b:Nat):Bool:=Nat.beq (Nat.land (Nat.shiftRight a b) 1) 1
def Env.get(c:Nat)(b:Env)(a:Nat):aa T:=
 Env.casesOn b λe d=>Bool.casesOn (kh c a) (dL d a) (dL e a)
def Env.set(g:Nat)(e:Env)(a:Nat)(c:T):aa Env:=
 Env.casesOn e λd b=>Bool.casesOn (kh g a) (some ⟨d,.cons a c b⟩) (dU (lV d a c) λf=>some ⟨f,b⟩)
def Env.dst(c:Nat)(a:Env)(b:aa Tmp)(e:T):aa Env:=
 Option.casesOn b (some a) λd=>a.set c d e
def Az(b:List UInt8):aa (List Nat):=fN (λa=>gY a.toNat) b
def oh:am->aa T
 | .bool a=>some (.bool a)
 | .int b d=>some (.int b d)
 | .string e=>dU (Az e.data.toList) λc=>some (.str c)
 | .pointer none=>some .kx
 | .map none=>some .nU
 | .slice none 0 0=>some (.dM [] false)
 | .nilFunc=>some .kN
 | .nilIface=>some .kP
 |_=>none
def yE:am->aa T
 | .agg a=>dU (fN oh a.toList) λb=>some (.agg b)
 |v=>oh v
def fP(cx:Ctx)(e:Nat)(b:Env)(f:ah):aa T:=
 Operand.casesOn f (λg=>b.get e g) (λh=>yE h) (λd=>dU (cx.gl d) λa=>some (.jy a)) (λc=>some (.func c []))
def p9(cx:Ctx)(c:Nat)(a:Env)(b:List ah):aa (List T):=fN (fP cx c a) b
def pV:T->aa Nat
 | .int _ b=>Int.casesOn b (λa=>some a) (λ_=>none)
 |_=>none
def r8(g:U)(c a:T):aa Bool:=
 match g with
 | .int _=>(match c with| .int e d=>(match a with| .int f b=>gD (Dx e f) (some (Rz d b))|_=>none)|_=>none)
 | .bool=>(match c with| .bool d=>(match a with| .bool b=>some (Bool.casesOn d (Bool.casesOn b true false) b)|_=>none)|_=>none)
 | .str=>(match c with| .str d=>(match a with| .str b=>some (UT d b)|_=>none)|_=>none)
 | .ptr _=>(match c with
  | .kx=>(match a with| .kx=>some true| .ptr .. | .jy _=>some false|_=>none)
  | .ptr .. | .jy _=>(match a with| .kx=>some false|_=>none)
  |_=>none)
 | .func=>(match c with
  | .kN=>(match a with| .kN=>some true| .func .. =>some false|_=>none)
  | .func .. =>(match a with| .kN=>some false|_=>none)
  |_=>none)
 | .iface=>(match c with
  | .kP=>(match a with| .kP=>some true| .iface .. =>some false|_=>none)
  | .iface .. =>(match a with| .kP=>some false|_=>none)
  |_=>none)
 |_=>none
def U.plain:U->Bool
 | .int _| .bool| .str=>true
 |_=>false
def eqFields(cx:Ctx)(f:List (Nat×ab)):Nat->List T->List T->aa Bool:=
 @List.rec (Nat×ab) (λ_=>Nat->List T->List T->aa Bool) (λ_ _ _=>some true)
  (λa _ g b d e=>List.casesOn d none λk h=>List.casesOn e none λl i=>gD (Nat.beq a.1 b) (dU (cx.ty a.2) λc=>gD c.u.plain
    (dU (r8 c.u k l) λj=>Bool.casesOn j (some false) (g (Nat.succ b) h i)))) f
def yR(f:U)(b:List T):List T->aa Bool:=
 @List.rec T (λ_=>List T->aa Bool) (λa=>List.casesOn a (some true) λ_ _=>none)
  (λg _ c a=>List.casesOn a none λh d=>dU (r8 f g h) λe=>Bool.casesOn e (some false) (c d)) b
def NG(cx:Ctx)(d:Ty)(e f:T):aa Bool:=
 match d.u with
 | .struct h=>(match e with
  | .agg a=>(match f with
   | .agg b=>gD d.cmp (eqFields cx h 0 a b)
   |_=>none)
  |_=>none)
 | .array i g=>(match e with
  | .agg a=>(match f with
   | .agg b=>gD d.cmp (dU (cx.ty g) λc=>gD c.u.plain (gD (Nat.beq c.size 1) (gD (Nat.beq (kW a) i) (yR c.u a b))))
   |_=>none)
  |_=>none)
 |u=>r8 u e f
def wS(f g:T)(d:ak->Int->Int->aa T):aa T:=
 match f with
 | .int a b=>(match g with| .int e c=>gD (Dx a e) (d a b c)|_=>none)
 |_=>none
def zr(f g:T)(d:ak->Int->Nat->aa T):aa T:=
 match f with
 | .int a b=>(match g with| .int _ c=>Int.casesOn c (λe=>d a b (min e a.bits)) (λ_=>none)|_=>none)
 |_=>none
def Kn(h c:T)(d:Int->Int->Bool)(e:List Nat->List Nat->Bool):aa T:=
 match h with
 | .int f a=>(match c with| .int g b=>gD (Dx f g) (xa (d a b))|_=>none)
 | .str a=>(match c with| .str b=>xa (e a b)|_=>none)
 |_=>none
def TF(d e:T):aa T:=
 match d with
 | .str a=>(match e with
  | .str b=>dU (Ej a b) λc=>gD (Nat.ble (kW c) 4294967296) (some (.str c))
  |_=>none)
 |_=>wS d e λf a b=>pY f (a+b)
def binop:BinOp->T->T->aa T
 | .add=>TF
 | .sub=>λd e=>wS d e λc a b=>pY c (a-b)
 | .mul=>λd e=>wS d e λc a b=>pY c (a*b)
 | .quo=>λd e=>wS d e λc a b=>Bool.casesOn (Rz b 0) (pY c (a.tdiv b)) none
 | .rem=>λd e=>wS d e λc a b=>Bool.casesOn (Rz b 0) (xE c (a.tmod b)) none
 | .and=>λd e=>wS d e λc a b=>xE c (c.wrap (BitVec.ofInt c.bits a&&&BitVec.ofInt c.bits b).toNat)
 | .or=>λd e=>wS d e λc a b=>xE c (c.wrap (BitVec.ofInt c.bits a|||BitVec.ofInt c.bits b).toNat)
 | .xor=>λd e=>wS d e λc a b=>xE c (c.wrap (BitVec.ofInt c.bits a^^^BitVec.ofInt c.bits b).toNat)
 | .shl=>λd e=>zr d e λc a f=>xE c (c.wrap (a*2^f))
 | .shr=>λd e=>zr d e λc a f=>xE c (a.fdiv (2^f))
 | .lss=>λd e=>Kn d e Lg Ry
 | .leq=>λd e=>Kn d e (λa b=> !Lg b a) (λa b=> !Ry b a)
 | .gtr=>λd e=>Kn d e (λa b=>Lg b a) (λa b=>Ry b a)
 | .geq=>λd e=>Kn d e (λa b=> !Lg a b) (λa b=> !Ry a b)
 |_=>λ_ _=>none
def unop:UnOp->T->aa T
 | .neg=>λa=>(match a with| .int c d=>pY c (0-d)|_=>none)
 | .not=>λa=>(match a with| .bool b=>Bool.casesOn b (some (.bool true)) (some (.bool false))|_=>none)
 |_=>λ_=>none
def conv(cx:Ctx)(c:ab)(a:T):aa T:=
 dU (cx.ty c) λb=>match b.u with
  | .int d=>(match a with| .int _ n=>pY d n|_=>none)
  | .str=>(match a with| .str e=>some (.str e)|_=>none)
  |_=>none
def Df(cx:Ctx)(d:ab)(i:T):aa T:=
 dU (cx.ty d) λc=>match c.u with
  | .slice e=>(match i with
   | .str a=>dU (cx.ty e) λh=>(match h.u with
    | .int g=>gD (Dx g .u8) (List.casesOn a (some .gu) λ_ _=>dU (fN (λb=>some (T.int .u8 (.ofNat b))) a) λf=>some (.dM f false))
    |_=>none)
   |_=>none)
  |_=>none
def wL(cx:Ctx)(c:ab)(a:Nat):aa (Nat×ab):=
 dU (cx.ty c) λd=>match d.u with| .struct b=>mm b a|_=>none
def mG(f:Nat->aa (Nat×Nat))(g:List (Nat×T)):List T->aa (List T):=
 @List.rec (Nat×T) (λ_=>List T->aa (List T)) (λa=>some a)
  (λb _ e a=>dU (f b.1) λc=>gD (Nat.beq (kW b.2.cells) c.2) (dU (kT a c.1 b.2.cells) λd=>e d)) g
def pL(h:Nat)(g:List (Nat×T)):List T->aa (List T):=
 @List.rec (Nat×T) (λ_=>List T->aa (List T)) (λa=>some a)
  (λf _ e a=>two f λd b=>gD (Nat.beq (kW b.cells) h) (dU (kM a d b) λc=>e c)) g
def partsOf(cx:Ctx)(e:Nat)(b:Env)(d:List (Nat×ah)):aa (List (Nat×T)):=
 fN (λg=>two g λc f=>dU (fP cx e b f) λa=>gD a.il (some (c,a))) d
def jP(cx:Ctx)(b:Nat)(a:Env)(f:aa ah):aa (aa Nat):=
 Option.casesOn f (some none) λd=>dU (fP cx b a d) λe=>dU (pV e) λc=>some (some c)
def f7(c:aa Nat)(a:Nat):Nat:=Option.casesOn c a λb=>b
def Kl{b:Type}(d:List b)(a c:Nat):aa (List b):=dU (jX a d) λe=>takeN (Nat.sub c a) e
def tN(c:List T)(e:Bool)(d a:Nat)(g:aa Nat):aa T:=
 gD (Nat.ble d a) (dU (Kl c d a) λb=>Option.casesOn g
  (List.casesOn b (List.casesOn c (some (.dM [] false)) λ_ _=>some .gu) λ_ _=>some (.dM b (Bool.casesOn e false (Nat.beq a (kW c)))))
  λf=>gD (Nat.beq f a) (List.casesOn b (some (.dM [] false)) λ_ _=>some (.dM b true)))
def vz(b c k g:Nat)(h:Bool)(e a:Nat)(j:aa Nat):aa T:=
 gD (Nat.ble e a) (gD (Nat.ble a g) (dU (gY (Nat.add k e)) λf=>dU (gY (Nat.sub a e)) λd=>Option.casesOn j
  (Bool.casesOn h (some (.arr b c f d false)) (gD (Nat.beq a g) (some (.arr b c f d true))))
  λi=>gD (Nat.beq i a) (some (.arr b c f d true))))
def po(m:T)(b a c:aa Nat):aa T:=
 match m with
 | .str e=>Option.casesOn c (gD (Nat.ble (f7 b 0) (f7 a (kW e))) (dU (Kl e (f7 b 0) (f7 a (kW e))) λl=>some (.str l))) λ_=>none
 | .dM f d=>tN f d (f7 b 0) (f7 a (kW f)) c
 | .gu=>gD (Nat.beq (f7 b 0) 0) (gD (Nat.beq (f7 a 0) 0) (Option.casesOn c (some .gu) λj=>gD (Nat.beq j 0) (some (.dM [] false))))
 | .arr h i k g d=>vz h i k g d (f7 b 0) (f7 a g) c
 |_=>none
inductive lN where
 |val (v:T) (h:H)
 |call (f:aj) (args:List T)
 deriving Inhabited
def val(a:H)(c:aa T):aa lN:=dU c λb=>some (.val b a)
def jA(d:aa (T×H)):aa lN:=dU d λb=>two b λc a=>some (.val c a)
abbrev Hd:=Ctx->Nat->Env->H->aa lN
def CL(d:ah):Hd:=λcx c a b=>val b (fP cx c a d)
def EU(a e f:ah):Hd:=λcx c b d=>
 dU (fP cx c b a) λa=>match a with
  | .bool g=>Bool.casesOn g (val d (fP cx c b f)) (val d (fP cx c b e))
  |_=>none
def wJ(cx:Ctx)(d:Ty):Bool:=
 match d.u with
 | .array _ a=>Option.casesOn (cx.ty a) false λc=>(match c.u with| .int b=>Dx b .u8|_=>false)
 |_=>false
def CP(d:ab):Hd:=λcx _ _ c=>dU (cx.ty d) λa=>Bool.casesOn (wJ cx a)
 (jA (c.new (λb=> .ptr b 0 0 0) (lJ a.size true [a.kf])))
 (jA (c.new (λb=> .ptr b 0 0 0) (lJ 1 true a.zero)))
def M5(f:ah):Hd:=λcx e c d=>dU (fP cx e c f) λa=>gD a.il (jA (d.new (λb=> .ptr b 0 0 0) (lJ (kW a.cells) true [a])))
def Aq(m:ab)(l:af (Nat×ah)):Hd:=λcx k h e=>
 dU (cx.ty m) λc=>dU (partsOf cx k h l.toList) λf=>match c.u with
  | .struct j=>dU (mG (λb=>dU (mm j b) λd=>dU (cx.ty d.2) λn=>some (d.1,n.size)) f c.zero) λa=>val e (some (.agg a))
  | .array _ i=>dU (cx.ty i) λg=>dU (mG (λb=>some (Nat.mul b g.size,g.size)) f c.zero) λa=>val e (some (.agg a))
  |_=>none
def oz(k:ab)(b:Nat)(i:af (Nat×ah)):Hd:=λcx h d g=>
 dU (cx.ty k) λl=>match l.u with
  | .slice e=>dU (cx.ty e) λa=>dU (partsOf cx h d i.toList) λj=>
   gD (Nat.ble 1 a.size)<|gD (Nat.ble (Nat.mul b a.size) 65536) (dU (pL a.size j (py a.kf b)) λf=>
    jA (g.new (λc=> .arr c 0 0 b false) (lJ a.size true f)))
  |_=>none
def H7(e:ab)(a:ah):Hd:=λcx d c b=>dU (cx.ty e) λf=>dU (fP cx d c a) λa=>val b (b.load f a)
def CH(g:ab)(a i:ah):Hd:=λcx c b e=>
 dU (cx.ty g) λh=>dU (fP cx c b a) λa=>dU (fP cx c b i) λd=>gD d.il (dU (e.store h a d) λf=>some (.val .undef f))
def ry(e:ah):Hd:=λcx d b c=>dU (fP cx d b e) λa=>match a with
 | .ptr .. | .jy _| .func .. =>some (.val a c)
 |_=>none
def AS(c d:ah)(a b:T):Bool:=
 match a with
 | .kP=>(match b with| .kP=>Region.isConst c||Region.isConst d|_=>true)
 |_=>true
def Wq(i:Bool)(j:ab)(f g:ah):Hd:=λcx d c h=>
 dU (cx.ty j) λk=>dU (fP cx d c f) λa=>dU (fP cx d c g) λb=>
  gD (AS f g a b) (dU (NG cx k a b) λe=>val h (xa (Bool.casesOn i e (!e))))
def M6(f:BinOp)(g h:ah):Hd:=λcx b a e=>
 dU (fP cx b a g) λc=>dU (fP cx b a h) λd=>val e (binop f c d)
def hUn(e:UnOp)(f:ah):Hd:=λcx d b c=>dU (fP cx d b f) λa=>val c (unop e a)
def byteOf(d:T):aa Nat:=match d with
 | .int b c=>gD (Dx b .u8) (Int.casesOn c (λa=>gD (Nat.blt a 256) (some a)) (λ_=>none))
 |_=>none
def GY(cx:Ctx)(d:H)(g:ab)(i:T):aa T:=
 dU (cx.ty g) λf=>match f.u with
  | .slice b=>dU (cx.ty b) λh=>(match h.u with
   | .int e=>gD (Dx e .u8) (dU (d.jf i) λc=>dU (fN byteOf c) λa=>gD (Nat.ble (kW a) 4294967296) (some (.str a)))
   |_=>none)
  |_=>none
def Lj(d c:ab)(h:ah):Hd:=λcx g f b=>dU (cx.ty d) λ_=>dU (fP cx g f h) λa=>
 dU (cx.ty c) λe=>match e.u with
  | .slice _=>val b (Df cx c a)
  | .str=>(match a with
   | .str _=>val b (conv cx c a)
   |_=>val b (GY cx b d a))
  |_=>val b (conv cx c a)
def An(b:ab)(g:ah):Hd:=λcx e c d=>dU (cx.ty b) λf=>match f.u with
 | .iface=>none
 |_=>dU (fP cx e c g) λa=>gD a.il (val d (some (.iface b a)))
def CM(e:Fn)(first a:af ah):Hd:=λcx g c f=>match e with
 | .func d=>(match first.toList with
  | []=>dU (p9 cx g c a.toList) λb=>val f (some (.func d b))
  |_=>none)
 |_=>none
def pH(i:ab)(a b:ah):Hd:=λcx e d h=>dU (cx.ty i) λj=>match j.u with
 | .slice g=>dU (cx.ty g) λc=>dU (fP cx e d a) λa=>dU (fP cx e d b) λb=>dU (pV a) λa=>dU (pV b) λb=>
  gD (Nat.ble 1 c.size)<|gD (Nat.ble 1 c.bytes)<|gD (Nat.ble a b) (gD (Nat.ble (Nat.mul b c.bytes) 70368744177664) (jA (h.new (λf=> .arr f 0 0 a false) (lJ c.size (Nat.beq a b) (py c.kf a)))))
 |_=>none
def yG(a b:aa Nat):Bool:=Option.casesOn b true λ_=>Option.casesOn a false λ_=>true
def jr(cx:Ctx)(f:H)(p:U)(e:T):Bool:=
 match p with
 | .str=>(match e with| .str _=>true|_=>false)
 | .slice d=>Option.casesOn (cx.ty d) false λa=>(match e with
  | .dM j _=>fits a.size j
  | .gu=>true
  | .arr b _ _ _ _=>Option.casesOn (f.get b) false λc=>Nat.beq c.sz a.size
  |_=>false)
 | .array n d=>Option.casesOn (cx.ty d) false λa=>(match e with
  | .ptr b h k m=>Option.casesOn (f.get b) false λc=>iZ.casesOn c λo i _ exact l g=>
   Nat.beq o a.size&&Nat.beq i h&&Nat.beq k 0&&Nat.beq m 0&&exact&& !l&&Nat.beq (kW g) n
  |_=>false)
 |_=>false
def asSlice(e:U)(a:T):T:=match e with
 | .array d _=>(match a with| .ptr b c _ _=> .arr b c 0 d false|_=>a)
 |_=>a
def CI(i:ab)(e:ah)(f b d:aa ah):Hd:=λcx c a g=>dU (cx.ty i) λh=>
 dU (fP cx c a e) λe=>gD (jr cx g h.u e)<|dU (jP cx c a f) λf=>dU (jP cx c a b) λb=>dU (jP cx c a d) λd=>gD (yG b d) (val g (po (asSlice h.u e) f b d))
def pJ(n:ab)(a:ah)(i:Nat):Hd:=λcx m g c=>dU (wL cx n i) λb=>dU (fP cx m g a) λa=>match a with
 | .ptr d h j k=>dU (gY (Nat.add k b.1)) λl=>some (.val (.ptr d h j l) c)
 | .jy e=>dU (jX b.1 e) λf=>some (.val (.jy f) c)
 |_=>none
def Ap(i:ab)(a:ah)(e:Nat):Hd:=λcx g d f=>
 dU (wL cx i e) λb=>dU (cx.ty b.2) λj=>dU (fP cx g d a) λa=>match a with
  | .agg c=>dU (jX b.1 c) λh=>val f (kl j h)
  |_=>none
def kK(a:H)(f:Ty)(l:T)(b:Nat):aa lN:=
 match l with
 | .dM h _=>dU (mm h b) λg=>gD (Nat.beq (kW g.cells) f.size) (some (.val (.jy g.cells) a))
 | .arr c e k j _=>gD (Nat.blt b j) (dU (a.get c) λd=>gD (Nat.beq d.sz f.size)<|gD (Nat.beq d.ep e) (dU (gY (Nat.add k b)) λi=>some (.val (.ptr c e i 0) a)))
 |_=>none
def oY(a:H)(m:Nat)(d:Ty)(n:T)(b:Nat):aa lN:=
 gD (Nat.blt b m) (match n with
  | .ptr c e f g=>dU (a.get c) λh=>Bool.casesOn (Nat.beq h.sz d.size)
   (dU (gY (Nat.add g (Nat.mul b d.size))) λl=>some (.val (.ptr c e f l) a))
   (gD (Nat.beq g 0) (dU (gY (Nat.add f b)) λk=>some (.val (.ptr c e k 0) a)))
  | .jy i=>dU (jX (Nat.mul b d.size) i) λj=>some (.val (.jy j) a)
  |_=>none)
def pI(j:ab)(a c:ah):Hd:=λcx h e f=>
 dU (cx.ty j) λk=>dU (fP cx h e a) λa=>dU (fP cx h e c) λc=>dU (pV c) λg=>match k.u with
  | .slice b=>dU (cx.ty b) λd=>kK f d a g
  | .array i b=>dU (cx.ty b) λd=>oY f i d a g
  |_=>none
def Am(n:ab)(a c:ah):Hd:=λcx f d e=>
 dU (cx.ty n) λo=>dU (fP cx f d a) λa=>dU (fP cx f d c) λc=>dU (pV c) λb=>match o.u with
  | .str=>(match a with| .str m=>dU (mm m b) λh=>val e (some (.int .u8 (.ofNat h)))|_=>none)
  | .array k j=>(match a with
   | .agg i=>dU (cx.ty j) λg=>gD (Nat.blt b k) (dU (jX (Nat.mul b g.size) i) λl=>val e (kl g l))
   |_=>none)
  |_=>none
def um(g:ah)(c:Nat):Hd:=λcx d a b=>dU (fP cx d a g) λe=>match e with| .tuple f=>val b (mm f c)|_=>none
def CJ(g:ah):Hd:=λcx d b c=>dU (fP cx d b g) λf=>match f with
 | .str e=>jA (c.new (λa=> .iter a) ⟨1,0,0,true,true,[.str e,.int .i64 0]⟩)
 |_=>none
def yL(d:ab)(f:ah):Hd:=λcx c a b=>dU (cx.ty d) λe=>match e.u with
 | .str=>CJ f cx c a b
 |_=>none
def yF(c:List Nat)(b:Nat):aa (Nat×Nat):=dU (mm c b) λa=>Bool.casesOn (Nat.blt a 128) (Bool.casesOn (Nat.blt a 256) (some (65533,1)) (some (Utf8.decode ⟨(c.map UInt8.ofNat).toArray⟩ b))) (some (a,1))
def Aj(i:ah):Hd:=λcx j g c=>(dU (fP cx j g i) λm=>match m with
 | .iter e=>dU (c.get e) λa=>gD a.it (match a.eY with
  | [.str d,.int _ (.ofNat b)]=>Bool.casesOn (Nat.blt b (kW d)) (some (.val (.tuple [.bool false]) c))
   (dU (yF d b) λl=>two l λf wd=>dU (gY (Nat.add b wd)) λk=>dU (gY (Nat.succ a.ver)) λn=>
     dU (c.put e ⟨a.sz,a.ep,n,a.exact,true,[.str d,.int .i64 (.ofNat k)]⟩) λh=>
      some (.val (.tuple [.bool true,.int .i64 (.ofNat b),.int .i32 (.ofNat f)]) h))
  |_=>none)
 |_=>none)
def H5(d:ah)(c:Bool):Hd:=λcx e a b=>Bool.casesOn c none (Aj d cx e a b)
def Np(cx:Ctx)(a:H)(h:List ab)(c:T):aa lN:=
 dU (mm h 0) λg=>dU (cx.ty g) λi=>match i.u with
  | .str=>(match c with
   | .str f=>val a (dU (gY (kW f)) λb=>some (.int .i64 (.ofNat b)))
   |_=>none)
  | .slice _=>(match c with
   | .dM d _=>val a (dU (gY (kW d)) λb=>some (.int .i64 (.ofNat b)))
   | .gu=>val a (some (.int .i64 0))
   | .arr _ _ _ e _=>val a (some (.int .i64 (.ofNat e)))
   |_=>none)
  | .array b _=>val a (some (.int .i64 (.ofNat b)))
  |_=>none
def pM(cx:Ctx)(b:ab):aa Ty:=
 dU (cx.ty b) λc=>match c.u with| .slice a=>cx.ty a|_=>none
def mV(cx:Ctx)(d:H)(e:ab)(a:T):aa (List T):=
 dU (cx.ty e) λf=>match f.u with
  | .str=>(match a with| .str b=>fN (λc=>some (T.int .u8 (.ofNat c))) b|_=>none)
  | .slice _=>d.jf a
  |_=>none
def iO(cx:Ctx)(b:H)(e f:ab)(d g:T):aa lN:=
 dU (pM cx e) λa=>dU (mV cx b f g) λc=>gD (fits a.size c) (jA (b.append a.size a.bytes d c))
def Di(cx:Ctx)(a:H)(n:ab)(q:T):aa lN:=
 dU (pM cx n) λg=>match q with
  | .dM b _=>List.casesOn b (some (.val .undef a)) λ_ _=>none
  | .gu=>some (.val .undef a)
  | .arr c j m e _=>Nat.casesOn e (some (.val .undef a)) λ_=>dU (a.get c) λh=>iZ.casesOn h λf d o exact l i=>
   gD (Nat.beq d j)<|gD (Nat.beq f g.size) (Bool.casesOn l
    (dU (kT i m (py g.kf e)) λb=>dU (gY (Nat.succ o)) λp=>
      dU (a.put c ⟨f,d,p,exact,false,b⟩) λk=>some (.val .undef k)) none)
  |_=>none
def lA:Builtin->Ctx->H->List ab->List T->aa lN
 | .clear=>λcx b f a=>(match a with| [c]=>(match f with| [h]=>Di cx b h c|_=>none)|_=>none)
 | .len=>λcx b f a=>(match a with| [c]=>Np cx b f c|_=>none)
 | .append=>λcx b f a=>(match a with| [j,c]=>(match f with| [h,k]=>iO cx b h k j c|_=>none)|_=>none)
 | .min=>λ_ b _ a=>(match a with| [c,i]=>val b (wS c i λg d e=>xE g (Bool.casesOn (Lg e d) d e))|_=>none)
 | .max=>λ_ b _ a=>(match a with| [c,i]=>val b (wS c i λg d e=>xE g (Bool.casesOn (Lg d e) d e))|_=>none)
 |_=>λ_ _ _ _=>none
def CO(a:Call):Hd:=λcx e d h=>dU (p9 cx e d a.args.toList) λc=>match a.callee with
 | .builtin f=>lA f cx h a.argTypes.toList c
 | .value b=>dU (fP cx e d b) λj=>(match j with
  | .func b g=>dU (Ej c g) λi=>some (.call b i)
  |_=>none)
 |_=>none
def jp:Op->Hd
 | .move a=>CL a
 | .assign a=>CL a
 | .pick d c g=>EU d c g
 | .alloc b=>CP b
 | .box _ a=>M5 a
 | .build b i=>Aq b i
 | .buildSlice b q i=>oz b q i
 | .load b c=>H7 b c
 | .store b c a=>CH b c a
 | .nilCheck a=>ry a
 | .binOp f b a j _=>(match f with| .eql=>Wq false b a j| .neq=>Wq true b a j|_=>M6 f a j)
 | .unOp f _ a=>hUn f a
 | .convert s k a=>Lj s k a
 | .makeInterface b a=>An b a
 | .makeFunc l c g=>CM l c g
 | .makeSlice b n d=>pH b n d
 | .slice b a o m p=>CI b a o m p
 | .fieldAddr b a h=>pJ b a h
 | .field b a h=>Ap b a h
 | .indexAddr b a e=>pI b a e
 | .index b a e=>Am b a e
 | .extract a e=>um a e
 | .makeMap .. =>λ_ _ _ _=>none
 | .lookup .. =>λ_ _ _ _=>none
 | .mapUpdate .. =>λ_ _ _ _=>none
 | .range b a=>yL b a
 | .next it r=>H5 it r
 | .entry _=>λ_ _ _ _=>none
 | .call d=>CO d
 |_=>λ_ _ _ _=>none
def A7(e:ai):TypeDesc->aa U
 | .int c=>some (.int c)
 | .bool=>some .bool
 | .string=>some .str
 | .slice a=>some (.slice a)
 | .array g a=>some (.array g a)
 | .struct d=>if d.toList.all (λb=>(e.info? b.type).any λf=> !(f.size==0))then some (.struct (d.toList.map λb=>(b.offset,b.type)))else none
 | .pointer a=>some (.ptr a)
 | .map c a=>some (.map c a)
 | .func _ _ _=>some .func
 | .interface _=>some .iface
 |_=>some .other
def tH(a:TypeDesc)(b:am):Bool:=
 match a,b with
 | .struct _,.agg _| .array _ _,.agg _=>true
 | .struct _,_| .array _ _,_|_,.agg _=>false
 |_,_=>true
def Le:TypeDesc->Bool
 | .struct b=>b.toList.all λa=>a.name != "_"
 |_=>true
def Vl(a:ai)(c:ab)(e:Bool):aa Ty:=
 dU (a.info? c) λb=>dU (a.underlying c) λd=>dU b.zero λf=>dU (fN oh f.cells.toList) λg=>dU (A7 a d) λh=>
  gD (tH d f) (gD (Nat.beq (kW g) b.size) (gD (Bool.casesOn e true (!a.stoodInHeld c&& !a.eqGuardType a.depth c&&Le d)) (some ⟨h,b.size,b.bytes,e,g⟩)))
abbrev iY:=aj->List T->H->aa (T×H)
def kw(i:af Oper)(g:Nat)(d:Env)(e:aa (Nat×Bool)):aa Bool:=
 Option.casesOn e (some true) λj=>two j λf a=>dU (dU (dU (mm i.toList f) λh=>h.dst) λc=>d.get g c) λk=>
  match k with
  | .bool b=>some (Bool.casesOn b (Bool.casesOn a true false) a)
  |_=>some false
def lH(cx:Ctx)(call:iY)(c:Nat)(k:af Oper)(a:Env)(e:H)(d:Oper):aa (Env×H):=
 dU (kw k c a d.guard) λm=>Bool.casesOn m
  (dU (a.dst c d.dst .undef) λb=>some (b,e))
  (dU (jp d.op cx c a e) λi=>lN.casesOn i
    (λg f=>dU (a.dst c d.dst g) λb=>some (b,f))
    (λj h=>dU (call j h e) λl=>two l λg f=>dU (a.dst c d.dst g) λb=>some (b,f)))
def kA(cx:Ctx)(call:iY)(g:Nat)(i:af Oper)(f:List Oper):Env->H->aa (Env×H):=
 @List.rec Oper (λ_=>Env->H->aa (Env×H)) (λa b=>some (a,b))
  (λh _ e a b=>dU (lH cx call g i a b h) λj=>two j λc d=>e c d) f
def dS:T->aa Nat
 | .ptr a _ _ _=>some a
 | .arr a _ _ _ _=>some a
 | .map a=>some a
 |_=>none
def gG(cx:Ctx)(d:Nat)(b:Env)(c:H)(e:Op):aa Nat:=
 match e with
 | .load _ a=>dU (fP cx d b a) dS
 | .indexAddr _ a _=>dU (fP cx d b a) dS
 | .slice _ a _ _ _=>dU (fP cx d b a) dS
 | .convert _ _ a=>dU (fP cx d b a) dS
 | .lookup _ a _ _=>dU (fP cx d b a) dS
 | .makeMap _ _=>some c.size
 | .alloc _=>some c.size
 | .box _ _=>some c.size
 | .buildSlice _ _ _=>some c.size
 | .makeSlice _ _ _=>some c.size
 |_=>none
def iC:Op->Bool
 | .store .. =>true
 | .call b=>(match b.callee with
  | .builtin a=>(match a with| .len| .min| .max=>false|_=>true)
  |_=>true)
 | .next .. =>true
 | .range .. =>true
 | .entry .. =>true
 | .mapUpdate .. =>true
 |_=>false
structure Seen where
 mv:List (Nat×Nat)
 kZ:List (Nat×H×H)
def wP(c:List Nat)(d:List Edge):Nat:=
 d.foldr (λa b=>Bool.casesOn (Region.binds .any a) b (Nat.lor b (Nat.lor (Nat.shiftLeft 1 a.on) (c.getD a.on 0)))) 0
def Kw:List Oper->List Nat->List Nat
 | [],a=>a
 |o::b,a=>Kw b (a++[wP a o.after.toList])
def jL(c:af Oper)(a b:Nat):Bool:=((Kw c.toList []).getD b 0).testBit a
def fc(b c:H)(a:Nat):Bool:=
 Option.casesOn (b.get a) true λd=>Option.casesOn (c.get a) false λe=>Nat.beq d.ver e.ver
def ot(e:af Oper)(c b:Nat)(d:List (Nat×H×H)):Bool:=
 wW (λa=>Bool.casesOn (fc a.2.1 a.2.2 b) (jL e a.1 c) true) d
def xl(f:af Oper)(d:Nat)(b c:H)(e:List (Nat×Nat)):Bool:=
 wW (λa=>Bool.casesOn (fc b c a.2) (jL f a.1 d) true) e
def qO(cx:Ctx)(e:Nat)(g:af Oper)(c:Nat)(b:Env)(d:List (Nat×H×H))(f:Op):Bool:=
 match f with
 | .store _ h _=>Option.casesOn (dU (fP cx e b h) dS) true λa=>ot g c a d
 |_=>true
def j2(cx:Ctx)(call:iY)(j:Nat)(g:af Oper)(l:List Oper):Nat->Seen->Env->H->aa (Env×H):=
 @List.rec Oper (λ_=>Nat->Seen->Env->H->aa (Env×H)) (λ_ _ c d=>some (c,d))
  (λf _ i a b c d=>dU (lH cx call j g c d f) λm=>two m λh e=>
    dU (kw g j c f.guard) λn=>Bool.casesOn n (i (Nat.succ a) b h e)
     (Bool.casesOn (iC f.op)
       (Option.casesOn (gG cx j c d f.op) (i (Nat.succ a) b h e)
         λk=>gD (ot g a k b.kZ) (i (Nat.succ a) ⟨(a,k)::b.mv,b.kZ⟩ h e))
       (gD (xl g a d e b.mv) (gD (qO cx j g a c b.kZ f.op) (i (Nat.succ a) ⟨b.mv,(a,d,e)::b.kZ⟩ h e))))) l
inductive Ex where
 |normal|exit (id:Nat)|ret
 deriving Inhabited
abbrev Out:=aa (Ex×Env×H)
def three{a:Type}(e:Ex×Env×H)(c:Ex->Env->H->a):a:=Prod.casesOn e λg f=>Prod.casesOn f λb d=>c g b d
def ox(c:Env->H->Out)(h:Nat):Env->H->Out:=
 @Nat.rec (λ_=>Env->H->Out) (λ_ _=>none)
  (λ_ g d e=>dU (c d e) λi=>three i λj a b=>Ex.casesOn j (g a b) (λf=>some (.exit f,a,b)) (some (.ret,a,b))) h
def KV(cx:Ctx)(call:iY)(g:Nat)(a:af Oper)(i:Bool)(j:Env)(f:H):Out:=
 Env.casesOn j λh _=>Bool.casesOn i
  (dU (kA cx call g a a.toList ⟨h,.nil⟩ f) λd=>two d λb c=>some (.normal,Env.casesOn b λe _=>⟨e,.nil⟩,c))
  (dU (j2 cx call g a a.toList 0 ⟨[],[]⟩ ⟨h,.nil⟩ f) λd=>two d λb c=>some (.normal,Env.casesOn b λe _=>⟨e,.nil⟩,c))
def B0(c d:Env->H->Out)(e:Env)(f:H):Out:=
 dU (c e f) λh=>three h λi a b=>Ex.casesOn i (d a b) (λg=>some (.exit g,a,b)) (some (.ret,a,b))
def Il(cx:Ctx)(f:Nat)(e:ah)(c d:Env->H->Out)(a:Env)(b:H):Out:=
 dU (fP cx f a e) λh=>match h with
  | .bool g=>Bool.casesOn g (d a b) (c a b)
  |_=>none
def x8(id:Nat)(d:Env->H->Out)(e:Env)(f:H):Out:=
 dU (d e f) λg=>three g λh a b=>Ex.casesOn h (some (.normal,a,b)) (λc=>Bool.casesOn (Nat.beq c id) (some (.exit c,a,b)) (some (.normal,a,b))) (some (.ret,a,b))
def j4(cx:Ctx)(call:iY)(c a:Nat):Code->Env->H->Out
 | .skip=>λd e=>some (.normal,d,e)
 | .region _ i h=>KV cx call a i h
 | .seq f b=>B0 (j4 cx call c a f) (j4 cx call c a b)
 | .cond g f b=>Il cx a g (j4 cx call c a f) (j4 cx call c a b)
 | .block id b=>x8 id (j4 cx call c a b)
 | .loop b=>ox (j4 cx call c a b) c
 | .exit id=>λd e=>some (.exit id,d,e)
 | .ret=>λd e=>some (.ret,d,e)
 |_=>λ_ _=>none
def mw(g:Nat)(h:Nat):Nat->List T->aa fW:=
 @Nat.rec (λ_=>Nat->List T->aa fW) (λ_ _=>some .nil)
  (λ_ c a f=>dU (gY (Nat.succ a)) λb=>List.casesOn f
    (Bool.casesOn (kh g a) (c b []) (dU (c b []) λd=>some (.cons a .undef d)))
    λe i=>dU (c b i) λd=>some (.cons a e d)) h
def mX(cx:Ctx)(c:Nat)(b:Env)(e:H)(f:List ResultVar):aa (List T):=
 fN (λh=>ResultVar.casesOn h (λa=>b.get c a) (λd a=>dU (b.get c d) λg=>dU (cx.ty a) λi=>e.load i g)) f
def vY(b:Nat)(e:List Nat):Nat->aa Int:=
 @List.rec Nat (λ_=>Nat->aa Int) (λ_=>some (.negSucc 0))
  (λf _ d a=>Bool.casesOn (Nat.beq f b) (dU (gY (Nat.succ a)) λc=>d c) (some (.ofNat a))) e
def Cc(f:Prim)(b:List T)(a:H):aa (T×H):=
 match f with
 | .nZ=>(match b with
  | [.str g,.int .u8 (.ofNat c)]=>gD (Nat.blt c 256) (dU (vY c g 0) λe=>some (.int .i64 e,a))
  |_=>none)
 | .clone h bytes=>(match b with
  | [i]=>dU (a.jf i) λd=>List.casesOn d (some (.dM [] false,a)) λ_ _=>a.jc h bytes [] d
  |_=>none)
def jK(a:List T):T:=match a with| [b]=>b|_=> .tuple a
def sX(cx:Ctx)(call:iY)(l:Nat)(a:Func)(c:Nat)(g:Bool)(i:List T)(m:H):aa (T×H):=
 Option.casesOn a.body none λj=>H.casesOn m λd h k=>
  dU (mw c a.ntmps 0 i) λo=>
  dU (j4 cx call l c j ⟨o,.nil⟩ ⟨d,d,k⟩) λn=>three n λp f b=>Ex.casesOn p
   (dU (mX cx c f b a.results.toList) λe=>Cz g d h (jK e) b)
   (λ_=>none)
   (dU (mX cx c f b a.results.toList) λe=>Cz g d h (jK e) b)
end
end Go.TI
