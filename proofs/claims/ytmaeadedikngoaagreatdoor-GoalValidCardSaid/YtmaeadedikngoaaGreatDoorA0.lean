/- Texts TiDefs to TiDefs. -/
import GoSem.Step
set_option linter.unusedVariables false
set_option linter.unusedSimpArgs false
set_option linter.defProp false
namespace Go.TI
theorem dj{p:Prop}(h:p:=by omega):p:=h
theorem dp{p:Prop}(h:p:=by simp):p:=h
theorem dq{p:Prop}(h:p:=by (simp;omega)):p:=h
theorem dt{p:Prop}(h:p:=by (simp only;omega)):p:=h
theorem du{p:Prop}(h:p:=by decide):p:=h
end Go.TI
namespace Go.TI
abbrev aa:=@Option
abbrev ab:=@TypeId
abbrev af:=@Array
abbrev ah:=@Operand
abbrev ai:=@Program
abbrev aj:=@FuncId
abbrev ak:=@IntKind
abbrev am:=@Value
theorem ao:type_of% @if_neg:=@if_neg
theorem aq:type_of% @if_pos:=@if_pos
theorem ar:type_of% @Option.some.injEq:=@Option.some.injEq
theorem au:type_of% @Nat.le_refl:=@Nat.le_refl
theorem aw:type_of% @Nat.zero_le:=@Nat.zero_le
theorem ax:type_of% @List.mem_of_getElem?:=@List.mem_of_getElem?
theorem ay:type_of% @Prod.mk.injEq:=@Prod.mk.injEq
theorem az:type_of% @List.getElem?_eq_getElem:=@List.getElem?_eq_getElem
theorem aB:type_of% @Bool.and_eq_true:=@Bool.and_eq_true
theorem aC:type_of% @Nat.eq_of_beq_eq_true:=@Nat.eq_of_beq_eq_true
theorem aD:type_of% @Nat.lt_or_ge:=@Nat.lt_or_ge
theorem aF:type_of% @List.getElem_mem:=@List.getElem_mem
theorem aG:type_of% @Nat.blt_eq:=@Nat.blt_eq
theorem aH:type_of% @List.length_map:=@List.length_map
theorem aI:type_of% @List.drop_eq_getElem_cons:=@List.drop_eq_getElem_cons
theorem aJ:type_of% @List.cons.injEq:=@List.cons.injEq
theorem aK:type_of% @List.getElem?_eq_none:=@List.getElem?_eq_none
theorem aL:type_of% @List.take_length:=@List.take_length
theorem aM:type_of% @decide_eq_false:=@decide_eq_false
theorem aO:type_of% @decide_eq_true_eq:=@decide_eq_true_eq
theorem aP:type_of% @Prod.ext:=@Prod.ext
theorem aQ:type_of% @List.getElem?_map:=@List.getElem?_map
theorem aR:type_of% @List.map_cons:=@List.map_cons
theorem aS:type_of% @Nat.le_trans:=@Nat.le_trans
theorem aT:type_of% @decide_eq_true:=@decide_eq_true
theorem aU:type_of% @List.take_succ_eq_append_getElem:=@List.take_succ_eq_append_getElem
theorem aV:type_of% @Array.getD_eq_getD_getElem?:=@Array.getD_eq_getD_getElem?
theorem aW:type_of% @Nat.mul_le_mul_right:=@Nat.mul_le_mul_right
theorem aY:type_of% @List.eq_nil_of_length_eq_zero:=@List.eq_nil_of_length_eq_zero
theorem aZ:type_of% @List.length_cons:=@List.length_cons
theorem bg:type_of% @Ne.symm:=@Ne.symm
theorem bh:type_of% @List.length_append:=@List.length_append
theorem bj:type_of% @decide_eq_false_iff_not:=@decide_eq_false_iff_not
theorem bm:type_of% @Nat.le_of_ble_eq_true:=@Nat.le_of_ble_eq_true
theorem bo:type_of% @if_true:=@if_true
theorem bp:type_of% @Nat.le_of_lt:=@Nat.le_of_lt
theorem br:type_of% @if_false:=@if_false
theorem bw:type_of% @List.mem_of_mem_take:=@List.mem_of_mem_take
theorem bA:type_of% @List.mem_of_mem_drop:=@List.mem_of_mem_drop
theorem bD:type_of% @Bool.eq_iff_iff:=@Bool.eq_iff_iff
theorem bE:type_of% @Nat.lt_of_lt_of_le:=@Nat.lt_of_lt_of_le
theorem bF:type_of% @List.take_of_length_le:=@List.take_of_length_le
theorem bG:type_of% @List.getElem?_drop:=@List.getElem?_drop
theorem bI:type_of% @Bool.or_eq_false_iff:=@Bool.or_eq_false_iff
theorem bJ:type_of% @List.getElem?_take:=@List.getElem?_take
theorem bK:type_of% @Bool.true_and:=@Bool.true_and
theorem bL:type_of% @Bool.not_eq_true':=@Bool.not_eq_true'
theorem bM:type_of% @congrArg:=@congrArg
theorem bO:type_of% @List.eq_of_mem_replicate:=@List.eq_of_mem_replicate
theorem bP:type_of% @Bool.or_eq_true:=@Bool.or_eq_true
theorem bQ:type_of% @List.getElem?_set:=@List.getElem?_set
theorem bR:type_of% @List.map_set:=@List.map_set
theorem bU:type_of% @Bool.not_eq_false':=@Bool.not_eq_false'
theorem bV:type_of% @List.mem_or_eq_of_mem_set:=@List.mem_or_eq_of_mem_set
theorem bW:type_of% @Nat.ble_eq_true_of_le:=@Nat.ble_eq_true_of_le
theorem bX:type_of% @Nat.succ_mul:=@Nat.succ_mul
theorem bY:type_of% @Nat.add_mul:=@Nat.add_mul
theorem bZ:type_of% @Array.length_toList:=@Array.length_toList
theorem cd:type_of% @Bool.false_eq_true:=@Bool.false_eq_true
theorem cg:type_of% @List.append_nil:=@List.append_nil
theorem ci:type_of% @List.mem_cons:=@List.mem_cons
theorem cj:type_of% @Bool.eq_false_iff:=@Bool.eq_false_iff
theorem cm:type_of% @List.map_nil:=@List.map_nil
theorem co:type_of% @List.getElem?_append_left:=@List.getElem?_append_left
theorem cq:type_of% @Array.ext':=@Array.ext'
theorem cr:type_of% @List.append_assoc:=@List.append_assoc
theorem cu:type_of% @List.getElem?_append_right:=@List.getElem?_append_right
theorem cv:type_of% @Nat.min_eq_left:=@Nat.min_eq_left
theorem cw:type_of% @List.mem_cons_of_mem:=@List.mem_cons_of_mem
theorem cy:type_of% @List.all_cons:=@List.all_cons
theorem cz:type_of% @Nat.add_assoc:=@Nat.add_assoc
theorem cA:type_of% @List.getElem?_set_ne:=@List.getElem?_set_ne
theorem cB:type_of% @List.flatMap_cons:=@List.flatMap_cons
theorem cC:type_of% @Int.toNat_natCast:=@Int.toNat_natCast
theorem cD:type_of% @List.all_eq_true:=@List.all_eq_true
theorem cE:type_of% @List.cons_append:=@List.cons_append
theorem cF:type_of% @List.map_map:=@List.map_map
theorem cG:type_of% @Bool.not_true:=@Bool.not_true
theorem cH:type_of% @Option.map_some:=@Option.map_some
theorem cI:type_of% @Nat.ne_of_beq_eq_false:=@Nat.ne_of_beq_eq_false
theorem cJ:type_of% @List.set_cons_zero:=@List.set_cons_zero
theorem cK:type_of% @List.take_append_drop:=@List.take_append_drop
theorem cM:type_of% @List.length_set:=@List.length_set
theorem cN:type_of% @List.getElem?_of_mem:=@List.getElem?_of_mem
theorem cO:type_of% @Array.getElem?_eq_none:=@Array.getElem?_eq_none
theorem cP:type_of% @Nat.lt_trichotomy:=@Nat.lt_trichotomy
theorem cQ:type_of% @List.drop_drop:=@List.drop_drop
theorem cR:type_of% @List.length_nil:=@List.length_nil
theorem cS:type_of% @List.ext_getElem?:=@List.ext_getElem?
theorem cT:type_of% @List.take_append_of_le_length:=@List.take_append_of_le_length
theorem cU:type_of% @List.mem_append_left:=@List.mem_append_left
theorem cV:type_of% @List.set_cons_succ:=@List.set_cons_succ
theorem cW:type_of% @Nat.lt_succ_self:=@Nat.lt_succ_self
theorem cX:type_of% @List.flatMap_nil:=@List.flatMap_nil
theorem cY:type_of% @List.not_mem_nil:=@List.not_mem_nil
theorem cZ:type_of% @List.replicate_succ:=@List.replicate_succ
theorem c8:type_of% @List.toList_toArray:=@List.toList_toArray
theorem da:type_of% @List.getElem?_cons_succ:=@List.getElem?_cons_succ
theorem db:type_of% @List.mem_cons_self:=@List.mem_cons_self
theorem dc:type_of% @List.pairwise_cons:=@List.pairwise_cons
theorem df:type_of% @List.drop_length:=@List.drop_length
theorem dg:type_of% @List.getElem?_set_self:=@List.getElem?_set_self
theorem dh:type_of% @List.mem_append_right:=@List.mem_append_right
end Go.TI
namespace Go.TI
noncomputable section
inductive T where
 |undef
 |bool (b:Bool)
 |int (k:ak) (n:Int)
 |str (s:List Nat)
 |j4
 |ptr (b ep i j:Nat)
 |je (cells:List T)
 |dC (ee:List T) (full:Bool)
 |fO
 |arr (b ep o l:Nat) (full:Bool)
 |func (f:aj) (captured:List T)
 |kq
 |ko
 |iface (t:ab) (v:T)
 |iter (b:Nat)
 |map (b:Nat)
 |m7
 |agg (cells:List T)
 |tuple (vs:List T)
 deriving Inhabited
def T.cells:T->List T
 | .agg a=>a
 |v=>[v]
def T.gD:T->Bool
 | .undef| .tuple _=>false
 |_=>true
structure iJ where
 sz:Nat
 ep:Nat
 ver:Nat
 exact:Bool
 it:Bool
 ee:List T
 deriving Inhabited
structure H where
 size:Nat
 low:Nat
 eY:List iJ
 deriving Inhabited
inductive U where
 |int (k:ak)|bool|str|slice (e:ab)|array (n:Nat) (e:ab)|map (k e:ab)|struct (fs:List (Nat×ab))|ptr (e:ab)|func|iface|other
 deriving Inhabited
structure Ty where
 u:U
 size:Nat
 bytes:Nat
 cmp:Bool
 zero:List T
 deriving Inhabited
inductive Prim where
 |nd
 |clone (sz bytes:Nat)
 deriving Inhabited
structure Fun where
 fn:Func
 mask:Nat
 ky:Bool
 adL:aa Prim
 deriving Inhabited
structure Ctx where
 ty:ab->aa Ty
 fn:aj->aa Fun
 gl:Nat->aa (List T)
def dJ{a b:Type}(d:aa a)(c:a->aa b):aa b:=Option.casesOn d none c
def fP{a:Type}(b:Bool)(c:aa a):aa a:=Bool.casesOn b none c
def two{a b c:Type}(e:a×b)(d:a->b->c):c:=Prod.casesOn e d
def lF{a:Type}(c:List a):Nat->aa a:=
 @List.rec a (λ_=>Nat->aa a) (λ_=>none) (λf _ b e=> @Nat.rec (λ_=>aa a) (some f) (λd _=>b d) e) c
def kj{a:Type}(d:List a):Nat->a->aa (List a):=
 @List.rec a (λ_=>Nat->a->aa (List a)) (λ_ _=>none)
  (λi g c f b=> @Nat.rec (λ_=>aa (List a)) (some (b::g)) (λe _=>dJ (c e b) λh=>some (i::h)) f) d
def takeN{a:Type}(d:Nat):List a->aa (List a):=
 @Nat.rec (λ_=>List a->aa (List a)) (λ_=>some [])
  (λ_ b c=> @List.rec a (λ_=>aa (List a)) none (λg e _=>dJ (b e) λf=>some (g::f)) c) d
def jF{a:Type}(d:Nat):List a->aa (List a):=
 @Nat.rec (λ_=>List a->aa (List a)) (λb=>some b)
  (λ_ c b=> @List.rec a (λ_=>aa (List a)) none (λ_ e _=>c e) b) d
def kx{a:Type}(c:List a):Nat:= @List.rec a (λ_=>Nat) 0 (λ_ _ b=>Nat.succ b) c
def Dp{a:Type}(e f:List a):aa (List a):=
 @List.rec a (λ_=>aa (List a)) (some f) (λd _ b=>dJ b λc=>some (d::c)) e
def fw{a b:Type}(c:a->aa b)(e:List a):aa (List b):=
 @List.rec a (λ_=>aa (List b)) (some []) (λg _ d=>dJ (c g) λh=>dJ d λf=>some (h::f)) e
def oE{a:Type}(d:a)(c:Nat):List a:= @Nat.rec (λ_=>List a) [] (λ_ b=>d::b) c
def we{a:Type}(b:a->Bool)(d:List a):Bool:= @List.rec a (λ_=>Bool) true (λe _ c=>Bool.rec false c (b e)) d
def f6(b:Nat):aa Nat:=Nat.casesOn b (some 0) (λa=>some (Nat.succ a))
def JR(c:Int):aa Int:=
 Int.casesOn c (λa=>Nat.casesOn a (some (.ofNat 0)) (λb=>some (.ofNat (Nat.succ b)))) (λa=>Nat.casesOn a (some (.negSucc 0)) (λb=>some (.negSucc (Nat.succ b))))
def wP(a:ak)(c:Int):aa T:=dJ (JR c) λb=>some (.int a b)
def wn(a:Bool):aa T:=Bool.casesOn a (some (.bool false)) (some (.bool true))
def kNo:ak->Nat
 | .i8=>0| .i16=>1| .i32=>2| .i64=>3| .u8=>4| .u16=>5| .u32=>6| .u64=>7
def CD(a b:ak):Bool:=Nat.beq (kNo a) (kNo b)
def JV(d c:Int):Bool:=Int.casesOn d (λa=>Int.casesOn c (λb=>Nat.blt a b) (λ_=>false)) (λa=>Int.casesOn c (λ_=>true) (λb=>Nat.blt b a))
def P5(d c:Int):Bool:=Int.casesOn d (λa=>Int.casesOn c (λb=>Nat.beq a b) (λ_=>false)) (λa=>Int.casesOn c (λ_=>false) (λb=>Nat.beq a b))
def Jp(k:ak)(a:Int):Int:=
 match k with
 | .i64=>Int.casesOn a (λb=>Bool.casesOn (Nat.ble b 9223372036854775807) (IntKind.i64.wrap a) a) (λb=>Bool.casesOn (Nat.ble b 9223372036854775807) (IntKind.i64.wrap a) a)
 |k=>k.wrap a
def o8(a:ak)(b:Int):aa T:=wP a (Jp a b)
def Tc(b:List Nat):List Nat->Bool:=
 @List.rec Nat (λ_=>List Nat->Bool) (λa=>List.casesOn a true (λ_ _=>false))
  (λe _ c a=>List.casesOn a false (λf d=>Bool.rec false (c d) (Nat.beq e f))) b
def PY(d:List Nat):List Nat->Bool:=
 @List.rec Nat (λ_=>List Nat->Bool) (λa=>List.casesOn a false (λ_ _=>true))
  (λb _ e a=>List.casesOn a false (λc f=>Bool.rec (Bool.rec false (e f) (Nat.beq b c)) true (Nat.blt b c))) d
def H.get(d:H)(a:Nat):aa iJ:=
 H.casesOn d λb _ c=>fP (Nat.blt a b) (lF c (Nat.sub (Nat.sub b 1) a))
def H.new(g:Nat->T)(c:H)(h:iJ):aa (T×H):=
 H.casesOn c λa d b=>dJ (f6 (Nat.succ a)) λe=>some (g a,⟨e,d,h::b⟩)
def H.put(g:H)(a:Nat)(x:iJ):aa H:=
 H.casesOn g λb e f=>fP (Nat.blt a b)
  (dJ (kj f (Nat.sub (Nat.sub b 1) a) x) λd=>Bool.casesOn (Nat.blt a e) (some ⟨b,e,d⟩) (some ⟨b,a,d⟩))
def over(a:List T)(f:List T):aa (List T):=
 @List.rec T (λ_=>List T->aa (List T)) (λa=>some a)
  (λe _ b a=>List.casesOn a none (λ_ c=>dJ (b c) λd=>some (e::d))) f a
def kt(a:List T)(d:Nat)(g:List T):aa (List T):=
 @Nat.rec (λ_=>List T->aa (List T)) (λa=>over a g)
  (λ_ c a=>List.casesOn a none (λb e=>dJ (c e) λf=>some (b::f))) d a
def Ty.isAgg(a:Ty):Bool:=match a.u with| .struct _| .array _ _=>true|_=>false
def Ta(a:List T):T:=List.casesOn a .undef (λb _=>b)
def Ty.jV(a:Ty):T:=Bool.casesOn a.isAgg (Ta a.zero) (.agg a.zero)
def jW(b:Ty)(a:List T):aa T:=
 Bool.casesOn b.isAgg (lF a 0) (dJ (takeN b.size a) λc=>some (.agg c))
def H.elem(e:H)(a c i:Nat):aa T:=
 dJ (e.get a) λx=>iJ.casesOn x λ_ d _ _ f b=>fP (Nat.beq d c) (Bool.casesOn f (lF b i) none)
def H.load(g:H)(b:Ty)(c:T):aa T:=
 match c with
 | .ptr d f h i=>dJ (g.elem d f h) λe=>dJ (jF i e.cells) λa=>jW b a
 | .je a=>jW b a
 |_=>none
def mt(d:T)(a:Nat)(b:List T):aa T:=
 match d with
 | .agg c=>dJ (kt c a b) λe=>some (.agg e)
 |_=>match a,b with
  |0,[f]=>some f
  |_,_=>none
def H.store(d:H)(o:Ty)(g f:T):aa H:=
 match g with
 | .ptr a j e m=>fP (Nat.beq (kx f.cells) o.size) (dJ (d.get a) λr=>iJ.casesOn r λn c p exact l b=>
  fP (Nat.beq c j) (Bool.casesOn l (dJ (lF b e) λh=>dJ (mt h m f.cells) λi=>dJ (kj b e i) λk=>
   dJ (f6 (Nat.succ p)) λq=>d.put a ⟨n,c,q,exact,false,k⟩) none))
 |_=>none
def H.jc(f:H)(k:T):aa (List T):=
 match k with
 | .dC e _=>some e
 | .fO=>some []
 | .arr a c i h _=>dJ (f.get a) λl=>iJ.casesOn l λ_ d _ _ g b=>fP (Nat.beq d c) (Bool.casesOn g (dJ (jF i b) λj=>takeN h j) none)
 |_=>none
def fits(c:Nat)(b:List T):Bool:=List.casesOn b true (λa _=>Nat.beq (kx a.cells) c)
def kS(b:Nat)(exact:Bool)(a:List T):iJ:=⟨b,0,0,exact,false,a⟩
def H.iU(g:H)(a bytes:Nat)(d e:List T):aa (T×H):=
 dJ (Dp d e) λb=>dJ (f6 (kx b)) λc=>
 fP (Nat.ble 1 bytes)<|fP (Nat.ble (Nat.mul c bytes) 70368744177664) (fP (fits a d) (fP (fits a e) (g.new (λf=> .arr f 0 0 c false) (kS a false b))))
def H.lO(e:H)(g bytes a k o:Nat)(i:List T):aa (T×H):=
 dJ (e.get a) λr=>iJ.casesOn r λh b p _ n j=>
  dJ (takeN o j) λl=>dJ (Dp l i) λd=>dJ (f6 (kx d)) λf=>
  fP (Nat.ble 1 bytes)<|fP (Nat.beq b k) (fP (Nat.beq h g) (fP (Nat.ble (Nat.mul f bytes) 70368744177664) (fP (fits g i) (Bool.casesOn n
   (dJ (f6 (Nat.succ b)) λc=>dJ (f6 (Nat.succ p)) λq=>
     dJ (e.put a ⟨h,c,q,false,false,d⟩) λm=>some (.arr a c 0 f false,m)) none))))
def oa:T->Bool
 | .dC _ _| .fO| .arr .. =>true
 |_=>false
def H.append(a:H)(e bytes:Nat)(d:T)(b:List T):aa (T×H):=
 List.casesOn b (fP (oa d) (some (d,a))) λ_ _=>match d with
  | .dC c f=>List.casesOn c (a.iU e bytes [] b) λ_ _=>fP f (a.iU e bytes c b)
  | .arr g h j i f=>Bool.casesOn f
   (Nat.casesOn j (a.lO e bytes g h i b) λ_=>none)
   (dJ (a.jc d) λc=>a.iU e bytes c b)
  |_=>none
def freeze(m:H)(p:Nat)(h:Nat):T->aa T:=
 @Nat.rec (λ_=>T->aa T) (λ_=>none) (λ_ e f=>match f with
  | .arr b i q o l=>fP (Nat.ble p b) (dJ (m.get b) λr=>iJ.casesOn r λ_ j _ exact n c=>
   fP (Nat.beq j i) (Bool.casesOn n (dJ (dJ (jF q c) λa=>takeN o a) λk=>dJ (fw e k) λd=>
    List.casesOn d (List.casesOn c (Bool.casesOn exact (some .fO) (some (.dC [] false))) λ_ _=>some .fO) λ_ _=>some (.dC d l)) none))
  | .agg g=>dJ (fw e g) λa=>some (.agg a)
  | .bool _| .int _ _| .str _| .j4| .dC _ _| .fO| .kq| .ko=>some f
  |_=>none) h
def ir(d:H)(c:Nat)(a:T):aa T:=
 match a with
 | .arr b _ _ _ _=>Bool.casesOn (Nat.ble c b) (some a) (freeze d c 12 a)
 | .ptr b _ _ _=>Bool.casesOn (Nat.ble c b) (some a) none
 | .map b=>Bool.casesOn (Nat.ble c b) (some a) none
 | .undef=>some a
 |_=>freeze d c 12 a
def jX(a:H)(b:Nat)(c:T):aa T:=
 match c with
 | .agg d=>dJ (fw (ir a b) d) λe=>some (.agg e)
 |_=>ir a b c
def iT(a:H)(b:Nat)(c:T):aa T:=
 match c with
 | .tuple e=>dJ (fw (jX a b) e) λd=>some (.tuple d)
 |_=>jX a b c
def jY(b:Nat):T->Bool
 | .arr a _ _ _ _=>Nat.blt a b
 | .ptr a _ _ _=>Nat.blt a b
 | .map a=>Nat.blt a b
 | .bool _| .int _ _| .str _| .j4| .dC _ _| .fO| .kq| .ko| .m7| .je _=>true
 |_=>false
def below(b:Nat):T->Bool
 | .agg a=>we (jY b) a
 | .func _ a=>we (jY b) a
 | .tuple a=>we (jY b) a
 |v=>jY b v
def rg(d:Nat)(b:Nat):List iJ->Bool:=
 @Nat.rec (λ_=>List iJ->Bool) (λ_=>true) (λ_ a c=>List.casesOn c true λf e=>Bool.casesOn (we (below d) f.ee) false (a e)) b
def mJ(c:Nat)(d:T)(f:H):aa (T×H):=
 H.casesOn f λe b a=>Bool.casesOn (Nat.blt b c) (some (d,⟨e,c,a⟩)) (some (d,⟨e,b,a⟩))
def tk(a c:Nat)(i e:T)(h:H):aa (T×H):=
 H.casesOn h λg b f=>dJ (jF (Nat.sub g a) f) λd=>
  Bool.casesOn (Nat.ble a b)
   (Bool.casesOn (rg a (Nat.sub a b) d) (mJ c i ⟨g,b,f⟩)
     (Bool.casesOn (Nat.blt b c) (some (e,⟨a,c,d⟩)) (some (e,⟨a,b,d⟩))))
   (some (e,⟨a,c,d⟩))
def BJ(e:Bool)(d c:Nat)(b:T)(a:H):aa (T×H):=
 Bool.casesOn e (Option.casesOn (iT a d b) (mJ c b a) λf=>tk d c b f a) (mJ c b a)
inductive fJ where
 |nil
 |cons (s:Nat) (v:T) (r:fJ)
 deriving Inhabited
structure Env where
 vars:fJ
 tmps:fJ
 deriving Inhabited
def dF(c:fJ)(d:Nat):aa T:=
 @fJ.rec (λ_=>aa T) none (λb e _ a=>Bool.rec a (some e) (Nat.beq b d)) c
def li(e:fJ)(b:Nat)(c:T):aa fJ:=
 @fJ.rec (λ_=>aa fJ) (some (.cons b c .nil)) (λa h f d=>Bool.rec (dJ d λg=>some (.cons a h g)) (some (.cons a c f)) (Nat.beq a b)) e
def jS(a b:Nat):Bool:=Nat.beq (Nat.land (Nat.shiftRight a b) 1) 1
def Env.get(c:Nat)(b:Env)(a:Nat):aa T:=
 Env.casesOn b λe d=>Bool.casesOn (jS c a) (dF d a) (dF e a)
def Env.set(g:Nat)(e:Env)(a:Nat)(c:T):aa Env:=
 Env.casesOn e λd b=>Bool.casesOn (jS g a) (some ⟨d,.cons a c b⟩) (dJ (li d a c) λf=>some ⟨f,b⟩)
def Env.dst(c:Nat)(a:Env)(b:aa Tmp)(e:T):aa Env:=
 Option.casesOn b (some a) λd=>a.set c d e
def zr(b:List UInt8):aa (List Nat):=fw (λa=>f6 a.toNat) b
def nl:am->aa T
 | .bool a=>some (.bool a)
 | .int b d=>some (.int b d)
 | .string e=>dJ (zr e.data.toList) λc=>some (.str c)
 | .pointer none=>some .j4
 | .map none=>some .m7
 | .slice none 0 0=>some (.dC [] false)
 | .nilFunc=>some .kq
 | .nilIface=>some .ko
 |_=>none
def xR:am->aa T
 | .agg a=>dJ (fw nl a.toList) λb=>some (.agg b)
 |v=>nl v
def fy(cx:Ctx)(e:Nat)(b:Env)(f:ah):aa T:=
 Operand.casesOn f (λg=>b.get e g) (λh=>xR h) (λd=>dJ (cx.gl d) λa=>some (.je a)) (λc=>some (.func c []))
def pi(cx:Ctx)(c:Nat)(a:Env)(b:List ah):aa (List T):=fw (fy cx c a) b
def oZ:T->aa Nat
 | .int _ b=>Int.casesOn b (λa=>some a) (λ_=>none)
 |_=>none
def qX(g:U)(c a:T):aa Bool:=
 match g with
 | .int _=>(match c with| .int e d=>(match a with| .int f b=>fP (CD e f) (some (P5 d b))|_=>none)|_=>none)
 | .bool=>(match c with| .bool d=>(match a with| .bool b=>some (Bool.casesOn d (Bool.casesOn b true false) b)|_=>none)|_=>none)
 | .str=>(match c with| .str d=>(match a with| .str b=>some (Tc d b)|_=>none)|_=>none)
 | .ptr _=>(match c with
  | .j4=>(match a with| .j4=>some true| .ptr .. | .je _=>some false|_=>none)
  | .ptr .. | .je _=>(match a with| .j4=>some false|_=>none)
  |_=>none)
 | .func=>(match c with
  | .kq=>(match a with| .kq=>some true| .func .. =>some false|_=>none)
  | .func .. =>(match a with| .kq=>some false|_=>none)
  |_=>none)
 | .iface=>(match c with
  | .ko=>(match a with| .ko=>some true| .iface .. =>some false|_=>none)
  | .iface .. =>(match a with| .ko=>some false|_=>none)
  |_=>none)
 |_=>none
def U.plain:U->Bool
 | .int _| .bool| .str=>true
 |_=>false
def eqFields(cx:Ctx)(f:List (Nat×ab)):Nat->List T->List T->aa Bool:=
 @List.rec (Nat×ab) (λ_=>Nat->List T->List T->aa Bool) (λ_ _ _=>some true)
  (λa _ g b d e=>List.casesOn d none λk h=>List.casesOn e none λl i=>fP (Nat.beq a.1 b) (dJ (cx.ty a.2) λc=>fP c.u.plain
    (dJ (qX c.u k l) λj=>Bool.casesOn j (some false) (g (Nat.succ b) h i)))) f
def yd(f:U)(b:List T):List T->aa Bool:=
 @List.rec T (λ_=>List T->aa Bool) (λa=>List.casesOn a (some true) λ_ _=>none)
  (λg _ c a=>List.casesOn a none λh d=>dJ (qX f g h) λe=>Bool.casesOn e (some false) (c d)) b
def Md(cx:Ctx)(d:Ty)(e f:T):aa Bool:=
 match d.u with
 | .struct h=>(match e with
  | .agg a=>(match f with
   | .agg b=>fP d.cmp (eqFields cx h 0 a b)
   |_=>none)
  |_=>none)
 | .array i g=>(match e with
  | .agg a=>(match f with
   | .agg b=>fP d.cmp (dJ (cx.ty g) λc=>fP c.u.plain (fP (Nat.beq c.size 1) (fP (Nat.beq (kx a) i) (yd c.u a b))))
   |_=>none)
  |_=>none)
 |u=>qX u e f
def wc(f g:T)(d:ak->Int->Int->aa T):aa T:=
 match f with
 | .int a b=>(match g with| .int e c=>fP (CD a e) (d a b c)|_=>none)
 |_=>none
def yF(f g:T)(d:ak->Int->Nat->aa T):aa T:=
 match f with
 | .int a b=>(match g with| .int _ c=>Int.casesOn c (λe=>d a b (min e a.bits)) (λ_=>none)|_=>none)
 |_=>none
def I6(h c:T)(d:Int->Int->Bool)(e:List Nat->List Nat->Bool):aa T:=
 match h with
 | .int f a=>(match c with| .int g b=>fP (CD f g) (wn (d a b))|_=>none)
 | .str a=>(match c with| .str b=>wn (e a b)|_=>none)
 |_=>none
def RL(d e:T):aa T:=
 match d with
 | .str a=>(match e with
  | .str b=>dJ (Dp a b) λc=>fP (Nat.ble (kx c) 4294967296) (some (.str c))
  |_=>none)
 |_=>wc d e λf a b=>o8 f (a+b)
def binop:BinOp->T->T->aa T
 | .add=>RL
 | .sub=>λd e=>wc d e λc a b=>o8 c (a-b)
 | .mul=>λd e=>wc d e λc a b=>o8 c (a*b)
 | .quo=>λd e=>wc d e λc a b=>Bool.casesOn (P5 b 0) (o8 c (a.tdiv b)) none
 | .rem=>λd e=>wc d e λc a b=>Bool.casesOn (P5 b 0) (wP c (a.tmod b)) none
 | .and=>λd e=>wc d e λc a b=>wP c (c.wrap (BitVec.ofInt c.bits a&&&BitVec.ofInt c.bits b).toNat)
 | .or=>λd e=>wc d e λc a b=>wP c (c.wrap (BitVec.ofInt c.bits a|||BitVec.ofInt c.bits b).toNat)
 | .xor=>λd e=>wc d e λc a b=>wP c (c.wrap (BitVec.ofInt c.bits a^^^BitVec.ofInt c.bits b).toNat)
 | .shl=>λd e=>yF d e λc a f=>wP c (c.wrap (a*2^f))
 | .shr=>λd e=>yF d e λc a f=>wP c (a.fdiv (2^f))
 | .lss=>λd e=>I6 d e JV PY
 | .leq=>λd e=>I6 d e (λa b=> !JV b a) (λa b=> !PY b a)
 | .gtr=>λd e=>I6 d e (λa b=>JV b a) (λa b=>PY b a)
 | .geq=>λd e=>I6 d e (λa b=> !JV a b) (λa b=> !PY a b)
 |_=>λ_ _=>none
def unop:UnOp->T->aa T
 | .neg=>λa=>(match a with| .int c d=>o8 c (0-d)|_=>none)
 | .not=>λa=>(match a with| .bool b=>Bool.casesOn b (some (.bool true)) (some (.bool false))|_=>none)
 |_=>λ_=>none
def conv(cx:Ctx)(c:ab)(a:T):aa T:=
 dJ (cx.ty c) λb=>match b.u with
  | .int d=>(match a with| .int _ n=>o8 d n|_=>none)
  | .str=>(match a with| .str e=>some (.str e)|_=>none)
  |_=>none
def Co(cx:Ctx)(d:ab)(i:T):aa T:=
 dJ (cx.ty d) λc=>match c.u with
  | .slice e=>(match i with
   | .str a=>dJ (cx.ty e) λh=>(match h.u with
    | .int g=>fP (CD g .u8) (List.casesOn a (some .fO) λ_ _=>dJ (fw (λb=>some (T.int .u8 (.ofNat b))) a) λf=>some (.dC f false))
    |_=>none)
   |_=>none)
  |_=>none
def vX(cx:Ctx)(c:ab)(a:Nat):aa (Nat×ab):=
 dJ (cx.ty c) λd=>match d.u with| .struct b=>lF b a|_=>none
def lU(f:Nat->aa (Nat×Nat))(g:List (Nat×T)):List T->aa (List T):=
 @List.rec (Nat×T) (λ_=>List T->aa (List T)) (λa=>some a)
  (λb _ e a=>dJ (f b.1) λc=>fP (Nat.beq (kx b.2.cells) c.2) (dJ (kt a c.1 b.2.cells) λd=>e d)) g
def oN(h:Nat)(g:List (Nat×T)):List T->aa (List T):=
 @List.rec (Nat×T) (λ_=>List T->aa (List T)) (λa=>some a)
  (λf _ e a=>two f λd b=>fP (Nat.beq (kx b.cells) h) (dJ (kj a d b) λc=>e c)) g
def partsOf(cx:Ctx)(e:Nat)(b:Env)(d:List (Nat×ah)):aa (List (Nat×T)):=
 fw (λg=>two g λc f=>dJ (fy cx e b f) λa=>fP a.gD (some (c,a))) d
def jx(cx:Ctx)(b:Nat)(a:Env)(f:aa ah):aa (aa Nat):=
 Option.casesOn f (some none) λd=>dJ (fy cx b a d) λe=>dJ (oZ e) λc=>some (some c)
def fN(c:aa Nat)(a:Nat):Nat:=Option.casesOn c a λb=>b
def I4{b:Type}(d:List b)(a c:Nat):aa (List b):=dJ (jF a d) λe=>takeN (Nat.sub c a) e
def sH(c:List T)(e:Bool)(d a:Nat)(g:aa Nat):aa T:=
 fP (Nat.ble d a) (dJ (I4 c d a) λb=>Option.casesOn g
  (List.casesOn b (List.casesOn c (some (.dC [] false)) λ_ _=>some .fO) λ_ _=>some (.dC b (Bool.casesOn e false (Nat.beq a (kx c)))))
  λf=>fP (Nat.beq f a) (List.casesOn b (some (.dC [] false)) λ_ _=>some (.dC b true)))
def uI(b c k g:Nat)(h:Bool)(e a:Nat)(j:aa Nat):aa T:=
 fP (Nat.ble e a) (fP (Nat.ble a g) (dJ (f6 (Nat.add k e)) λf=>dJ (f6 (Nat.sub a e)) λd=>Option.casesOn j
  (Bool.casesOn h (some (.arr b c f d false)) (fP (Nat.beq a g) (some (.arr b c f d true))))
  λi=>fP (Nat.beq i a) (some (.arr b c f d true))))
def oy(m:T)(b a c:aa Nat):aa T:=
 match m with
 | .str e=>Option.casesOn c (fP (Nat.ble (fN b 0) (fN a (kx e))) (dJ (I4 e (fN b 0) (fN a (kx e))) λl=>some (.str l))) λ_=>none
 | .dC f d=>sH f d (fN b 0) (fN a (kx f)) c
 | .fO=>fP (Nat.beq (fN b 0) 0) (fP (Nat.beq (fN a 0) 0) (Option.casesOn c (some .fO) λj=>fP (Nat.beq j 0) (some (.dC [] false))))
 | .arr h i k g d=>uI h i k g d (fN b 0) (fN a g) c
 |_=>none
inductive kW where
 |val (v:T) (h:H)
 |call (f:aj) (args:List T)
 deriving Inhabited
def val(a:H)(c:aa T):aa kW:=dJ c λb=>some (.val b a)
def jl(d:aa (T×H)):aa kW:=dJ d λb=>two b λc a=>some (.val c a)
abbrev Hd:=Ctx->Nat->Env->H->aa kW
def BT(d:ah):Hd:=λcx c a b=>val b (fy cx c a d)
def D4(a e f:ah):Hd:=λcx c b d=>
 dJ (fy cx c b a) λa=>match a with
  | .bool g=>Bool.casesOn g (val d (fy cx c b f)) (val d (fy cx c b e))
  |_=>none
def vU(cx:Ctx)(d:Ty):Bool:=
 match d.u with
 | .array _ a=>Option.casesOn (cx.ty a) false λc=>(match c.u with| .int b=>CD b .u8|_=>false)
 |_=>false
def BX(d:ab):Hd:=λcx _ _ c=>dJ (cx.ty d) λa=>Bool.casesOn (vU cx a)
 (jl (c.new (λb=> .ptr b 0 0 0) (kS a.size true [a.jV])))
 (jl (c.new (λb=> .ptr b 0 0 0) (kS 1 true a.zero)))
def LD(f:ah):Hd:=λcx e c d=>dJ (fy cx e c f) λa=>fP a.gD (jl (d.new (λb=> .ptr b 0 0 0) (kS (kx a.cells) true [a])))
def zj(m:ab)(l:af (Nat×ah)):Hd:=λcx k h e=>
 dJ (cx.ty m) λc=>dJ (partsOf cx k h l.toList) λf=>match c.u with
  | .struct j=>dJ (lU (λb=>dJ (lF j b) λd=>dJ (cx.ty d.2) λn=>some (d.1,n.size)) f c.zero) λa=>val e (some (.agg a))
  | .array _ i=>dJ (cx.ty i) λg=>dJ (lU (λb=>some (Nat.mul b g.size,g.size)) f c.zero) λa=>val e (some (.agg a))
  |_=>none
def nJ(k:ab)(b:Nat)(i:af (Nat×ah)):Hd:=λcx h d g=>
 dJ (cx.ty k) λl=>match l.u with
  | .slice e=>dJ (cx.ty e) λa=>dJ (partsOf cx h d i.toList) λj=>
   fP (Nat.ble 1 a.size)<|fP (Nat.ble (Nat.mul b a.size) 65536) (dJ (oN a.size j (oE a.jV b)) λf=>
    jl (g.new (λc=> .arr c 0 0 b false) (kS a.size true f)))
  |_=>none
def GZ(e:ab)(a:ah):Hd:=λcx d c b=>dJ (cx.ty e) λf=>dJ (fy cx d c a) λa=>val b (b.load f a)
def BQ(g:ab)(a i:ah):Hd:=λcx c b e=>
 dJ (cx.ty g) λh=>dJ (fy cx c b a) λa=>dJ (fy cx c b i) λd=>fP d.gD (dJ (e.store h a d) λf=>some (.val .undef f))
def qv(e:ah):Hd:=λcx d b c=>dJ (fy cx d b e) λa=>match a with
 | .ptr .. | .je _| .func .. =>some (.val a c)
 |_=>none
def Aa(c d:ah)(a b:T):Bool:=
 match a with
 | .ko=>(match b with| .ko=>Region.isConst c||Region.isConst d|_=>true)
 |_=>true
def UJ(i:Bool)(j:ab)(f g:ah):Hd:=λcx d c h=>
 dJ (cx.ty j) λk=>dJ (fy cx d c f) λa=>dJ (fy cx d c g) λb=>
  fP (Aa f g a b) (dJ (Md cx k a b) λe=>val h (wn (Bool.casesOn i e (!e))))
def LE(f:BinOp)(g h:ah):Hd:=λcx b a e=>
 dJ (fy cx b a g) λc=>dJ (fy cx b a h) λd=>val e (binop f c d)
def Zu(e:UnOp)(f:ah):Hd:=λcx d b c=>dJ (fy cx d b f) λa=>val c (unop e a)
def byteOf(d:T):aa Nat:=match d with
 | .int b c=>fP (CD b .u8) (Int.casesOn c (λa=>fP (Nat.blt a 256) (some a)) (λ_=>none))
 |_=>none
def FP(cx:Ctx)(d:H)(g:ab)(i:T):aa T:=
 dJ (cx.ty g) λf=>match f.u with
  | .slice b=>dJ (cx.ty b) λh=>(match h.u with
   | .int e=>fP (CD e .u8) (dJ (d.jc i) λc=>dJ (fw byteOf c) λa=>fP (Nat.ble (kx a) 4294967296) (some (.str a)))
   |_=>none)
  |_=>none
def JY(d c:ab)(h:ah):Hd:=λcx g f b=>dJ (cx.ty d) λ_=>dJ (fy cx g f h) λa=>
 dJ (cx.ty c) λe=>match e.u with
  | .slice _=>val b (Co cx c a)
  | .str=>(match a with
   | .str _=>val b (conv cx c a)
   |_=>val b (FP cx b d a))
  |_=>val b (conv cx c a)
def zg(b:ab)(g:ah):Hd:=λcx e c d=>dJ (cx.ty b) λf=>match f.u with
 | .iface=>none
 |_=>dJ (fy cx e c g) λa=>fP a.gD (val d (some (.iface b a)))
def BU(e:Fn)(first a:af ah):Hd:=λcx g c f=>match e with
 | .func d=>(match first.toList with
  | []=>dJ (pi cx g c a.toList) λb=>val f (some (.func d b))
  |_=>none)
 |_=>none
def oJ(i:ab)(a b:ah):Hd:=λcx e d h=>dJ (cx.ty i) λj=>match j.u with
 | .slice g=>dJ (cx.ty g) λc=>dJ (fy cx e d a) λa=>dJ (fy cx e d b) λb=>dJ (oZ a) λa=>dJ (oZ b) λb=>
  fP (Nat.ble 1 c.size)<|fP (Nat.ble 1 c.bytes)<|fP (Nat.ble a b) (fP (Nat.ble (Nat.mul b c.bytes) 70368744177664) (jl (h.new (λf=> .arr f 0 0 a false) (kS c.size (Nat.beq a b) (oE c.jV a)))))
 |_=>none
def yX(a b:aa Nat):Bool:=Option.casesOn b true λ_=>Option.casesOn a false λ_=>true
def jg(cx:Ctx)(f:H)(p:U)(e:T):Bool:=
 match p with
 | .str=>(match e with| .str _=>true|_=>false)
 | .slice d=>Option.casesOn (cx.ty d) false λa=>(match e with
  | .dC j _=>fits a.size j
  | .fO=>true
  | .arr b _ _ _ _=>Option.casesOn (f.get b) false λc=>Nat.beq c.sz a.size
  |_=>false)
 | .array n d=>Option.casesOn (cx.ty d) false λa=>(match e with
  | .ptr b h k m=>Option.casesOn (f.get b) false λc=>iJ.casesOn c λo i _ exact l g=>
   Nat.beq o a.size&&Nat.beq i h&&Nat.beq k 0&&Nat.beq m 0&&exact&& !l&&Nat.beq (kx g) n
  |_=>false)
 |_=>false
def asSlice(e:U)(a:T):T:=match e with
 | .array d _=>(match a with| .ptr b c _ _=> .arr b c 0 d false|_=>a)
 |_=>a
def BR(i:ab)(e:ah)(f b d:aa ah):Hd:=λcx c a g=>dJ (cx.ty i) λh=>
 dJ (fy cx c a e) λe=>fP (jg cx g h.u e)<|dJ (jx cx c a f) λf=>dJ (jx cx c a b) λb=>dJ (jx cx c a d) λd=>fP (yX b d) (val g (oy (asSlice h.u e) f b d))
def oL(n:ab)(a:ah)(i:Nat):Hd:=λcx m g c=>dJ (vX cx n i) λb=>dJ (fy cx m g a) λa=>match a with
 | .ptr d h j k=>dJ (f6 (Nat.add k b.1)) λl=>some (.val (.ptr d h j l) c)
 | .je e=>dJ (jF b.1 e) λf=>some (.val (.je f) c)
 |_=>none
def zi(i:ab)(a:ah)(e:Nat):Hd:=λcx g d f=>
 dJ (vX cx i e) λb=>dJ (cx.ty b.2) λj=>dJ (fy cx g d a) λa=>match a with
  | .agg c=>dJ (jF b.1 c) λh=>val f (jW j h)
  |_=>none
def kf(a:H)(f:Ty)(l:T)(b:Nat):aa kW:=
 match l with
 | .dC h _=>dJ (lF h b) λg=>fP (Nat.beq (kx g.cells) f.size) (some (.val (.je g.cells) a))
 | .arr c e k j _=>fP (Nat.blt b j) (dJ (a.get c) λd=>fP (Nat.beq d.sz f.size)<|fP (Nat.beq d.ep e) (dJ (f6 (Nat.add k b)) λi=>some (.val (.ptr c e i 0) a)))
 |_=>none
def oc(a:H)(m:Nat)(d:Ty)(n:T)(b:Nat):aa kW:=
 fP (Nat.blt b m) (match n with
  | .ptr c e f g=>dJ (a.get c) λh=>Bool.casesOn (Nat.beq h.sz d.size)
   (dJ (f6 (Nat.add g (Nat.mul b d.size))) λl=>some (.val (.ptr c e f l) a))
   (fP (Nat.beq g 0) (dJ (f6 (Nat.add f b)) λk=>some (.val (.ptr c e k 0) a)))
  | .je i=>dJ (jF (Nat.mul b d.size) i) λj=>some (.val (.je j) a)
  |_=>none)
def oK(j:ab)(a c:ah):Hd:=λcx h e f=>
 dJ (cx.ty j) λk=>dJ (fy cx h e a) λa=>dJ (fy cx h e c) λc=>dJ (oZ c) λg=>match k.u with
  | .slice b=>dJ (cx.ty b) λd=>kf f d a g
  | .array i b=>dJ (cx.ty b) λd=>oc f i d a g
  |_=>none
def zf(n:ab)(a c:ah):Hd:=λcx f d e=>
 dJ (cx.ty n) λo=>dJ (fy cx f d a) λa=>dJ (fy cx f d c) λc=>dJ (oZ c) λb=>match o.u with
  | .str=>(match a with| .str m=>dJ (lF m b) λh=>val e (some (.int .u8 (.ofNat h)))|_=>none)
  | .array k j=>(match a with
   | .agg i=>dJ (cx.ty j) λg=>fP (Nat.blt b k) (dJ (jF (Nat.mul b g.size) i) λl=>val e (jW g l))
   |_=>none)
  |_=>none
def tH(g:ah)(c:Nat):Hd:=λcx d a b=>dJ (fy cx d a g) λe=>match e with| .tuple f=>val b (lF f c)|_=>none
def BS(g:ah):Hd:=λcx d b c=>dJ (fy cx d b g) λf=>match f with
 | .str e=>jl (c.new (λa=> .iter a) ⟨1,0,0,true,true,[.str e,.int .i64 0]⟩)
 |_=>none
def xY(d:ab)(f:ah):Hd:=λcx c a b=>dJ (cx.ty d) λe=>match e.u with
 | .str=>BS f cx c a b
 |_=>none
def xS(c:List Nat)(b:Nat):aa (Nat×Nat):=dJ (lF c b) λa=>Bool.casesOn (Nat.blt a 128) (Bool.casesOn (Nat.blt a 256) (some (65533,1)) (some (Utf8.decode ⟨(c.map UInt8.ofNat).toArray⟩ b))) (some (a,1))
def za(i:ah):Hd:=λcx j g c=>(dJ (fy cx j g i) λm=>match m with
 | .iter e=>dJ (c.get e) λa=>fP a.it (match a.ee with
  | [.str d,.int _ (.ofNat b)]=>Bool.casesOn (Nat.blt b (kx d)) (some (.val (.tuple [.bool false]) c))
   (dJ (xS d b) λl=>two l λf wd=>dJ (f6 (Nat.add b wd)) λk=>dJ (f6 (Nat.succ a.ver)) λn=>
     dJ (c.put e ⟨a.sz,a.ep,n,a.exact,true,[.str d,.int .i64 (.ofNat k)]⟩) λh=>
      some (.val (.tuple [.bool true,.int .i64 (.ofNat b),.int .i32 (.ofNat f)]) h))
  |_=>none)
 |_=>none)
def GW(d:ah)(c:Bool):Hd:=λcx e a b=>Bool.casesOn c none (za d cx e a b)
def LV(cx:Ctx)(a:H)(h:List ab)(c:T):aa kW:=
 dJ (lF h 0) λg=>dJ (cx.ty g) λi=>match i.u with
  | .str=>(match c with
   | .str f=>val a (dJ (f6 (kx f)) λb=>some (.int .i64 (.ofNat b)))
   |_=>none)
  | .slice _=>(match c with
   | .dC d _=>val a (dJ (f6 (kx d)) λb=>some (.int .i64 (.ofNat b)))
   | .fO=>val a (some (.int .i64 0))
   | .arr _ _ _ e _=>val a (some (.int .i64 (.ofNat e)))
   |_=>none)
  | .array b _=>val a (some (.int .i64 (.ofNat b)))
  |_=>none
def pN(cx:Ctx)(b:ab):aa Ty:=
 dJ (cx.ty b) λc=>match c.u with| .slice a=>cx.ty a|_=>none
def mY(cx:Ctx)(d:H)(e:ab)(a:T):aa (List T):=
 dJ (cx.ty e) λf=>match f.u with
  | .str=>(match a with| .str b=>fw (λc=>some (T.int .u8 (.ofNat c))) b|_=>none)
  | .slice _=>d.jc a
  |_=>none
def iK(cx:Ctx)(b:H)(e f:ab)(d g:T):aa kW:=
 dJ (pN cx e) λa=>dJ (mY cx b f g) λc=>fP (fits a.size c) (jl (b.append a.size a.bytes d c))
def Cs(cx:Ctx)(a:H)(n:ab)(q:T):aa kW:=
 dJ (pN cx n) λg=>match q with
  | .dC b _=>List.casesOn b (some (.val .undef a)) λ_ _=>none
  | .fO=>some (.val .undef a)
  | .arr c j m e _=>Nat.casesOn e (some (.val .undef a)) λ_=>dJ (a.get c) λh=>iJ.casesOn h λf d o exact l i=>
   fP (Nat.beq d j)<|fP (Nat.beq f g.size) (Bool.casesOn l
    (dJ (kt i m (oE g.jV e)) λb=>dJ (f6 (Nat.succ o)) λp=>
      dJ (a.put c ⟨f,d,p,exact,false,b⟩) λk=>some (.val .undef k)) none)
  |_=>none
def kN:Builtin->Ctx->H->List ab->List T->aa kW
 | .clear=>λcx b f a=>(match a with| [c]=>(match f with| [h]=>Cs cx b h c|_=>none)|_=>none)
 | .len=>λcx b f a=>(match a with| [c]=>LV cx b f c|_=>none)
 | .append=>λcx b f a=>(match a with| [j,c]=>(match f with| [h,k]=>iK cx b h k j c|_=>none)|_=>none)
 | .min=>λ_ b _ a=>(match a with| [c,i]=>val b (wc c i λg d e=>wP g (Bool.casesOn (JV e d) d e))|_=>none)
 | .max=>λ_ b _ a=>(match a with| [c,i]=>val b (wc c i λg d e=>wP g (Bool.casesOn (JV d e) d e))|_=>none)
 |_=>λ_ _ _ _=>none
def BW(a:Call):Hd:=λcx e d h=>dJ (pi cx e d a.args.toList) λc=>match a.callee with
 | .builtin f=>kN f cx h a.argTypes.toList c
 | .value b=>dJ (fy cx e d b) λj=>(match j with
  | .func b g=>dJ (Dp c g) λi=>some (.call b i)
  |_=>none)
 |_=>none
def iW:Op->Hd
 | .move a=>BT a
 | .assign a=>BT a
 | .pick d c g=>D4 d c g
 | .alloc b=>BX b
 | .box _ a=>LD a
 | .build b i=>zj b i
 | .buildSlice b q i=>nJ b q i
 | .load b c=>GZ b c
 | .store b c a=>BQ b c a
 | .nilCheck a=>qv a
 | .binOp f b a j _=>(match f with| .eql=>UJ false b a j| .neq=>UJ true b a j|_=>LE f a j)
 | .unOp f _ a=>Zu f a
 | .convert s k a=>JY s k a
 | .makeInterface b a=>zg b a
 | .makeFunc l c g=>BU l c g
 | .makeSlice b n d=>oJ b n d
 | .slice b a o m p=>BR b a o m p
 | .fieldAddr b a h=>oL b a h
 | .field b a h=>zi b a h
 | .indexAddr b a e=>oK b a e
 | .index b a e=>zf b a e
 | .extract a e=>tH a e
 | .makeMap .. =>λ_ _ _ _=>none
 | .lookup .. =>λ_ _ _ _=>none
 | .mapUpdate .. =>λ_ _ _ _=>none
 | .range b a=>xY b a
 | .next it r=>GW it r
 | .entry _=>λ_ _ _ _=>none
 | .call d=>BW d
 |_=>λ_ _ _ _=>none
def Ap(e:ai):TypeDesc->aa U
 | .int c=>some (.int c)
 | .bool=>some .bool
 | .string=>some .str
 | .slice a=>some (.slice a)
 | .array g a=>some (.array g a)
 | .struct d=>if d.toList.all (λb=>(e.info? b.type).any λf=> !(f.size==0))then some (.struct (d.toList.map λb=>(b.offset,b.type)))else none
 | .pointer a=>some (.ptr a)
 | .map c a=>some (.map c a)
 | .func _ _ _=>some .func
 | .interface _=>some .iface
 |_=>some .other
def sk(a:TypeDesc)(b:am):Bool:=
 match a,b with
 | .struct _,.agg _| .array _ _,.agg _=>true
 | .struct _,_| .array _ _,_|_,.agg _=>false
 |_,_=>true
def JT:TypeDesc->Bool
 | .struct b=>b.toList.all λa=>a.name != "_"
 |_=>true
def TK(a:ai)(c:ab)(e:Bool):aa Ty:=
 dJ (a.info? c) λb=>dJ (a.underlying c) λd=>dJ b.zero λf=>dJ (fw nl f.cells.toList) λg=>dJ (Ap a d) λh=>
  fP (sk d f) (fP (Nat.beq (kx g) b.size) (fP (Bool.casesOn e true (!a.stoodInHeld c&& !a.eqGuardType a.depth c&&JT d)) (some ⟨h,b.size,b.bytes,e,g⟩)))
abbrev iG:=aj->List T->H->aa (T×H)
def j3(i:af Oper)(g:Nat)(d:Env)(e:aa (Nat×Bool)):aa Bool:=
 Option.casesOn e (some true) λj=>two j λf a=>dJ (dJ (dJ (lF i.toList f) λh=>h.dst) λc=>d.get g c) λk=>
  match k with
  | .bool b=>some (Bool.casesOn b (Bool.casesOn a true false) a)
  |_=>some false
def kQ(cx:Ctx)(call:iG)(c:Nat)(k:af Oper)(a:Env)(e:H)(d:Oper):aa (Env×H):=
 dJ (j3 k c a d.guard) λm=>Bool.casesOn m
  (dJ (a.dst c d.dst .undef) λb=>some (b,e))
  (dJ (iW d.op cx c a e) λi=>kW.casesOn i
    (λg f=>dJ (a.dst c d.dst g) λb=>some (b,f))
    (λj h=>dJ (call j h e) λl=>two l λg f=>dJ (a.dst c d.dst g) λb=>some (b,f)))
def j8(cx:Ctx)(call:iG)(g:Nat)(i:af Oper)(f:List Oper):Env->H->aa (Env×H):=
 @List.rec Oper (λ_=>Env->H->aa (Env×H)) (λa b=>some (a,b))
  (λh _ e a b=>dJ (kQ cx call g i a b h) λj=>two j λc d=>e c d) f
def dL:T->aa Nat
 | .ptr a _ _ _=>some a
 | .arr a _ _ _ _=>some a
 | .map a=>some a
 |_=>none
def fU(cx:Ctx)(d:Nat)(b:Env)(c:H)(e:Op):aa Nat:=
 match e with
 | .load _ a=>dJ (fy cx d b a) dL
 | .indexAddr _ a _=>dJ (fy cx d b a) dL
 | .slice _ a _ _ _=>dJ (fy cx d b a) dL
 | .convert _ _ a=>dJ (fy cx d b a) dL
 | .lookup _ a _ _=>dJ (fy cx d b a) dL
 | .makeMap _ _=>some c.size
 | .alloc _=>some c.size
 | .box _ _=>some c.size
 | .buildSlice _ _ _=>some c.size
 | .makeSlice _ _ _=>some c.size
 |_=>none
def hU:Op->Bool
 | .store .. =>true
 | .call b=>(match b.callee with
  | .builtin a=>(match a with| .len| .min| .max=>false|_=>true)
  |_=>true)
 | .next .. =>true
 | .range .. =>true
 | .entry .. =>true
 | .mapUpdate .. =>true
 |_=>false
structure Seen where
 lL:List (Nat×Nat)
 kz:List (Nat×H×H)
def v8(c:List Nat)(d:List Edge):Nat:=
 d.foldr (λa b=>Bool.casesOn (Region.binds .any a) b (Nat.lor b (Nat.lor (Nat.shiftLeft 1 a.on) (c.getD a.on 0)))) 0
def Jg:List Oper->List Nat->List Nat
 | [],a=>a
 |o::b,a=>Jg b (a++[v8 a o.after.toList])
def ju(c:af Oper)(a b:Nat):Bool:=((Jg c.toList []).getD b 0).testBit a
def ew(b c:H)(a:Nat):Bool:=
 Option.casesOn (b.get a) true λd=>Option.casesOn (c.get a) false λe=>Nat.beq d.ver e.ver
def nC(e:af Oper)(c b:Nat)(d:List (Nat×H×H)):Bool:=
 we (λa=>Bool.casesOn (ew a.2.1 a.2.2 b) (ju e a.1 c) true) d
def wA(f:af Oper)(d:Nat)(b c:H)(e:List (Nat×Nat)):Bool:=
 we (λa=>Bool.casesOn (ew b c a.2) (ju f a.1 d) true) e
def pY(cx:Ctx)(e:Nat)(g:af Oper)(c:Nat)(b:Env)(d:List (Nat×H×H))(f:Op):Bool:=
 match f with
 | .store _ h _=>Option.casesOn (dJ (fy cx e b h) dL) true λa=>nC g c a d
 |_=>true
def jJ(cx:Ctx)(call:iG)(j:Nat)(g:af Oper)(l:List Oper):Nat->Seen->Env->H->aa (Env×H):=
 @List.rec Oper (λ_=>Nat->Seen->Env->H->aa (Env×H)) (λ_ _ c d=>some (c,d))
  (λf _ i a b c d=>dJ (kQ cx call j g c d f) λm=>two m λh e=>
    dJ (j3 g j c f.guard) λn=>Bool.casesOn n (i (Nat.succ a) b h e)
     (Bool.casesOn (hU f.op)
       (Option.casesOn (fU cx j c d f.op) (i (Nat.succ a) b h e)
         λk=>fP (nC g a k b.kz) (i (Nat.succ a) ⟨(a,k)::b.lL,b.kz⟩ h e))
       (fP (wA g a d e b.lL) (fP (pY cx j g a c b.kz f.op) (i (Nat.succ a) ⟨b.lL,(a,d,e)::b.kz⟩ h e))))) l
inductive Ex where
 |normal|exit (id:Nat)|ret
 deriving Inhabited
abbrev Out:=aa (Ex×Env×H)
def three{a:Type}(e:Ex×Env×H)(c:Ex->Env->H->a):a:=Prod.casesOn e λg f=>Prod.casesOn f λb d=>c g b d
def nH(c:Env->H->Out)(h:Nat):Env->H->Out:=
 @Nat.rec (λ_=>Env->H->Out) (λ_ _=>none)
  (λ_ g d e=>dJ (c d e) λi=>three i λj a b=>Ex.casesOn j (g a b) (λf=>some (.exit f,a,b)) (some (.ret,a,b))) h
def JC(cx:Ctx)(call:iG)(g:Nat)(a:af Oper)(i:Bool)(j:Env)(f:H):Out:=
 Env.casesOn j λh _=>Bool.casesOn i
  (dJ (j8 cx call g a a.toList ⟨h,.nil⟩ f) λd=>two d λb c=>some (.normal,Env.casesOn b λe _=>⟨e,.nil⟩,c))
  (dJ (jJ cx call g a a.toList 0 ⟨[],[]⟩ ⟨h,.nil⟩ f) λd=>two d λb c=>some (.normal,Env.casesOn b λe _=>⟨e,.nil⟩,c))
def Bb(c d:Env->H->Out)(e:Env)(f:H):Out:=
 dJ (c e f) λh=>three h λi a b=>Ex.casesOn i (d a b) (λg=>some (.exit g,a,b)) (some (.ret,a,b))
def Hg(cx:Ctx)(f:Nat)(e:ah)(c d:Env->H->Out)(a:Env)(b:H):Out:=
 dJ (fy cx f a e) λh=>match h with
  | .bool g=>Bool.casesOn g (d a b) (c a b)
  |_=>none
def xm(id:Nat)(d:Env->H->Out)(e:Env)(f:H):Out:=
 dJ (d e f) λg=>three g λh a b=>Ex.casesOn h (some (.normal,a,b)) (λc=>Bool.casesOn (Nat.beq c id) (some (.exit c,a,b)) (some (.normal,a,b))) (some (.ret,a,b))
def jL(cx:Ctx)(call:iG)(c a:Nat):Code->Env->H->Out
 | .skip=>λd e=>some (.normal,d,e)
 | .region _ i h=>JC cx call a i h
 | .seq f b=>Bb (jL cx call c a f) (jL cx call c a b)
 | .cond g f b=>Hg cx a g (jL cx call c a f) (jL cx call c a b)
 | .block id b=>xm id (jL cx call c a b)
 | .loop b=>nH (jL cx call c a b) c
 | .exit id=>λd e=>some (.exit id,d,e)
 | .ret=>λd e=>some (.ret,d,e)
 |_=>λ_ _=>none
def lM(g:Nat)(h:Nat):Nat->List T->aa fJ:=
 @Nat.rec (λ_=>Nat->List T->aa fJ) (λ_ _=>some .nil)
  (λ_ c a f=>dJ (f6 (Nat.succ a)) λb=>List.casesOn f
    (Bool.casesOn (jS g a) (c b []) (dJ (c b []) λd=>some (.cons a .undef d)))
    λe i=>dJ (c b i) λd=>some (.cons a e d)) h
def mw(cx:Ctx)(c:Nat)(b:Env)(e:H)(f:List ResultVar):aa (List T):=
 fw (λh=>ResultVar.casesOn h (λa=>b.get c a) (λd a=>dJ (b.get c d) λg=>dJ (cx.ty a) λi=>e.load i g)) f
def u0(b:Nat)(e:List Nat):Nat->aa Int:=
 @List.rec Nat (λ_=>Nat->aa Int) (λ_=>some (.negSucc 0))
  (λf _ d a=>Bool.casesOn (Nat.beq f b) (dJ (f6 (Nat.succ a)) λc=>d c) (some (.ofNat a))) e
def Bn(f:Prim)(b:List T)(a:H):aa (T×H):=
 match f with
 | .nd=>(match b with
  | [.str g,.int .u8 (.ofNat c)]=>fP (Nat.blt c 256) (dJ (u0 c g 0) λe=>some (.int .i64 e,a))
  |_=>none)
 | .clone h bytes=>(match b with
  | [i]=>dJ (a.jc i) λd=>List.casesOn d (some (.dC [] false,a)) λ_ _=>a.iU h bytes [] d
  |_=>none)
def js(a:List T):T:=match a with| [b]=>b|_=> .tuple a
def rU(cx:Ctx)(call:iG)(l:Nat)(a:Func)(c:Nat)(g:Bool)(i:List T)(m:H):aa (T×H):=
 Option.casesOn a.body none λj=>H.casesOn m λd h k=>
  dJ (lM c a.ntmps 0 i) λo=>
  dJ (jL cx call l c j ⟨o,.nil⟩ ⟨d,d,k⟩) λn=>three n λp f b=>Ex.casesOn p
   (dJ (mw cx c f b a.results.toList) λe=>BJ g d h (js e) b)
   (λ_=>none)
   (dJ (mw cx c f b a.results.toList) λe=>BJ g d h (js e) b)
end
end Go.TI
