/- TiDefs -/
import GoSem.Step
set_option linter.all false
namespace Go.TI
theorem nl9{α:Type}{f:α->Nat}{b:Nat}(h:∀a,Nat.ble (f a) b=true:=by intro _;rfl):∀a,f a<=b:=λa=>Nat.le_of_ble_eq_true (h a)
theorem J{p:Prop}(h:p:=by omega):p:=h
theorem dy{p:Prop}(h:p:=by simp):p:=h
theorem dz{p:Prop}(h:p:=by (simp;omega)):p:=h
theorem dA{p:Prop}(h:p:=by (simp only;omega)):p:=h
theorem dB{p:Prop}(h:p:=by decide):p:=h
end Go.TI
namespace Go.TI
abbrev aa:=@Option
abbrev ab:=@TypeId
abbrev af:=@Array
abbrev ah:=@Operand
abbrev ai:=@Program
abbrev aj:=@FuncId
abbrev ak:=@IntKind
abbrev ao:=@Value
theorem aq:type_of% @if_neg:=@if_neg
theorem ar:type_of% @if_pos:=@if_pos
theorem au:type_of% @Option.some.injEq:=@Option.some.injEq
theorem aw:type_of% @Nat.le_refl:=@Nat.le_refl
theorem ax:type_of% @Nat.zero_le:=@Nat.zero_le
theorem ay:type_of% @List.mem_of_getElem?:=@List.mem_of_getElem?
theorem az:type_of% @List.getElem?_eq_getElem:=@List.getElem?_eq_getElem
theorem aB:type_of% @Bool.and_eq_true:=@Bool.and_eq_true
theorem aC:type_of% @Prod.ext:=@Prod.ext
theorem aD:type_of% @Prod.mk.injEq:=@Prod.mk.injEq
theorem aF:type_of% @List.getElem_mem:=@List.getElem_mem
theorem aG:type_of% @Nat.eq_of_beq_eq_true:=@Nat.eq_of_beq_eq_true
theorem aH:type_of% @List.length_map:=@List.length_map
theorem aI:type_of% @List.drop_eq_getElem_cons:=@List.drop_eq_getElem_cons
theorem aJ:type_of% @Nat.blt_eq:=@Nat.blt_eq
theorem aK:type_of% @List.take_length:=@List.take_length
theorem aL:type_of% @List.cons.injEq:=@List.cons.injEq
theorem aM:type_of% @decide_eq_false:=@decide_eq_false
theorem aO:type_of% @decide_eq_true_eq:=@decide_eq_true_eq
theorem aP:type_of% @List.map_cons:=@List.map_cons
theorem aQ:type_of% @List.take_succ_eq_append_getElem:=@List.take_succ_eq_append_getElem
theorem aR:type_of% @Nat.lt_or_ge:=@Nat.lt_or_ge
theorem aS:type_of% @List.getElem?_map:=@List.getElem?_map
theorem aT:type_of% @Nat.le_trans:=@Nat.le_trans
theorem aU:type_of% @List.length_cons:=@List.length_cons
theorem aV:type_of% @decide_eq_true:=@decide_eq_true
theorem aW:type_of% @Nat.mul_le_mul_right:=@Nat.mul_le_mul_right
theorem aY:type_of% @Ne.symm:=@Ne.symm
theorem aZ:type_of% @Bool.true_and:=@Bool.true_and
theorem bg:type_of% @List.eq_nil_of_length_eq_zero:=@List.eq_nil_of_length_eq_zero
theorem bh:type_of% @Nat.le_of_ble_eq_true:=@Nat.le_of_ble_eq_true
theorem bj:type_of% @List.length_append:=@List.length_append
theorem bm:type_of% @Bool.eq_iff_iff:=@Bool.eq_iff_iff
theorem bp:type_of% @Nat.le_of_lt:=@Nat.le_of_lt
theorem br:type_of% @List.map_set:=@List.map_set
theorem bw:type_of% @if_false:=@if_false
theorem bA:type_of% @if_true:=@if_true
theorem bD:type_of% @Nat.lt_of_lt_of_le:=@Nat.lt_of_lt_of_le
theorem bE:type_of% @congrArg:=@congrArg
theorem bF:type_of% @List.mem_of_mem_take:=@List.mem_of_mem_take
theorem bG:type_of% @List.mem_of_mem_drop:=@List.mem_of_mem_drop
theorem bI:type_of% @List.map_nil:=@List.map_nil
theorem bJ:type_of% @List.take_of_length_le:=@List.take_of_length_le
theorem bK:type_of% @List.getElem?_eq_none:=@List.getElem?_eq_none
theorem bL:type_of% @List.getElem?_drop:=@List.getElem?_drop
theorem bM:type_of% @List.eq_of_mem_replicate:=@List.eq_of_mem_replicate
theorem bO:type_of% @List.drop_length:=@List.drop_length
theorem bP:type_of% @Array.getD_eq_getD_getElem?:=@Array.getD_eq_getD_getElem?
theorem bQ:type_of% @List.append_nil:=@List.append_nil
theorem bR:type_of% @Nat.ble_eq_true_of_le:=@Nat.ble_eq_true_of_le
theorem bU:type_of% @decide_eq_false_iff_not:=@decide_eq_false_iff_not
theorem bV:type_of% @List.getElem?_set:=@List.getElem?_set
theorem bW:type_of% @Nat.succ_mul:=@Nat.succ_mul
theorem bX:type_of% @Nat.add_mul:=@Nat.add_mul
theorem bY:type_of% @Bool.or_eq_true:=@Bool.or_eq_true
theorem bZ:type_of% @List.mem_cons:=@List.mem_cons
theorem cd:type_of% @List.all_cons:=@List.all_cons
theorem cg:type_of% @Bool.not_eq_true':=@Bool.not_eq_true'
theorem ci:type_of% @Nat.min_eq_left:=@Nat.min_eq_left
theorem cj:type_of% @Int.toNat_natCast:=@Int.toNat_natCast
theorem cm:type_of% @List.mem_or_eq_of_mem_set:=@List.mem_or_eq_of_mem_set
theorem cq:type_of% @List.set_cons_zero:=@List.set_cons_zero
theorem cr:type_of% @Bool.false_eq_true:=@Bool.false_eq_true
theorem cu:type_of% @List.getElem?_take:=@List.getElem?_take
theorem cv:type_of% @Array.ext':=@Array.ext'
theorem cw:type_of% @List.set_cons_succ:=@List.set_cons_succ
theorem cy:type_of% @List.cons_append:=@List.cons_append
theorem cz:type_of% @Bool.or_eq_false_iff:=@Bool.or_eq_false_iff
theorem cA:type_of% @Nat.zero_add:=@Nat.zero_add
theorem cB:type_of% @List.ext_getElem?:=@List.ext_getElem?
theorem cC:type_of% @Array.length_toList:=@Array.length_toList
theorem cD:type_of% @List.all_eq_true:=@List.all_eq_true
theorem cE:type_of% @List.getD_eq_getElem?_getD:=@List.getD_eq_getElem?_getD
theorem cF:type_of% @List.getElem?_of_mem:=@List.getElem?_of_mem
theorem cG:type_of% @List.not_mem_nil:=@List.not_mem_nil
theorem cH:type_of% @Bool.not_eq_false':=@Bool.not_eq_false'
theorem cI:type_of% @List.map_map:=@List.map_map
theorem cJ:type_of% @Nat.add_assoc:=@Nat.add_assoc
theorem cK:type_of% @List.getElem?_append_left:=@List.getElem?_append_left
theorem cM:type_of% @List.length_nil:=@List.length_nil
theorem cN:type_of% @List.flatMap_cons:=@List.flatMap_cons
theorem cO:type_of% @List.append_assoc:=@List.append_assoc
theorem cP:type_of% @Nat.ne_of_beq_eq_false:=@Nat.ne_of_beq_eq_false
theorem cQ:type_of% @List.take_append_drop:=@List.take_append_drop
theorem cR:type_of% @List.length_set:=@List.length_set
theorem cS:type_of% @List.drop_drop:=@List.drop_drop
theorem cT:type_of% @Option.map_some:=@Option.map_some
theorem cU:type_of% @List.take_append_of_le_length:=@List.take_append_of_le_length
theorem cV:type_of% @List.getElem?_append_right:=@List.getElem?_append_right
theorem cW:type_of% @List.mem_append_left:=@List.mem_append_left
theorem cX:type_of% @Nat.lt_succ_self:=@Nat.lt_succ_self
theorem cY:type_of% @List.getElem?_modify:=@List.getElem?_modify
theorem cZ:type_of% @List.flatMap_nil:=@List.flatMap_nil
theorem c8:type_of% @Bool.false_and:=@Bool.false_and
theorem da:type_of% @List.replicate_succ:=@List.replicate_succ
theorem db:type_of% @List.toList_toArray:=@List.toList_toArray
theorem dc:type_of% @List.mem_iff_getElem?:=@List.mem_iff_getElem?
theorem df:type_of% @List.getElem?_cons_succ:=@List.getElem?_cons_succ
theorem dg:type_of% @Nat.lt_trichotomy:=@Nat.lt_trichotomy
theorem dh:type_of% @Bool.eq_false_iff:=@Bool.eq_false_iff
theorem dj:type_of% @List.pairwise_cons:=@List.pairwise_cons
theorem dq:type_of% @List.take_add_one:=@List.take_add_one
theorem dt:type_of% @List.getElem?_set_self:=@List.getElem?_set_self
theorem du:type_of% @List.getElem?_set_ne:=@List.getElem?_set_ne
theorem dw:type_of% @List.mem_append_right:=@List.mem_append_right
end Go.TI
namespace Go.TI
noncomputable section
inductive T where
 |undef
 |bool (b:Bool)
 |int (k:ak) (n:Int)
 |str (s:List Nat)
 |kH
 |ptr (b ep i j:Nat)
 |jD (cells:List T)
 |dK (fg:List T) (full:Bool)
 |gX
 |arr (b ep o l:Nat) (full:Bool)
 |func (f:aj) (captured:List T)
 |kS
 |kR
 |iface (t:ab) (v:T)
 |iter (b:Nat)
 |map (b:Nat)
 |nZ
 |agg (cells:List T)
 |tuple (vs:List T)
 deriving Inhabited
def T.cells:T->List T
 | .agg a=>a
 |v=>[v]
def T.iy:T->Bool
 | .undef| .tuple _=>false
 |_=>true
structure iY where
 sz:Nat
 ep:Nat
 ver:Nat
 exact:Bool
 it:Bool
 fg:List T
 deriving Inhabited
structure H where
 size:Nat
 low:Nat
 fH:List iY
 deriving Inhabited
inductive U where
 |int (k:ak)|bool|str|slice (e:ab)|array (n:Nat) (e:ab)|map (k e:ab)|struct (fs:List (Nat×ab))|ptr (e:ab)|func|iface|other
 deriving Inhabited
structure Ty where
 u:U
 size:Nat
 bytes:Nat
 cmp:Bool
 zero:List T
 deriving Inhabited
inductive Prim where
 |oo
 |clone (sz bytes:Nat)
 deriving Inhabited
structure Fun where
 fn:Func
 mask:Nat
 kT:Bool
 agl:aa Prim
 deriving Inhabited
structure Ctx where
 ty:ab->aa Ty
 fn:aj->aa Fun
 gl:Nat->aa (List T)
def dV{a b:Type}(d:aa a)(c:a->aa b):aa b:=Option.casesOn d none c
def gJ{a:Type}(b:Bool)(c:aa a):aa a:=Bool.casesOn b none c
def two{a b c:Type}(e:a×b)(d:a->b->c):c:=Prod.casesOn e d
def mI{a:Type}(c:List a):Nat->aa a:=
 @List.rec a (λ_=>Nat->aa a) (λ_=>none) (λf _ b e=> @Nat.rec (λ_=>aa a) (some f) (λd _=>b d) e) c
def kO{a:Type}(d:List a):Nat->a->aa (List a):=
 @List.rec a (λ_=>Nat->a->aa (List a)) (λ_ _=>none)
  (λi g c f b=> @Nat.rec (λ_=>aa (List a)) (some (b::g)) (λe _=>dV (c e b) λh=>some (i::h)) f) d
def takeN{a:Type}(d:Nat):List a->aa (List a):=
 @Nat.rec (λ_=>List a->aa (List a)) (λ_=>some [])
  (λ_ b c=> @List.rec a (λ_=>aa (List a)) none (λg e _=>dV (b e) λf=>some (g::f)) c) d
def j4{a:Type}(d:Nat):List a->aa (List a):=
 @Nat.rec (λ_=>List a->aa (List a)) (λb=>some b)
  (λ_ c b=> @List.rec a (λ_=>aa (List a)) none (λ_ e _=>c e) b) d
def kY{a:Type}(c:List a):Nat:= @List.rec a (λ_=>Nat) 0 (λ_ _ b=>Nat.succ b) c
def Fb{a:Type}(e f:List a):aa (List a):=
 @List.rec a (λ_=>aa (List a)) (some f) (λd _ b=>dV b λc=>some (d::c)) e
def fQ{a b:Type}(c:a->aa b)(e:List a):aa (List b):=
 @List.rec a (λ_=>aa (List b)) (some []) (λg _ d=>dV (c g) λh=>dV d λf=>some (h::f)) e
def pK{a:Type}(d:a)(c:Nat):List a:= @Nat.rec (λ_=>List a) [] (λ_ b=>d::b) c
def xG{a:Type}(b:a->Bool)(d:List a):Bool:= @List.rec a (λ_=>Bool) true (λe _ c=>Bool.rec false c (b e)) d
def ir(b:Nat):aa Nat:=Nat.casesOn b (some 0) (λa=>some (Nat.succ a))
def LH(c:Int):aa Int:=
 Int.casesOn c (λa=>Nat.casesOn a (some (.ofNat 0)) (λb=>some (.ofNat (Nat.succ b)))) (λa=>Nat.casesOn a (some (.negSucc 0)) (λb=>some (.negSucc (Nat.succ b))))
def yi(a:ak)(c:Int):aa T:=dV (LH c) λb=>some (.int a b)
def xL(a:Bool):aa T:=Bool.casesOn a (some (.bool false)) (some (.bool true))
def kNo:ak->Nat
 | .i8=>0| .i16=>1| .i32=>2| .i64=>3| .u8=>4| .u16=>5| .u32=>6| .u64=>7
def EK(a b:ak):Bool:=Nat.beq (kNo a) (kNo b)
def LM(d c:Int):Bool:=Int.casesOn d (λa=>Int.casesOn c (λb=>Nat.blt a b) (λ_=>false)) (λa=>Int.casesOn c (λ_=>true) (λb=>Nat.blt b a))
def Sl(d c:Int):Bool:=Int.casesOn d (λa=>Int.casesOn c (λb=>Nat.beq a b) (λ_=>false)) (λa=>Int.casesOn c (λ_=>false) (λb=>Nat.beq a b))
def Lf(k:ak)(a:Int):Int:=
 match k with
 | .i64=>Int.casesOn a (λb=>Bool.casesOn (Nat.ble b 9223372036854775807) (IntKind.i64.wrap a) a) (λb=>Bool.casesOn (Nat.ble b 9223372036854775807) (IntKind.i64.wrap a) a)
 |k=>k.wrap a
def qr(a:ak)(b:Int):aa T:=yi a (Lf a b)
def VF(b:List Nat):List Nat->Bool:=
 @List.rec Nat (λ_=>List Nat->Bool) (λa=>List.casesOn a true (λ_ _=>false))
  (λe _ c a=>List.casesOn a false (λf d=>Bool.rec false (c d) (Nat.beq e f))) b
def Sk(d:List Nat):List Nat->Bool:=
 @List.rec Nat (λ_=>List Nat->Bool) (λa=>List.casesOn a false (λ_ _=>true))
  (λb _ e a=>List.casesOn a false (λc f=>Bool.rec (Bool.rec false (e f) (Nat.beq b c)) true (Nat.blt b c))) d
def H.get(d:H)(a:Nat):aa iY:=
 H.casesOn d λb _ c=>gJ (Nat.blt a b) (mI c (Nat.sub (Nat.sub b 1) a))
def H.new(g:Nat->T)(c:H)(h:iY):aa (T×H):=
 H.casesOn c λa d b=>dV (ir (Nat.succ a)) λe=>some (g a,⟨e,d,h::b⟩)
def H.put(g:H)(a:Nat)(x:iY):aa H:=
 H.casesOn g λb e f=>gJ (Nat.blt a b)
  (dV (kO f (Nat.sub (Nat.sub b 1) a) x) λd=>Bool.casesOn (Nat.blt a e) (some ⟨b,e,d⟩) (some ⟨b,a,d⟩))
def over(a:List T)(f:List T):aa (List T):=
 @List.rec T (λ_=>List T->aa (List T)) (λa=>some a)
  (λe _ b a=>List.casesOn a none (λ_ c=>dV (b c) λd=>some (e::d))) f a
def kX(a:List T)(d:Nat)(g:List T):aa (List T):=
 @Nat.rec (λ_=>List T->aa (List T)) (λa=>over a g)
  (λ_ c a=>List.casesOn a none (λb e=>dV (c e) λf=>some (b::f))) d a
def Ty.isAgg(a:Ty):Bool:=match a.u with| .struct _| .array _ _=>true|_=>false
def VD(a:List T):T:=List.casesOn a .undef (λb _=>b)
def Ty.ku(a:Ty):T:=Bool.casesOn a.isAgg (VD a.zero) (.agg a.zero)
def kw(b:Ty)(a:List T):aa T:=
 Bool.casesOn b.isAgg (mI a 0) (dV (takeN b.size a) λc=>some (.agg c))
def H.elem(e:H)(a c i:Nat):aa T:=
 dV (e.get a) λx=>iY.casesOn x λ_ d _ _ f b=>gJ (Nat.beq d c) (Bool.casesOn f (mI b i) none)
def H.load(g:H)(b:Ty)(c:T):aa T:=
 match c with
 | .ptr d f h i=>dV (g.elem d f h) λe=>dV (j4 i e.cells) λa=>kw b a
 | .jD a=>kw b a
 |_=>none
def mG(d:T)(a:Nat)(b:List T):aa T:=
 match d with
 | .agg c=>dV (kX c a b) λe=>some (.agg e)
 |_=>match a,b with
  |0,[f]=>some f
  |_,_=>none
def H.store(d:H)(o:Ty)(g f:T):aa H:=
 match g with
 | .ptr a j e m=>gJ (Nat.beq (kY f.cells) o.size) (dV (d.get a) λr=>iY.casesOn r λn c p exact l b=>
  gJ (Nat.beq c j) (Bool.casesOn l (dV (mI b e) λh=>dV (mG h m f.cells) λi=>dV (kO b e i) λk=>
   dV (ir (Nat.succ p)) λq=>d.put a ⟨n,c,q,exact,false,k⟩) none))
 |_=>none
def H.jw(f:H)(k:T):aa (List T):=
 match k with
 | .dK e _=>some e
 | .gX=>some []
 | .arr a c i h _=>dV (f.get a) λl=>iY.casesOn l λ_ d _ _ g b=>gJ (Nat.beq d c) (Bool.casesOn g (dV (j4 i b) λj=>takeN h j) none)
 |_=>none
def fits(c:Nat)(b:List T):Bool:=List.casesOn b true (λa _=>Nat.beq (kY a.cells) c)
def lJ(b:Nat)(exact:Bool)(a:List T):iY:=⟨b,0,0,exact,false,a⟩
def H.jo(g:H)(a bytes:Nat)(d e:List T):aa (T×H):=
 dV (Fb d e) λb=>dV (ir (kY b)) λc=>
 gJ (Nat.ble 1 bytes)<|gJ (Nat.ble (Nat.mul c bytes) 70368744177664) (gJ (fits a d) (gJ (fits a e) (g.new (λf=> .arr f 0 0 c false) (lJ a false b))))
def H.mN(e:H)(g bytes a k o:Nat)(i:List T):aa (T×H):=
 dV (e.get a) λr=>iY.casesOn r λh b p _ n j=>
  dV (takeN o j) λl=>dV (Fb l i) λd=>dV (ir (kY d)) λf=>
  gJ (Nat.ble 1 bytes)<|gJ (Nat.beq b k) (gJ (Nat.beq h g) (gJ (Nat.ble (Nat.mul f bytes) 70368744177664) (gJ (fits g i) (Bool.casesOn n
   (dV (ir (Nat.succ b)) λc=>dV (ir (Nat.succ p)) λq=>
     dV (e.put a ⟨h,c,q,false,false,d⟩) λm=>some (.arr a c 0 f false,m)) none))))
def o9:T->Bool
 | .dK _ _| .gX| .arr .. =>true
 |_=>false
def H.append(a:H)(e bytes:Nat)(d:T)(b:List T):aa (T×H):=
 List.casesOn b (gJ (o9 d) (some (d,a))) λ_ _=>match d with
  | .dK c f=>List.casesOn c (a.jo e bytes [] b) λ_ _=>gJ f (a.jo e bytes c b)
  | .arr g h j i f=>Bool.casesOn f
   (Nat.casesOn j (a.mN e bytes g h i b) λ_=>none)
   (dV (a.jw d) λc=>a.jo e bytes c b)
  |_=>none
def freeze(m:H)(p:Nat)(h:Nat):T->aa T:=
 @Nat.rec (λ_=>T->aa T) (λ_=>none) (λ_ e f=>match f with
  | .arr b i q o l=>gJ (Nat.ble p b) (dV (m.get b) λr=>iY.casesOn r λ_ j _ exact n c=>
   gJ (Nat.beq j i) (Bool.casesOn n (dV (dV (j4 q c) λa=>takeN o a) λk=>dV (fQ e k) λd=>
    List.casesOn d (List.casesOn c (Bool.casesOn exact (some .gX) (some (.dK [] false))) λ_ _=>some .gX) λ_ _=>some (.dK d l)) none))
  | .agg g=>dV (fQ e g) λa=>some (.agg a)
  | .bool _| .int _ _| .str _| .kH| .dK _ _| .gX| .kS| .kR=>some f
  |_=>none) h
def iP(d:H)(c:Nat)(a:T):aa T:=
 match a with
 | .arr b _ _ _ _=>Bool.casesOn (Nat.ble c b) (some a) (freeze d c 12 a)
 | .ptr b _ _ _=>Bool.casesOn (Nat.ble c b) (some a) none
 | .map b=>Bool.casesOn (Nat.ble c b) (some a) none
 | .undef=>some a
 |_=>freeze d c 12 a
def ky(a:H)(b:Nat)(c:T):aa T:=
 match c with
 | .agg d=>dV (fQ (iP a b) d) λe=>some (.agg e)
 |_=>iP a b c
def jn(a:H)(b:Nat)(c:T):aa T:=
 match c with
 | .tuple e=>dV (fQ (ky a b) e) λd=>some (.tuple d)
 |_=>ky a b c
def kz(b:Nat):T->Bool
 | .arr a _ _ _ _=>Nat.blt a b
 | .ptr a _ _ _=>Nat.blt a b
 | .map a=>Nat.blt a b
 | .bool _| .int _ _| .str _| .kH| .dK _ _| .gX| .kS| .kR| .nZ| .jD _=>true
 |_=>false
def below(b:Nat):T->Bool
 | .agg a=>xG (kz b) a
 | .func _ a=>xG (kz b) a
 | .tuple a=>xG (kz b) a
 |v=>kz b v
def sL(d:Nat)(b:Nat):List iY->Bool:=
 @Nat.rec (λ_=>List iY->Bool) (λ_=>true) (λ_ a c=>List.casesOn c true λf e=>Bool.casesOn (xG (below d) f.fg) false (a e)) b
def nJ(c:Nat)(d:T)(f:H):aa (T×H):=
 H.casesOn f λe b a=>Bool.casesOn (Nat.blt b c) (some (d,⟨e,c,a⟩)) (some (d,⟨e,b,a⟩))
def uy(a c:Nat)(i e:T)(h:H):aa (T×H):=
 H.casesOn h λg b f=>dV (j4 (Nat.sub g a) f) λd=>
  Bool.casesOn (Nat.ble a b)
   (Bool.casesOn (sL a (Nat.sub a b) d) (nJ c i ⟨g,b,f⟩)
     (Bool.casesOn (Nat.blt b c) (some (e,⟨a,c,d⟩)) (some (e,⟨a,b,d⟩))))
   (some (e,⟨a,c,d⟩))
def DF(e:Bool)(d c:Nat)(b:T)(a:H):aa (T×H):=
 Bool.casesOn e (Option.casesOn (jn a d b) (nJ c b a) λf=>uy d c b f a) (nJ c b a)
inductive fW where
 |nil
 |cons (s:Nat) (v:T) (r:fW)
 deriving Inhabited
structure Env where
 vars:fW
 tmps:fW
 deriving Inhabited
def dM(c:fW)(d:Nat):aa T:=
 @fW.rec (λ_=>aa T) none (λb e _ a=>Bool.rec a (some e) (Nat.beq b d)) c
def lZ(e:fW)(b:Nat)(c:T):aa fW:=
 @fW.rec (λ_=>aa fW) (some (.cons b c .nil)) (λa h f d=>Bool.rec (dV d λg=>some (.cons a h g)) (some (.cons a c f)) (Nat.beq a b)) e
def ks(a b:Nat):Bool:=Nat.beq (Nat.land (Nat.shiftRight a b) 1) 1
def Env.get(c:Nat)(b:Env)(a:Nat):aa T:=
 Env.casesOn b λe d=>Bool.casesOn (ks c a) (dM d a) (dM e a)
def Env.set(g:Nat)(e:Env)(a:Nat)(c:T):aa Env:=
 Env.casesOn e λd b=>Bool.casesOn (ks g a) (some ⟨d,.cons a c b⟩) (dV (lZ d a c) λf=>some ⟨f,b⟩)
def Env.dst(c:Nat)(a:Env)(b:aa Tmp)(e:T):aa Env:=
 Option.casesOn b (some a) λd=>a.set c d e
def A1(b:List UInt8):aa (List Nat):=fQ (λa=>ir a.toNat) b
def oy:ao->aa T
 | .bool a=>some (.bool a)
 | .int b d=>some (.int b d)
 | .string e=>dV (A1 e.data.toList) λc=>some (.str c)
 | .pointer none=>some .kH
 | .map none=>some .nZ
 | .slice none 0 0=>some (.dK [] false)
 | .nilFunc=>some .kS
 | .nilIface=>some .kR
 |_=>none
def zm:ao->aa T
 | .agg a=>dV (fQ oy a.toList) λb=>some (.agg b)
 |v=>oy v
def fO(cx:Ctx)(e:Nat)(b:Env)(f:ah):aa T:=
 Operand.casesOn f (λg=>b.get e g) (λh=>zm h) (λd=>dV (cx.gl d) λa=>some (.jD a)) (λc=>some (.func c []))
def qz(cx:Ctx)(c:Nat)(a:Env)(b:List ah):aa (List T):=fQ (fO cx c a) b
def qn:T->aa Nat
 | .int _ b=>Int.casesOn b (λa=>some a) (λ_=>none)
 |_=>none
def sI(g:U)(c a:T):aa Bool:=
 match g with
 | .int _=>(match c with| .int e d=>(match a with| .int f b=>gJ (EK e f) (some (Sl d b))|_=>none)|_=>none)
 | .bool=>(match c with| .bool d=>(match a with| .bool b=>some (Bool.casesOn d (Bool.casesOn b true false) b)|_=>none)|_=>none)
 | .str=>(match c with| .str d=>(match a with| .str b=>some (VF d b)|_=>none)|_=>none)
 | .ptr _=>(match c with
  | .kH=>(match a with| .kH=>some true| .ptr .. | .jD _=>some false|_=>none)
  | .ptr .. | .jD _=>(match a with| .kH=>some false|_=>none)
  |_=>none)
 | .func=>(match c with
  | .kS=>(match a with| .kS=>some true| .func .. =>some false|_=>none)
  | .func .. =>(match a with| .kS=>some false|_=>none)
  |_=>none)
 | .iface=>(match c with
  | .kR=>(match a with| .kR=>some true| .iface .. =>some false|_=>none)
  | .iface .. =>(match a with| .kR=>some false|_=>none)
  |_=>none)
 |_=>none
def U.plain:U->Bool
 | .int _| .bool| .str=>true
 |_=>false
def eqFields(cx:Ctx)(f:List (Nat×ab)):Nat->List T->List T->aa Bool:=
 @List.rec (Nat×ab) (λ_=>Nat->List T->List T->aa Bool) (λ_ _ _=>some true)
  (λa _ g b d e=>List.casesOn d none λk h=>List.casesOn e none λl i=>gJ (Nat.beq a.1 b) (dV (cx.ty a.2) λc=>gJ c.u.plain
    (dV (sI c.u k l) λj=>Bool.casesOn j (some false) (g (Nat.succ b) h i)))) f
def zO(f:U)(b:List T):List T->aa Bool:=
 @List.rec T (λ_=>List T->aa Bool) (λa=>List.casesOn a (some true) λ_ _=>none)
  (λg _ c a=>List.casesOn a none λh d=>dV (sI f g h) λe=>Bool.casesOn e (some false) (c d)) b
def Oo(cx:Ctx)(d:Ty)(e f:T):aa Bool:=
 match d.u with
 | .struct h=>(match e with
  | .agg a=>(match f with
   | .agg b=>gJ d.cmp (eqFields cx h 0 a b)
   |_=>none)
  |_=>none)
 | .array i g=>(match e with
  | .agg a=>(match f with
   | .agg b=>gJ d.cmp (dV (cx.ty g) λc=>gJ c.u.plain (gJ (Nat.beq c.size 1) (gJ (Nat.beq (kY a) i) (zO c.u a b))))
   |_=>none)
  |_=>none)
 |u=>sI u e f
def xF(f g:T)(d:ak->Int->Int->aa T):aa T:=
 match f with
 | .int a b=>(match g with| .int e c=>gJ (EK a e) (d a b c)|_=>none)
 |_=>none
def At(f g:T)(d:ak->Int->Nat->aa T):aa T:=
 match f with
 | .int a b=>(match g with| .int _ c=>Int.casesOn c (λe=>d a b (min e a.bits)) (λ_=>none)|_=>none)
 |_=>none
def KU(h c:T)(d:Int->Int->Bool)(e:List Nat->List Nat->Bool):aa T:=
 match h with
 | .int f a=>(match c with| .int g b=>gJ (EK f g) (xL (d a b))|_=>none)
 | .str a=>(match c with| .str b=>xL (e a b)|_=>none)
 |_=>none
def Uu(d e:T):aa T:=
 match d with
 | .str a=>(match e with
  | .str b=>dV (Fb a b) λc=>gJ (Nat.ble (kY c) 4294967296) (some (.str c))
  |_=>none)
 |_=>xF d e λf a b=>qr f (a+b)
def binop:BinOp->T->T->aa T
 | .add=>Uu
 | .sub=>λd e=>xF d e λc a b=>qr c (a-b)
 | .mul=>λd e=>xF d e λc a b=>qr c (a*b)
 | .quo=>λd e=>xF d e λc a b=>Bool.casesOn (Sl b 0) (qr c (a.tdiv b)) none
 | .rem=>λd e=>xF d e λc a b=>Bool.casesOn (Sl b 0) (yi c (a.tmod b)) none
 | .and=>λd e=>xF d e λc a b=>yi c (c.wrap (BitVec.ofInt c.bits a&&&BitVec.ofInt c.bits b).toNat)
 | .or=>λd e=>xF d e λc a b=>yi c (c.wrap (BitVec.ofInt c.bits a|||BitVec.ofInt c.bits b).toNat)
 | .xor=>λd e=>xF d e λc a b=>yi c (c.wrap (BitVec.ofInt c.bits a^^^BitVec.ofInt c.bits b).toNat)
 | .shl=>λd e=>At d e λc a f=>yi c (c.wrap (a*2^f))
 | .shr=>λd e=>At d e λc a f=>yi c (a.fdiv (2^f))
 | .lss=>λd e=>KU d e LM Sk
 | .leq=>λd e=>KU d e (λa b=> !LM b a) (λa b=> !Sk b a)
 | .gtr=>λd e=>KU d e (λa b=>LM b a) (λa b=>Sk b a)
 | .geq=>λd e=>KU d e (λa b=> !LM a b) (λa b=> !Sk a b)
 |_=>λ_ _=>none
def unop:UnOp->T->aa T
 | .neg=>λa=>(match a with| .int c d=>qr c (0-d)|_=>none)
 | .not=>λa=>(match a with| .bool b=>Bool.casesOn b (some (.bool true)) (some (.bool false))|_=>none)
 |_=>λ_=>none
def conv(cx:Ctx)(c:ab)(a:T):aa T:=
 dV (cx.ty c) λb=>match b.u with
  | .int d=>(match a with| .int _ n=>qr d n|_=>none)
  | .str=>(match a with| .str e=>some (.str e)|_=>none)
  |_=>none
def Et(cx:Ctx)(d:ab)(i:T):aa T:=
 dV (cx.ty d) λc=>match c.u with
  | .slice e=>(match i with
   | .str a=>dV (cx.ty e) λh=>(match h.u with
    | .int g=>gJ (EK g .u8) (List.casesOn a (some .gX) λ_ _=>dV (fQ (λb=>some (T.int .u8 (.ofNat b))) a) λf=>some (.dK f false))
    |_=>none)
   |_=>none)
  |_=>none
def xx(cx:Ctx)(c:ab)(a:Nat):aa (Nat×ab):=
 dV (cx.ty c) λd=>match d.u with| .struct b=>mI b a|_=>none
def mP(place:Nat->aa (Nat×Nat))(f:List (Nat×T)):List T->aa (List T):=
 @List.rec (Nat×T) (λ_=>List T->aa (List T)) (λa=>some a)
  (λb _ e a=>dV (place b.1) λc=>gJ (Nat.beq (kY b.2.cells) c.2) (dV (kX a c.1 b.2.cells) λd=>e d)) f
def pW(h:Nat)(g:List (Nat×T)):List T->aa (List T):=
 @List.rec (Nat×T) (λ_=>List T->aa (List T)) (λa=>some a)
  (λf _ e a=>two f λd b=>gJ (Nat.beq (kY b.cells) h) (dV (kO a d b) λc=>e c)) g
def partsOf(cx:Ctx)(e:Nat)(b:Env)(d:List (Nat×ah)):aa (List (Nat×T)):=
 fQ (λg=>two g λc f=>dV (fO cx e b f) λa=>gJ a.iy (some (c,a))) d
def jT(cx:Ctx)(b:Nat)(a:Env)(f:aa ah):aa (aa Nat):=
 Option.casesOn f (some none) λd=>dV (fO cx b a d) λe=>dV (qn e) λc=>some (some c)
def gH(c:aa Nat)(a:Nat):Nat:=Option.casesOn c a λb=>b
def KS{b:Type}(d:List b)(a c:Nat):aa (List b):=dV (j4 a d) λe=>takeN (Nat.sub c a) e
def ue(c:List T)(e:Bool)(d a:Nat)(g:aa Nat):aa T:=
 gJ (Nat.ble d a) (dV (KS c d a) λb=>Option.casesOn g
  (List.casesOn b (List.casesOn c (some (.dK [] false)) λ_ _=>some .gX) λ_ _=>some (.dK b (Bool.casesOn e false (Nat.beq a (kY c)))))
  λf=>gJ (Nat.beq f a) (List.casesOn b (some (.dK [] false)) λ_ _=>some (.dK b true)))
def v7(b c k g:Nat)(h:Bool)(e a:Nat)(j:aa Nat):aa T:=
 gJ (Nat.ble e a) (gJ (Nat.ble a g) (dV (ir (Nat.add k e)) λf=>dV (ir (Nat.sub a e)) λd=>Option.casesOn j
  (Bool.casesOn h (some (.arr b c f d false)) (gJ (Nat.beq a g) (some (.arr b c f d true))))
  λi=>gJ (Nat.beq i a) (some (.arr b c f d true))))
def pH(m:T)(b a c:aa Nat):aa T:=
 match m with
 | .str e=>Option.casesOn c (gJ (Nat.ble (gH b 0) (gH a (kY e))) (dV (KS e (gH b 0) (gH a (kY e))) λl=>some (.str l))) λ_=>none
 | .dK f d=>ue f d (gH b 0) (gH a (kY f)) c
 | .gX=>gJ (Nat.beq (gH b 0) 0) (gJ (Nat.beq (gH a 0) 0) (Option.casesOn c (some .gX) λj=>gJ (Nat.beq j 0) (some (.dK [] false))))
 | .arr h i k g d=>v7 h i k g d (gH b 0) (gH a g) c
 |_=>none
inductive lP where
 |val (v:T) (h:H)
 |call (f:aj) (args:List T)
 deriving Inhabited
def val(a:H)(c:aa T):aa lP:=dV c λb=>some (.val b a)
def jI(d:aa (T×H)):aa lP:=dV d λb=>two b λc a=>some (.val c a)
abbrev Hd:=Ctx->Nat->Env->H->aa lP
def DS(d:ah):Hd:=λcx c a b=>val b (fO cx c a d)
def FV(a e f:ah):Hd:=λcx c b d=>
 dV (fO cx c b a) λa=>match a with
  | .bool g=>Bool.casesOn g (val d (fO cx c b f)) (val d (fO cx c b e))
  |_=>none
def xv(cx:Ctx)(d:Ty):Bool:=
 match d.u with
 | .array _ a=>Option.casesOn (cx.ty a) false λc=>(match c.u with| .int b=>EK b .u8|_=>false)
 |_=>false
def DW(d:ab):Hd:=λcx _ _ c=>dV (cx.ty d) λa=>Bool.casesOn (xv cx a)
 (jI (c.new (λb=> .ptr b 0 0 0) (lJ a.size true [a.ku])))
 (jI (c.new (λb=> .ptr b 0 0 0) (lJ 1 true a.zero)))
def NQ(f:ah):Hd:=λcx e c d=>dV (fO cx e c f) λa=>gJ a.iy (jI (d.new (λb=> .ptr b 0 0 0) (lJ (kY a.cells) true [a])))
def AS(m:ab)(l:af (Nat×ah)):Hd:=λcx k h e=>
 dV (cx.ty m) λc=>dV (partsOf cx k h l.toList) λf=>match c.u with
  | .struct j=>dV (mP (λb=>dV (mI j b) λd=>dV (cx.ty d.2) λn=>some (d.1,n.size)) f c.zero) λa=>val e (some (.agg a))
  | .array _ i=>dV (cx.ty i) λg=>dV (mP (λb=>some (Nat.mul b g.size,g.size)) f c.zero) λa=>val e (some (.agg a))
  |_=>none
def oN(k:ab)(b:Nat)(i:af (Nat×ah)):Hd:=λcx h d g=>
 dV (cx.ty k) λl=>match l.u with
  | .slice e=>dV (cx.ty e) λa=>dV (partsOf cx h d i.toList) λj=>
   gJ (Nat.ble 1 a.size)<|gJ (Nat.ble (Nat.mul b a.size) 65536) (dV (pW a.size j (pK a.ku b)) λf=>
    jI (g.new (λc=> .arr c 0 0 b false) (lJ a.size true f)))
  |_=>none
def IP(e:ab)(a:ah):Hd:=λcx d c b=>dV (cx.ty e) λf=>dV (fO cx d c a) λa=>val b (b.load f a)
def DP(g:ab)(a i:ah):Hd:=λcx c b e=>
 dV (cx.ty g) λh=>dV (fO cx c b a) λa=>dV (fO cx c b i) λd=>gJ d.iy (dV (e.store h a d) λf=>some (.val .undef f))
def rQ(e:ah):Hd:=λcx d b c=>dV (fO cx d b e) λa=>match a with
 | .ptr .. | .jD _| .func .. =>some (.val a c)
 |_=>none
def Bn(c d:ah)(a b:T):Bool:=
 match a with
 | .kR=>(match b with| .kR=>Region.isConst c||Region.isConst d|_=>true)
 |_=>true
def Xp(i:Bool)(j:ab)(f g:ah):Hd:=λcx d c h=>
 dV (cx.ty j) λk=>dV (fO cx d c f) λa=>dV (fO cx d c g) λb=>
  gJ (Bn f g a b) (dV (Oo cx k a b) λe=>val h (xL (Bool.casesOn i e (!e))))
def NR(f:BinOp)(g h:ah):Hd:=λcx b a e=>
 dV (fO cx b a g) λc=>dV (fO cx b a h) λd=>val e (binop f c d)
def hUn(e:UnOp)(f:ah):Hd:=λcx d b c=>dV (fO cx d b f) λa=>val c (unop e a)
def byteOf(d:T):aa Nat:=match d with
 | .int b c=>gJ (EK b .u8) (Int.casesOn c (λa=>gJ (Nat.blt a 256) (some a)) (λ_=>none))
 |_=>none
def HL(cx:Ctx)(d:H)(g:ab)(i:T):aa T:=
 dV (cx.ty g) λf=>match f.u with
  | .slice b=>dV (cx.ty b) λh=>(match h.u with
   | .int e=>gJ (EK e .u8) (dV (d.jw i) λc=>dV (fQ byteOf c) λa=>gJ (Nat.ble (kY a) 4294967296) (some (.str a)))
   |_=>none)
  |_=>none
def LQ(d c:ab)(h:ah):Hd:=λcx g f b=>dV (cx.ty d) λ_=>dV (fO cx g f h) λa=>
 dV (cx.ty c) λe=>match e.u with
  | .slice _=>val b (Et cx c a)
  | .str=>(match a with
   | .str _=>val b (conv cx c a)
   |_=>val b (HL cx b d a))
  |_=>val b (conv cx c a)
def AP(b:ab)(g:ah):Hd:=λcx e c d=>dV (cx.ty b) λf=>match f.u with
 | .iface=>none
 |_=>dV (fO cx e c g) λa=>gJ a.iy (val d (some (.iface b a)))
def DT(e:Fn)(first a:af ah):Hd:=λcx g c f=>match e with
 | .func d=>(match first.toList with
  | []=>dV (qz cx g c a.toList) λb=>val f (some (.func d b))
  |_=>none)
 |_=>none
def pR(i:ab)(a b:ah):Hd:=λcx e d h=>dV (cx.ty i) λj=>match j.u with
 | .slice g=>dV (cx.ty g) λc=>dV (fO cx e d a) λa=>dV (fO cx e d b) λb=>dV (qn a) λa=>dV (qn b) λb=>
  gJ (Nat.ble 1 c.size)<|gJ (Nat.ble 1 c.bytes)<|gJ (Nat.ble a b) (gJ (Nat.ble (Nat.mul b c.bytes) 70368744177664) (jI (h.new (λf=> .arr f 0 0 a false) (lJ c.size (Nat.beq a b) (pK c.ku a)))))
 |_=>none
def AG(a b:aa Nat):Bool:=Option.casesOn b true λ_=>Option.casesOn a false λ_=>true
def jG(cx:Ctx)(f:H)(p:U)(e:T):Bool:=
 match p with
 | .str=>(match e with| .str _=>true|_=>false)
 | .slice d=>Option.casesOn (cx.ty d) false λa=>(match e with
  | .dK j _=>fits a.size j
  | .gX=>true
  | .arr b _ _ _ _=>Option.casesOn (f.get b) false λc=>Nat.beq c.sz a.size
  |_=>false)
 | .array n d=>Option.casesOn (cx.ty d) false λa=>(match e with
  | .ptr b h k m=>Option.casesOn (f.get b) false λc=>iY.casesOn c λo i _ exact l g=>
   Nat.beq o a.size&&Nat.beq i h&&Nat.beq k 0&&Nat.beq m 0&&exact&& !l&&Nat.beq (kY g) n
  |_=>false)
 |_=>false
def asSlice(e:U)(a:T):T:=match e with
 | .array d _=>(match a with| .ptr b c _ _=> .arr b c 0 d false|_=>a)
 |_=>a
def DQ(i:ab)(e:ah)(f b d:aa ah):Hd:=λcx c a g=>dV (cx.ty i) λh=>
 dV (fO cx c a e) λe=>gJ (jG cx g h.u e)<|dV (jT cx c a f) λf=>dV (jT cx c a b) λb=>dV (jT cx c a d) λd=>gJ (AG b d) (val g (pH (asSlice h.u e) f b d))
def pT(n:ab)(a:ah)(i:Nat):Hd:=λcx m g c=>dV (xx cx n i) λb=>dV (fO cx m g a) λa=>match a with
 | .ptr d h j k=>dV (ir (Nat.add k b.1)) λl=>some (.val (.ptr d h j l) c)
 | .jD e=>dV (j4 b.1 e) λf=>some (.val (.jD f) c)
 |_=>none
def AR(i:ab)(a:ah)(e:Nat):Hd:=λcx g d f=>
 dV (xx cx i e) λb=>dV (cx.ty b.2) λj=>dV (fO cx g d a) λa=>match a with
  | .agg c=>dV (j4 b.1 c) λh=>val f (kw j h)
  |_=>none
def kK(a:H)(f:Ty)(l:T)(b:Nat):aa lP:=
 match l with
 | .dK h _=>dV (mI h b) λg=>gJ (Nat.beq (kY g.cells) f.size) (some (.val (.jD g.cells) a))
 | .arr c e k j _=>gJ (Nat.blt b j) (dV (a.get c) λd=>gJ (Nat.beq d.sz f.size)<|gJ (Nat.beq d.ep e) (dV (ir (Nat.add k b)) λi=>some (.val (.ptr c e i 0) a)))
 |_=>none
def pf(a:H)(m:Nat)(d:Ty)(n:T)(b:Nat):aa lP:=
 gJ (Nat.blt b m) (match n with
  | .ptr c e f g=>dV (a.get c) λh=>Bool.casesOn (Nat.beq h.sz d.size)
   (dV (ir (Nat.add g (Nat.mul b d.size))) λl=>some (.val (.ptr c e f l) a))
   (gJ (Nat.beq g 0) (dV (ir (Nat.add f b)) λk=>some (.val (.ptr c e k 0) a)))
  | .jD i=>dV (j4 (Nat.mul b d.size) i) λj=>some (.val (.jD j) a)
  |_=>none)
def pS(j:ab)(a c:ah):Hd:=λcx h e f=>
 dV (cx.ty j) λk=>dV (fO cx h e a) λa=>dV (fO cx h e c) λc=>dV (qn c) λg=>match k.u with
  | .slice b=>dV (cx.ty b) λd=>kK f d a g
  | .array i b=>dV (cx.ty b) λd=>pf f i d a g
  |_=>none
def AO(n:ab)(a c:ah):Hd:=λcx f d e=>
 dV (cx.ty n) λo=>dV (fO cx f d a) λa=>dV (fO cx f d c) λc=>dV (qn c) λb=>match o.u with
  | .str=>(match a with| .str m=>dV (mI m b) λh=>val e (some (.int .u8 (.ofNat h)))|_=>none)
  | .array k j=>(match a with
   | .agg i=>dV (cx.ty j) λg=>gJ (Nat.blt b k) (dV (j4 (Nat.mul b g.size) i) λl=>val e (kw g l))
   |_=>none)
  |_=>none
def uE(g:ah)(c:Nat):Hd:=λcx d a b=>dV (fO cx d a g) λe=>match e with| .tuple f=>val b (mI f c)|_=>none
def DR(g:ah):Hd:=λcx d b c=>dV (fO cx d b g) λf=>match f with
 | .str e=>jI (c.new (λa=> .iter a) ⟨1,0,0,true,true,[.str e,.int .i64 0]⟩)
 |_=>none
def zw(d:ab)(f:ah):Hd:=λcx c a b=>dV (cx.ty d) λe=>match e.u with
 | .str=>DR f cx c a b
 |_=>none
def zo(c:List Nat)(b:Nat):aa (Nat×Nat):=dV (mI c b) λa=>Bool.casesOn (Nat.blt a 128) (Bool.casesOn (Nat.blt a 256) (some (65533,1)) (some (Utf8.decode ⟨(c.map UInt8.ofNat).toArray⟩ b))) (some (a,1))
def AL(i:ah):Hd:=λcx j g c=>(dV (fO cx j g i) λm=>match m with
 | .iter e=>dV (c.get e) λa=>gJ a.it (match a.fg with
  | [.str d,.int _ (.ofNat b)]=>Bool.casesOn (Nat.blt b (kY d)) (some (.val (.tuple [.bool false]) c))
   (dV (zo d b) λl=>two l λf wd=>dV (ir (Nat.add b wd)) λk=>dV (ir (Nat.succ a.ver)) λn=>
     dV (c.put e ⟨a.sz,a.ep,n,a.exact,true,[.str d,.int .i64 (.ofNat k)]⟩) λh=>
      some (.val (.tuple [.bool true,.int .i64 (.ofNat b),.int .i32 (.ofNat f)]) h))
  |_=>none)
 |_=>none)
def IM(d:ah)(c:Bool):Hd:=λcx e a b=>Bool.casesOn c none (AL d cx e a b)
def N8(cx:Ctx)(a:H)(h:List ab)(c:T):aa lP:=
 dV (mI h 0) λg=>dV (cx.ty g) λi=>match i.u with
  | .str=>(match c with
   | .str f=>val a (dV (ir (kY f)) λb=>some (.int .i64 (.ofNat b)))
   |_=>none)
  | .slice _=>(match c with
   | .dK d _=>val a (dV (ir (kY d)) λb=>some (.int .i64 (.ofNat b)))
   | .gX=>val a (some (.int .i64 0))
   | .arr _ _ _ e _=>val a (some (.int .i64 (.ofNat e)))
   |_=>none)
  | .array b _=>val a (some (.int .i64 (.ofNat b)))
  |_=>none
def pX(cx:Ctx)(b:ab):aa Ty:=
 dV (cx.ty b) λc=>match c.u with| .slice a=>cx.ty a|_=>none
def nc(cx:Ctx)(d:H)(e:ab)(a:T):aa (List T):=
 dV (cx.ty e) λf=>match f.u with
  | .str=>(match a with| .str b=>fQ (λc=>some (T.int .u8 (.ofNat c))) b|_=>none)
  | .slice _=>d.jw a
  |_=>none
def iU(cx:Ctx)(b:H)(e f:ab)(d g:T):aa lP:=
 dV (pX cx e) λa=>dV (nc cx b f g) λc=>gJ (fits a.size c) (jI (b.append a.size a.bytes d c))
def Ey(cx:Ctx)(a:H)(n:ab)(q:T):aa lP:=
 dV (pX cx n) λg=>match q with
  | .dK b _=>List.casesOn b (some (.val .undef a)) λ_ _=>none
  | .gX=>some (.val .undef a)
  | .arr c j m e _=>Nat.casesOn e (some (.val .undef a)) λ_=>dV (a.get c) λh=>iY.casesOn h λf d o exact l i=>
   gJ (Nat.beq d j)<|gJ (Nat.beq f g.size) (Bool.casesOn l
    (dV (kX i m (pK g.ku e)) λb=>dV (ir (Nat.succ o)) λp=>
      dV (a.put c ⟨f,d,p,exact,false,b⟩) λk=>some (.val .undef k)) none)
  |_=>none
def lA:Builtin->Ctx->H->List ab->List T->aa lP
 | .clear=>λcx b f a=>(match a with| [c]=>(match f with| [h]=>Ey cx b h c|_=>none)|_=>none)
 | .len=>λcx b f a=>(match a with| [c]=>N8 cx b f c|_=>none)
 | .append=>λcx b f a=>(match a with| [j,c]=>(match f with| [h,k]=>iU cx b h k j c|_=>none)|_=>none)
 | .min=>λ_ b _ a=>(match a with| [c,i]=>val b (xF c i λg d e=>yi g (Bool.casesOn (LM e d) d e))|_=>none)
 | .max=>λ_ b _ a=>(match a with| [c,i]=>val b (xF c i λg d e=>yi g (Bool.casesOn (LM d e) d e))|_=>none)
 |_=>λ_ _ _ _=>none
def DV(a:Call):Hd:=λcx e d h=>dV (qz cx e d a.args.toList) λc=>match a.callee with
 | .builtin f=>lA f cx h a.argTypes.toList c
 | .value b=>dV (fO cx e d b) λj=>(match j with
  | .func b g=>dV (Fb c g) λi=>some (.call b i)
  |_=>none)
 |_=>none
def jr:Op->Hd
 | .move a=>DS a
 | .assign a=>DS a
 | .pick d c g=>FV d c g
 | .alloc b=>DW b
 | .box _ a=>NQ a
 | .build b i=>AS b i
 | .buildSlice b q i=>oN b q i
 | .load b c=>IP b c
 | .store b c a=>DP b c a
 | .nilCheck a=>rQ a
 | .binOp f b a j _=>(match f with| .eql=>Xp false b a j| .neq=>Xp true b a j|_=>NR f a j)
 | .unOp f _ a=>hUn f a
 | .convert s k a=>LQ s k a
 | .makeInterface b a=>AP b a
 | .makeFunc l c g=>DT l c g
 | .makeSlice b n d=>pR b n d
 | .slice b a o m p=>DQ b a o m p
 | .fieldAddr b a h=>pT b a h
 | .field b a h=>AR b a h
 | .indexAddr b a e=>pS b a e
 | .index b a e=>AO b a e
 | .extract a e=>uE a e
 | .makeMap .. =>λ_ _ _ _=>none
 | .lookup .. =>λ_ _ _ _=>none
 | .mapUpdate .. =>λ_ _ _ _=>none
 | .range b a=>zw b a
 | .next it r=>IM it r
 | .entry _=>λ_ _ _ _=>none
 | .call d=>DV d
 |_=>λ_ _ _ _=>none
def BH(e:ai):TypeDesc->aa U
 | .int c=>some (.int c)
 | .bool=>some .bool
 | .string=>some .str
 | .slice a=>some (.slice a)
 | .array g a=>some (.array g a)
 | .struct d=>if d.toList.all (λb=>(e.info? b.type).any λf=> !(f.size==0))then some (.struct (d.toList.map λb=>(b.offset,b.type)))else none
 | .pointer a=>some (.ptr a)
 | .map c a=>some (.map c a)
 | .func _ _ _=>some .func
 | .interface _=>some .iface
 |_=>some .other
def t8(a:TypeDesc)(b:ao):Bool:=
 match a,b with
 | .struct _,.agg _| .array _ _,.agg _=>true
 | .struct _,_| .array _ _,_|_,.agg _=>false
 |_,_=>true
def LJ:TypeDesc->Bool
 | .struct b=>b.toList.all λa=>a.name != "_"
 |_=>true
def V4(a:ai)(c:ab)(e:Bool):aa Ty:=
 dV (a.info? c) λb=>dV (a.underlying c) λd=>dV b.zero λf=>dV (fQ oy f.cells.toList) λg=>dV (BH a d) λh=>
  gJ (t8 d f) (gJ (Nat.beq (kY g) b.size) (gJ (Bool.casesOn e true (!a.stoodInHeld c&& !a.eqGuardType a.depth c&&LJ d)) (some ⟨h,b.size,b.bytes,e,g⟩)))
abbrev jd:=aj->List T->H->aa (T×H)
def kE(i:af Oper)(g:Nat)(d:Env)(e:aa (Nat×Bool)):aa Bool:=
 Option.casesOn e (some true) λj=>two j λf a=>dV (dV (dV (mI i.toList f) λh=>h.dst) λc=>d.get g c) λk=>
  match k with
  | .bool b=>some (Bool.casesOn b (Bool.casesOn a true false) a)
  |_=>some false
def lH(cx:Ctx)(call:jd)(c:Nat)(k:af Oper)(a:Env)(e:H)(d:Oper):aa (Env×H):=
 dV (kE k c a d.guard) λm=>Bool.casesOn m
  (dV (a.dst c d.dst .undef) λb=>some (b,e))
  (dV (jr d.op cx c a e) λi=>lP.casesOn i
    (λg f=>dV (a.dst c d.dst g) λb=>some (b,f))
    (λj h=>dV (call j h e) λl=>two l λg f=>dV (a.dst c d.dst g) λb=>some (b,f)))
def kI(cx:Ctx)(call:jd)(g:Nat)(i:af Oper)(f:List Oper):Env->H->aa (Env×H):=
 @List.rec Oper (λ_=>Env->H->aa (Env×H)) (λa b=>some (a,b))
  (λh _ e a b=>dV (lH cx call g i a b h) λj=>two j λc d=>e c d) f
def dT:T->aa Nat
 | .ptr a _ _ _=>some a
 | .arr a _ _ _ _=>some a
 | .map a=>some a
 |_=>none
def hU(cx:Ctx)(d:Nat)(b:Env)(c:H)(e:Op):aa Nat:=
 match e with
 | .load _ a=>dV (fO cx d b a) dT
 | .indexAddr _ a _=>dV (fO cx d b a) dT
 | .slice _ a _ _ _=>dV (fO cx d b a) dT
 | .convert _ _ a=>dV (fO cx d b a) dT
 | .lookup _ a _ _=>dV (fO cx d b a) dT
 | .makeMap _ _=>some c.size
 | .alloc _=>some c.size
 | .box _ _=>some c.size
 | .buildSlice _ _ _=>some c.size
 | .makeSlice _ _ _=>some c.size
 |_=>none
def iF:Op->Bool
 | .store .. =>true
 | .call b=>(match b.callee with
  | .builtin a=>(match a with| .len| .min| .max=>false|_=>true)
  |_=>true)
 | .next .. =>true
 | .range .. =>true
 | .entry .. =>true
 | .mapUpdate .. =>true
 |_=>false
structure Seen where
 mJ:List (Nat×Nat)
 lf:List (Nat×H×H)
def xD(c:List Nat)(d:List Edge):Nat:=
 d.foldr (λa b=>Bool.casesOn (Region.binds .any a) b (Nat.lor b (Nat.lor (Nat.shiftLeft 1 a.on) (c.getD a.on 0)))) 0
def K3:List Oper->List Nat->List Nat
 | [],a=>a
 |o::b,a=>K3 b (a++[xD a o.after.toList])
def jQ(c:af Oper)(a b:Nat):Bool:=((K3 c.toList []).getD b 0).testBit a
def fk(b c:H)(a:Nat):Bool:=
 Option.casesOn (b.get a) true λd=>Option.casesOn (c.get a) false λe=>Nat.beq d.ver e.ver
def oF(e:af Oper)(c b:Nat)(d:List (Nat×H×H)):Bool:=
 xG (λa=>Bool.casesOn (fk a.2.1 a.2.2 b) (jQ e a.1 c) true) d
def xV(f:af Oper)(d:Nat)(b c:H)(e:List (Nat×Nat)):Bool:=
 xG (λa=>Bool.casesOn (fk b c a.2) (jQ f a.1 d) true) e
def rD(cx:Ctx)(e:Nat)(g:af Oper)(c:Nat)(b:Env)(d:List (Nat×H×H))(f:Op):Bool:=
 match f with
 | .store _ h _=>Option.casesOn (dV (fO cx e b h) dT) true λa=>oF g c a d
 |_=>true
def j7(cx:Ctx)(call:jd)(j:Nat)(g:af Oper)(l:List Oper):Nat->Seen->Env->H->aa (Env×H):=
 @List.rec Oper (λ_=>Nat->Seen->Env->H->aa (Env×H)) (λ_ _ c d=>some (c,d))
  (λf _ i a b c d=>dV (lH cx call j g c d f) λm=>two m λh e=>
    dV (kE g j c f.guard) λn=>Bool.casesOn n (i (Nat.succ a) b h e)
     (Bool.casesOn (iF f.op)
       (Option.casesOn (hU cx j c d f.op) (i (Nat.succ a) b h e)
         λk=>gJ (oF g a k b.lf) (i (Nat.succ a) ⟨(a,k)::b.mJ,b.lf⟩ h e))
       (gJ (xV g a d e b.mJ) (gJ (rD cx j g a c b.lf f.op) (i (Nat.succ a) ⟨b.mJ,(a,d,e)::b.lf⟩ h e))))) l
inductive Ex where
 |normal|exit (id:Nat)|ret
 deriving Inhabited
abbrev Out:=aa (Ex×Env×H)
def three{a:Type}(e:Ex×Env×H)(c:Ex->Env->H->a):a:=Prod.casesOn e λg f=>Prod.casesOn f λb d=>c g b d
def oL(c:Env->H->Out)(h:Nat):Env->H->Out:=
 @Nat.rec (λ_=>Env->H->Out) (λ_ _=>none)
  (λ_ g d e=>dV (c d e) λi=>three i λj a b=>Ex.casesOn j (g a b) (λf=>some (.exit f,a,b)) (some (.ret,a,b))) h
def Lt(cx:Ctx)(call:jd)(g:Nat)(a:af Oper)(i:Bool)(j:Env)(f:H):Out:=
 Env.casesOn j λh _=>Bool.casesOn i
  (dV (kI cx call g a a.toList ⟨h,.nil⟩ f) λd=>two d λb c=>some (.normal,Env.casesOn b λe _=>⟨e,.nil⟩,c))
  (dV (j7 cx call g a a.toList 0 ⟨[],[]⟩ ⟨h,.nil⟩ f) λd=>two d λb c=>some (.normal,Env.casesOn b λe _=>⟨e,.nil⟩,c))
def CV(c d:Env->H->Out)(e:Env)(f:H):Out:=
 dV (c e f) λh=>three h λi a b=>Ex.casesOn i (d a b) (λg=>some (.exit g,a,b)) (some (.ret,a,b))
def I1(cx:Ctx)(f:Nat)(e:ah)(c d:Env->H->Out)(a:Env)(b:H):Out:=
 dV (fO cx f a e) λh=>match h with
  | .bool g=>Bool.casesOn g (d a b) (c a b)
  |_=>none
def yG(id:Nat)(d:Env->H->Out)(e:Env)(f:H):Out:=
 dV (d e f) λg=>three g λh a b=>Ex.casesOn h (some (.normal,a,b)) (λc=>Bool.casesOn (Nat.beq c id) (some (.exit c,a,b)) (some (.normal,a,b))) (some (.ret,a,b))
def kc(cx:Ctx)(call:jd)(c a:Nat):Code->Env->H->Out
 | .skip=>λd e=>some (.normal,d,e)
 | .region _ i h=>Lt cx call a i h
 | .seq f b=>CV (kc cx call c a f) (kc cx call c a b)
 | .cond g f b=>I1 cx a g (kc cx call c a f) (kc cx call c a b)
 | .block id b=>yG id (kc cx call c a b)
 | .loop b=>oL (kc cx call c a b) c
 | .exit id=>λd e=>some (.exit id,d,e)
 | .ret=>λd e=>some (.ret,d,e)
 |_=>λ_ _=>none
def mK(g:Nat)(h:Nat):Nat->List T->aa fW:=
 @Nat.rec (λ_=>Nat->List T->aa fW) (λ_ _=>some .nil)
  (λ_ c a f=>dV (ir (Nat.succ a)) λb=>List.casesOn f
    (Bool.casesOn (ks g a) (c b []) (dV (c b []) λd=>some (.cons a .undef d)))
    λe i=>dV (c b i) λd=>some (.cons a e d)) h
def ng(cx:Ctx)(c:Nat)(b:Env)(e:H)(f:List ResultVar):aa (List T):=
 fQ (λh=>ResultVar.casesOn h (λa=>b.get c a) (λd a=>dV (b.get c d) λg=>dV (cx.ty a) λi=>e.load i g)) f
def wM(b:Nat)(e:List Nat):Nat->aa Int:=
 @List.rec Nat (λ_=>Nat->aa Int) (λ_=>some (.negSucc 0))
  (λf _ d a=>Bool.casesOn (Nat.beq f b) (dV (ir (Nat.succ a)) λc=>d c) (some (.ofNat a))) e
def Df(f:Prim)(b:List T)(a:H):aa (T×H):=
 match f with
 | .oo=>(match b with
  | [.str g,.int .u8 (.ofNat c)]=>gJ (Nat.blt c 256) (dV (wM c g 0) λe=>some (.int .i64 e,a))
  |_=>none)
 | .clone h bytes=>(match b with
  | [i]=>dV (a.jw i) λd=>List.casesOn d (some (.dK [] false,a)) λ_ _=>a.jo h bytes [] d
  |_=>none)
def jP(a:List T):T:=match a with| [b]=>b|_=> .tuple a
def tL(cx:Ctx)(call:jd)(l:Nat)(a:Func)(c:Nat)(g:Bool)(i:List T)(m:H):aa (T×H):=
 Option.casesOn a.body none λj=>H.casesOn m λd h k=>
  dV (mK c a.ntmps 0 i) λo=>
  dV (kc cx call l c j ⟨o,.nil⟩ ⟨d,d,k⟩) λn=>three n λp f b=>Ex.casesOn p
   (dV (ng cx c f b a.results.toList) λe=>DF g d h (jP e) b)
   (λ_=>none)
   (dV (ng cx c f b a.results.toList) λe=>DF g d h (jP e) b)
