/- TiDefs -/
import GoSem.Step
set_option linter.all false
namespace Go.TI
theorem a9{α:Sort _}{a:α}:a=a:=id rfl
theorem nl9{α:Type}{f:α->Nat}{b:Nat}(h:∀a,Nat.ble (f a) b=true:=by intro _;rfl):∀a,f a<=b:=λa=>Nat.le_of_ble_eq_true (h a)
abbrev D{α:Type _}(a:α):Option α:=some a
theorem G{p:Prop}(h:p:=by omega):p:=h
theorem V{p:Prop}(h:p:=by simp):p:=h
theorem dP{p:Prop}(h:p:=by (simp;omega)):p:=h
theorem dQ{p:Prop}(h:p:=by (simp only;omega)):p:=h
theorem dR{p:Prop}(h:p:=by decide):p:=h
end Go.TI
namespace Go.TI
abbrev aa:=@Option
abbrev ab:=@TypeId
abbrev af:=@Array
abbrev ah:=@Operand
abbrev ai:=@Program
abbrev aj:=@FuncId
abbrev ak:=@IntKind
abbrev am:=@Value
abbrev ao:=@List.replicate
abbrev aq:=@Nat.beq
abbrev ar:=@Nat.ble
abbrev au:=@Nat.blt
theorem aw:type_of% @if_neg:=@if_neg
theorem ax:type_of% @if_pos:=@if_pos
theorem ay:type_of% @Option.some.injEq:=@Option.some.injEq
theorem az:type_of% @Nat.le_refl:=@Nat.le_refl
theorem aB:type_of% @Nat.zero_le:=@Nat.zero_le
theorem aC:type_of% @Bool.and_eq_true:=@Bool.and_eq_true
theorem aD:type_of% @List.mem_of_getElem?:=@List.mem_of_getElem?
theorem aF:type_of% @List.getElem?_eq_getElem:=@List.getElem?_eq_getElem
theorem aG:type_of% @Prod.ext:=@Prod.ext
theorem aH:type_of% @List.getElem_mem:=@List.getElem_mem
theorem aI:type_of% @Prod.mk.injEq:=@Prod.mk.injEq
theorem aJ:type_of% @Nat.eq_of_beq_eq_true:=@Nat.eq_of_beq_eq_true
theorem aK:type_of% @List.length_map:=@List.length_map
theorem aL:type_of% @List.drop_eq_getElem_cons:=@List.drop_eq_getElem_cons
theorem aM:type_of% @List.take_length:=@List.take_length
theorem aO:type_of% @decide_eq_true_eq:=@decide_eq_true_eq
theorem aP:type_of% @Nat.blt_eq:=@Nat.blt_eq
theorem aQ:type_of% @List.append_assoc:=@List.append_assoc
theorem aR:type_of% @List.map_cons:=@List.map_cons
theorem aS:type_of% @decide_eq_false:=@decide_eq_false
theorem aT:type_of% @List.take_succ_eq_append_getElem:=@List.take_succ_eq_append_getElem
theorem aU:type_of% @Nat.le_trans:=@Nat.le_trans
theorem aV:type_of% @List.flatMap_cons:=@List.flatMap_cons
theorem aW:type_of% @Nat.lt_or_ge:=@Nat.lt_or_ge
theorem aY:type_of% @List.length_append:=@List.length_append
theorem aZ:type_of% @List.length_cons:=@List.length_cons
theorem bg:type_of% @List.map_set:=@List.map_set
theorem bh:type_of% @decide_eq_true:=@decide_eq_true
theorem bj:type_of% @Bool.true_and:=@Bool.true_and
theorem br:type_of% @List.getElem?_map:=@List.getElem?_map
theorem bw:type_of% @List.eq_nil_of_length_eq_zero:=@List.eq_nil_of_length_eq_zero
theorem bD:type_of% @Nat.mul_le_mul_right:=@Nat.mul_le_mul_right
theorem bE:type_of% @Ne.symm:=@Ne.symm
theorem bG:type_of% @Nat.le_of_ble_eq_true:=@Nat.le_of_ble_eq_true
theorem bI:type_of% @Bool.eq_iff_iff:=@Bool.eq_iff_iff
theorem bJ:type_of% @List.append_nil:=@List.append_nil
theorem bK:type_of% @decide_eq_false_iff_not:=@decide_eq_false_iff_not
theorem bL:type_of% @List.map_nil:=@List.map_nil
theorem bO:type_of% @Nat.lt_of_lt_of_le:=@Nat.lt_of_lt_of_le
theorem bP:type_of% @Nat.le_of_lt:=@Nat.le_of_lt
theorem bQ:type_of% @List.mem_of_mem_drop:=@List.mem_of_mem_drop
theorem bR:type_of% @List.take_of_length_le:=@List.take_of_length_le
theorem bU:type_of% @List.eq_of_mem_replicate:=@List.eq_of_mem_replicate
theorem bV:type_of% @List.mem_of_mem_take:=@List.mem_of_mem_take
theorem bY:type_of% @List.getElem?_eq_none:=@List.getElem?_eq_none
theorem cd:type_of% @congrArg:=@congrArg
theorem cg:type_of% @List.cons_append:=@List.cons_append
theorem ci:type_of% @Bool.or_eq_false_iff:=@Bool.or_eq_false_iff
theorem cj:type_of% @Bool.or_eq_true:=@Bool.or_eq_true
theorem cm:type_of% @List.nil_append:=@List.nil_append
theorem cq:type_of% @List.drop_length:=@List.drop_length
theorem cr:type_of% @List.cons.injEq:=@List.cons.injEq
theorem cu:type_of% @List.getElem?_drop:=@List.getElem?_drop
theorem cw:type_of% @List.mem_or_eq_of_mem_set:=@List.mem_or_eq_of_mem_set
theorem cz:type_of% @List.mem_cons:=@List.mem_cons
theorem cA:type_of% @List.all_cons:=@List.all_cons
theorem cB:type_of% @List.flatMap_nil:=@List.flatMap_nil
theorem cC:type_of% @Array.getD_eq_getD_getElem?:=@Array.getD_eq_getD_getElem?
theorem cD:type_of% @Nat.succ_mul:=@Nat.succ_mul
theorem cE:type_of% @Nat.ble_eq_true_of_le:=@Nat.ble_eq_true_of_le
theorem cF:type_of% @List.all_eq_true:=@List.all_eq_true
theorem cG:type_of% @List.getElem?_set:=@List.getElem?_set
theorem cH:type_of% @List.getElem?_append_left:=@List.getElem?_append_left
theorem cI:type_of% @Nat.add_mul:=@Nat.add_mul
theorem cJ:type_of% @List.set_cons_zero:=@List.set_cons_zero
theorem cK:type_of% @Bool.not_eq_true':=@Bool.not_eq_true'
theorem cM:type_of% @Nat.min_eq_left:=@Nat.min_eq_left
theorem cN:type_of% @Int.toNat_natCast:=@Int.toNat_natCast
theorem cO:type_of% @Bool.eq_false_iff:=@Bool.eq_false_iff
theorem cP:type_of% @List.getElem?_take:=@List.getElem?_take
theorem cQ:type_of% @Array.ext':=@Array.ext'
theorem cR:type_of% @List.getElem?_set_self:=@List.getElem?_set_self
theorem cS:type_of% @List.set_cons_succ:=@List.set_cons_succ
theorem cT:type_of% @List.mem_flatMap:=@List.mem_flatMap
theorem cU:type_of% @List.getElem?_of_mem:=@List.getElem?_of_mem
theorem cV:type_of% @List.not_mem_nil:=@List.not_mem_nil
theorem cW:type_of% @List.length_nil:=@List.length_nil
theorem cY:type_of% @Array.length_toList:=@Array.length_toList
theorem cZ:type_of% @List.getElem?_append_right:=@List.getElem?_append_right
theorem c8:type_of% @List.flatMap_append:=@List.flatMap_append
theorem da:type_of% @List.take_append_drop:=@List.take_append_drop
theorem db:type_of% @Nat.add_assoc:=@Nat.add_assoc
theorem dc:type_of% @Nat.zero_add:=@Nat.zero_add
theorem df:type_of% @Bool.false_eq_true:=@Bool.false_eq_true
theorem dg:type_of% @List.take_append_of_le_length:=@List.take_append_of_le_length
theorem dh:type_of% @List.getElem?_set_ne:=@List.getElem?_set_ne
theorem dj:type_of% @Nat.ne_of_beq_eq_false:=@Nat.ne_of_beq_eq_false
theorem dp:type_of% @Option.some.inj:=@Option.some.inj
theorem dq:type_of% @List.length_set:=@List.length_set
theorem dt:type_of% @Bool.not_eq_false':=@Bool.not_eq_false'
theorem du:type_of% @List.drop_drop:=@List.drop_drop
theorem dw:type_of% @Option.map_some:=@Option.map_some
theorem dx:type_of% @List.ext_getElem?:=@List.ext_getElem?
theorem dy:type_of% @List.getD_eq_getElem?_getD:=@List.getD_eq_getElem?_getD
theorem dz:type_of% @List.mem_append_left:=@List.mem_append_left
theorem dA:type_of% @Nat.lt_succ_self:=@Nat.lt_succ_self
theorem dB:type_of% @List.mem_range:=@List.mem_range
theorem dC:type_of% @Bool.false_and:=@Bool.false_and
theorem dD:type_of% @List.take_succ_cons:=@List.take_succ_cons
theorem dE:type_of% @Array.getElem?_push:=@Array.getElem?_push
theorem dF:type_of% @List.replicate_succ:=@List.replicate_succ
theorem dG:type_of% @List.toList_toArray:=@List.toList_toArray
theorem dH:type_of% @List.mem_iff_getElem?:=@List.mem_iff_getElem?
theorem dI:type_of% @List.getElem?_cons_succ:=@List.getElem?_cons_succ
theorem dJ:type_of% @List.pairwise_cons:=@List.pairwise_cons
theorem dK:type_of% @List.length_range:=@List.length_range
theorem dL:type_of% @Array.getElem?_toList:=@Array.getElem?_toList
theorem dM:type_of% @List.mem_append_right:=@List.mem_append_right
end Go.TI
namespace Go.TI
noncomputable section
inductive T where
 |undef
 |ej (b:Bool)
 |int (k:ak) (n:Int)
 |str (s:List Nat)
 |mf
 |eZ (b ep i j:Nat)
 |kA (cells:List T)
 |em (gU:List T) (full:Bool)
 |jb
 |arr (b ep o l:Nat) (full:Bool)
 |func (f:aj) (captured:List T)
 |mw
 |mH
 |iface (t:ab) (v:T)
 |iter (b:Nat)
 |map (b:Nat)
 |pz
 |eQ (cells:List T)
 |tuple (vs:List T)
 deriving Inhabited
def T.cells:T->List T
 | .eQ a=>a
 |v=>[v]
def T.iW:T->Bool
 | .undef| .tuple _=>false
 |_=>true
structure jI where
 sz:Nat
 ep:Nat
 ver:Nat
 exact:Bool
 it:Bool
 gU:List T
 deriving Inhabited
structure H where
 size:Nat
 low:Nat
 iv:List jI
 deriving Inhabited
inductive U where
 |int (k:ak)|ej|str|slice (e:ab)|array (n:Nat) (e:ab)|map (k e:ab)|struct (fs:List (Nat×ab))|eZ (e:ab)|func|iface|other
 deriving Inhabited
structure Ty where
 u:U
 size:Nat
 bytes:Nat
 cmp:Bool
 zero:List T
 deriving Inhabited
inductive Prim where
 |qp
 |clone (sz bytes:Nat)
 deriving Inhabited
structure Fun where
 fn:Func
 M:Nat
 mp:Bool
 alp:aa Prim
 deriving Inhabited
structure Ctx where
 ty:ab->aa Ty
 fn:aj->aa Fun
 gl:Nat->aa (List T)
def Z{a b:Type}(d:aa a)(c:a->aa b):aa b:=Option.casesOn d none c
def iT{a:Type}(b:Bool)(c:aa a):aa a:=Bool.casesOn b none c
def two{a b c:Type}(e:a×b)(d:a->b->c):c:=Prod.casesOn e d
def oS{a:Type}(c:List a):Nat->aa a:=
 @List.rec a (λ_=>Nat->aa a) (λ_=>none) (λf _ b e=> @Nat.rec (λ_=>aa a) (some f) (λd _=>b d) e) c
def lQ{a:Type}(d:List a):Nat->a->aa (List a):=
 @List.rec a (λ_=>Nat->a->aa (List a)) (λ_ _=>none)
  (λi g c f b=> @Nat.rec (λ_=>aa (List a)) (some (b::g)) (λe _=>Z (c e b) λh=>some (i::h)) f) d
def takeN{a:Type}(d:Nat):List a->aa (List a):=
 @Nat.rec (λ_=>List a->aa (List a)) (λ_=>some [])
  (λ_ b c=> @List.rec a (λ_=>aa (List a)) none (λg e _=>Z (b e) λf=>some (g::f)) c) d
def kZ{a:Type}(d:Nat):List a->aa (List a):=
 @Nat.rec (λ_=>List a->aa (List a)) (λb=>some b)
  (λ_ c b=> @List.rec a (λ_=>aa (List a)) none (λ_ e _=>c e) b) d
def m7{a:Type}(c:List a):Nat:= @List.rec a (λ_=>Nat) 0 (λ_ _ b=>Nat.succ b) c
def Ep{a:Type}(e f:List a):aa (List a):=
 @List.rec a (λ_=>aa (List a)) (some f) (λd _ b=>Z b λc=>some (d::c)) e
def iK{a b:Type}(c:a->aa b)(e:List a):aa (List b):=
 @List.rec a (λ_=>aa (List b)) (some []) (λg _ d=>Z (c g) λh=>Z d λf=>some (h::f)) e
def so{a:Type}(d:a)(c:Nat):List a:= @Nat.rec (λ_=>List a) [] (λ_ b=>d::b) c
def AU{a:Type}(b:a->Bool)(d:List a):Bool:= @List.rec a (λ_=>Bool) true (λe _ c=>Bool.rec false c (b e)) d
def iZ(b:Nat):aa Nat:=Nat.casesOn b (some 0) (λa=>some (Nat.succ a))
def Qh(c:Int):aa Int:=
 Int.casesOn c (λa=>Nat.casesOn a (some (.ofNat 0)) (λb=>some (.ofNat (Nat.succ b)))) (λa=>Nat.casesOn a (some (.negSucc 0)) (λb=>some (.negSucc (Nat.succ b))))
def Br(a:ak)(c:Int):aa T:=Z (Qh c) λb=>some (.int a b)
def AY(a:Bool):aa T:=Bool.casesOn a (some (.ej false)) (some (.ej true))
def kNo:ak->Nat
 | .i8=>0| .i16=>1| .i32=>2| .i64=>3| .u8=>4| .u16=>5| .u32=>6| .u64=>7
def H9(a b:ak):Bool:=aq (kNo a) (kNo b)
def Qm(d c:Int):Bool:=Int.casesOn d (λa=>Int.casesOn c (λb=>au a b) (λ_=>false)) (λa=>Int.casesOn c (λ_=>true) (λb=>au b a))
def XA(d c:Int):Bool:=Int.casesOn d (λa=>Int.casesOn c (λb=>aq a b) (λ_=>false)) (λa=>Int.casesOn c (λ_=>false) (λb=>aq a b))
def PA(k:ak)(a:Int):Int:=
 match k with
 | .i64=>Int.casesOn a (λb=>Bool.casesOn (ar b 9223372036854775807) (IntKind.i64.wrap a) a) (λb=>Bool.casesOn (ar b 9223372036854775807) (IntKind.i64.wrap a) a)
 |k=>k.wrap a
def rk(a:ak)(b:Int):aa T:=Br a (PA a b)
def YV(b:List Nat):List Nat->Bool:=
 @List.rec Nat (λ_=>List Nat->Bool) (λa=>List.casesOn a true (λ_ _=>false))
  (λe _ c a=>List.casesOn a false (λf d=>Bool.rec false (c d) (aq e f))) b
def Xz(d:List Nat):List Nat->Bool:=
 @List.rec Nat (λ_=>List Nat->Bool) (λa=>List.casesOn a false (λ_ _=>true))
  (λb _ e a=>List.casesOn a false (λc f=>Bool.rec (Bool.rec false (e f) (aq b c)) true (au b c))) d
def H.get(d:H)(a:Nat):aa jI:=
 H.casesOn d λb _ c=>iT (au a b) (oS c (Nat.sub (Nat.sub b 1) a))
def H.new(g:Nat->T)(h:H)(i:jI):aa (T×H):=
 H.casesOn h λa d c=>Z (iZ (Nat.succ a)) λe=>some (g a,⟨e,d,i::c⟩)
def H.put(g:H)(a:Nat)(x:jI):aa H:=
 H.casesOn g λb e f=>iT (au a b)
  (Z (lQ f (Nat.sub (Nat.sub b 1) a) x) λd=>Bool.casesOn (au a e) (some ⟨b,e,d⟩) (some ⟨b,a,d⟩))
def over(a:List T)(f:List T):aa (List T):=
 @List.rec T (λ_=>List T->aa (List T)) (λa=>some a)
  (λe _ b a=>List.casesOn a none (λ_ c=>Z (b c) λd=>some (e::d))) f a
def mJ(a:List T)(d:Nat)(g:List T):aa (List T):=
 @Nat.rec (λ_=>List T->aa (List T)) (λa=>over a g)
  (λ_ c a=>List.casesOn a none (λb e=>Z (c e) λf=>some (b::f))) d a
def Ty.isAgg(a:Ty):Bool:=match a.u with| .struct _| .array _ _=>true|_=>false
def aaU(a:List T):T:=List.casesOn a .undef (λb _=>b)
def Ty.kV(a:Ty):T:=Bool.casesOn a.isAgg (aaU a.zero) (.eQ a.zero)
def lj(b:Ty)(a:List T):aa T:=
 Bool.casesOn b.isAgg (oS a 0) (Z (takeN b.size a) λc=>some (.eQ c))
def H.elem(e:H)(a c i:Nat):aa T:=
 Z (e.get a) λx=>jI.casesOn x λ_ d _ _ f b=>iT (aq d c) (Bool.casesOn f (oS b i) none)
def H.load(g:H)(b:Ty)(c:T):aa T:=
 match c with
 | .eZ d f h i=>Z (g.elem d f h) λe=>Z (kZ i e.cells) λa=>lj b a
 | .kA a=>lj b a
 |_=>none
def ly(d:T)(a:Nat)(b:List T):aa T:=
 match d with
 | .eQ c=>Z (mJ c a b) λe=>some (.eQ e)
 |_=>match a,b with
  |0,[f]=>some f
  |_,_=>none
def H.store(d:H)(o:Ty)(g f:T):aa H:=
 match g with
 | .eZ a j e m=>iT (aq (m7 f.cells) o.size) (Z (d.get a) λr=>jI.casesOn r λn c p exact l b=>
  iT (aq c j) (Bool.casesOn l (Z (oS b e) λh=>Z (ly h m f.cells) λi=>Z (lQ b e i) λk=>
   Z (iZ (Nat.succ p)) λq=>d.put a ⟨n,c,q,exact,false,k⟩) none))
 |_=>none
def H.jQ(f:H)(k:T):aa (List T):=
 match k with
 | .em e _=>some e
 | .jb=>some []
 | .arr a c i h _=>Z (f.get a) λl=>jI.casesOn l λ_ d _ _ g b=>iT (aq d c) (Bool.casesOn g (Z (kZ i b) λj=>takeN h j) none)
 |_=>none
def fits(c:Nat)(b:List T):Bool:=List.casesOn b true (λa _=>aq (m7 a.cells) c)
def ny(b:Nat)(exact:Bool)(a:List T):jI:=⟨b,0,0,exact,false,a⟩
def H.jK(g:H)(a bytes:Nat)(d e:List T):aa (T×H):=
 Z (Ep d e) λb=>Z (iZ (m7 b)) λc=>
 iT (ar 1 bytes)<|iT (ar (Nat.mul c bytes) 70368744177664) (iT (fits a d) (iT (fits a e) (g.new (λf=> .arr f 0 0 c false) (ny a false b))))
def H.oL(e:H)(g bytes a k o:Nat)(i:List T):aa (T×H):=
 Z (e.get a) λr=>jI.casesOn r λh b p _ n j=>
  Z (takeN o j) λl=>Z (Ep l i) λd=>Z (iZ (m7 d)) λf=>
  iT (ar 1 bytes)<|iT (aq b k) (iT (aq h g) (iT (ar (Nat.mul f bytes) 70368744177664) (iT (fits g i) (Bool.casesOn n
   (Z (iZ (Nat.succ b)) λc=>Z (iZ (Nat.succ p)) λq=>
     Z (e.put a ⟨h,c,q,false,false,d⟩) λm=>some (.arr a c 0 f false,m)) none))))
def rI:T->Bool
 | .em _ _| .jb| .arr .. =>true
 |_=>false
def H.append(a:H)(e bytes:Nat)(d:T)(b:List T):aa (T×H):=
 List.casesOn b (iT (rI d) (some (d,a))) λ_ _=>match d with
  | .em c f=>List.casesOn c (a.jK e bytes [] b) λ_ _=>iT f (a.jK e bytes c b)
  | .arr g h j i f=>Bool.casesOn f
   (Nat.casesOn j (a.oL e bytes g h i b) λ_=>none)
   (Z (a.jQ d) λc=>a.jK e bytes c b)
  |_=>none
def freeze(m:H)(p:Nat)(h:Nat):T->aa T:=
 @Nat.rec (λ_=>T->aa T) (λ_=>none) (λ_ e f=>match f with
  | .arr b i q o l=>iT (ar p b) (Z (m.get b) λr=>jI.casesOn r λ_ j _ exact n c=>
   iT (aq j i) (Bool.casesOn n (Z (Z (kZ q c) λa=>takeN o a) λk=>Z (iK e k) λd=>
    List.casesOn d (List.casesOn c (Bool.casesOn exact (some .jb) (some (.em [] false))) λ_ _=>some .jb) λ_ _=>some (.em d l)) none))
  | .eQ g=>Z (iK e g) λa=>some (.eQ a)
  | .ej _| .int _ _| .str _| .mf| .em _ _| .jb| .mw| .mH=>some f
  |_=>none) h
def jA(d:H)(c:Nat)(a:T):aa T:=
 match a with
 | .arr b _ _ _ _=>Bool.casesOn (ar c b) (some a) (freeze d c 12 a)
 | .eZ b _ _ _=>Bool.casesOn (ar c b) (some a) none
 | .map b=>Bool.casesOn (ar c b) (some a) none
 | .undef=>some a
 |_=>freeze d c 12 a
def lV(a:H)(b:Nat)(c:T):aa T:=
 match c with
 | .eQ d=>Z (iK (jA a b) d) λe=>some (.eQ e)
 |_=>jA a b c
def j4(a:H)(b:Nat)(c:T):aa T:=
 match c with
 | .tuple e=>Z (iK (lV a b) e) λd=>some (.tuple d)
 |_=>lV a b c
def lY(b:Nat):T->Bool
 | .arr a _ _ _ _=>au a b
 | .eZ a _ _ _=>au a b
 | .map a=>au a b
 | .ej _| .int _ _| .str _| .mf| .em _ _| .jb| .mw| .mH| .pz| .kA _=>true
 |_=>false
def below(b:Nat):T->Bool
 | .eQ a=>AU (lY b) a
 | .func _ a=>AU (lY b) a
 | .tuple a=>AU (lY b) a
 |v=>lY b v
def vL(d:Nat)(b:Nat):List jI->Bool:=
 @Nat.rec (λ_=>List jI->Bool) (λ_=>true) (λ_ a c=>List.casesOn c true λf e=>Bool.casesOn (AU (below d) f.gU) false (a e)) b
def pP(c:Nat)(d:T)(f:H):aa (T×H):=
 H.casesOn f λe b a=>Bool.casesOn (au b c) (some (d,⟨e,c,a⟩)) (some (d,⟨e,b,a⟩))
def xz(a c:Nat)(i e:T)(h:H):aa (T×H):=
 H.casesOn h λg b f=>Z (kZ (Nat.sub g a) f) λd=>
  Bool.casesOn (ar a b)
   (Bool.casesOn (vL a (Nat.sub a b) d) (pP c i ⟨g,b,f⟩)
     (Bool.casesOn (au b c) (some (e,⟨a,c,d⟩)) (some (e,⟨a,b,d⟩))))
   (some (e,⟨a,c,d⟩))
def G8(e:Bool)(d c:Nat)(b:T)(a:H):aa (T×H):=
 Bool.casesOn e (Option.casesOn (j4 a d b) (pP c b a) λf=>xz d c b f a) (pP c b a)
inductive iP where
 |nil
 |cons (s:Nat) (v:T) (r:iP)
 deriving Inhabited
structure Env where
 vars:iP
 tmps:iP
 deriving Inhabited
def Y(c:iP)(d:Nat):aa T:=
 @iP.rec (λ_=>aa T) none (λb e _ a=>Bool.rec a (some e) (aq b d)) c
def nL(e:iP)(b:Nat)(c:T):aa iP:=
 @iP.rec (λ_=>aa iP) (some (.cons b c .nil)) (λa h f d=>Bool.rec (Z d λg=>some (.cons a h g)) (some (.cons a c f)) (aq a b)) e
def lL(a b:Nat):Bool:=aq (Nat.land (Nat.shiftRight a b) 1) 1
def Env.get(c:Nat)(b:Env)(a:Nat):aa T:=
 Env.casesOn b λe d=>Bool.casesOn (lL c a) (Y d a) (Y e a)
def Env.set(g:Nat)(e:Env)(a:Nat)(c:T):aa Env:=
 Env.casesOn e λd b=>Bool.casesOn (lL g a) (some ⟨d,.cons a c b⟩) (Z (nL d a c) λf=>some ⟨f,b⟩)
def Env.dst(c:Nat)(a:Env)(b:aa Tmp)(e:T):aa Env:=
 Option.casesOn b (some a) λd=>a.set c d e
def El(b:List UInt8):aa (List Nat):=iK (λa=>iZ a.toNat) b
def qB:am->aa T
 | .bool a=>some (.ej a)
 | .int b d=>some (.int b d)
 | .string e=>Z (El e.data.toList) λc=>some (.str c)
 | .pointer none=>some .mf
 | .map none=>some .pz
 | .slice none 0 0=>some (.em [] false)
 | .nilFunc=>some .mw
 | .nilIface=>some .mH
 |_=>none
def CD:am->aa T
 | .agg a=>Z (iK qB a.toList) λb=>some (.eQ b)
 |v=>qB v
def iG(cx:Ctx)(e:Nat)(b:Env)(f:ah):aa T:=
 Operand.casesOn f (λg=>b.get e g) (λh=>CD h) (λd=>Z (cx.gl d) λa=>some (.kA a)) (λc=>some (.func c []))
def tM(cx:Ctx)(c:Nat)(a:Env)(b:List ah):aa (List T):=iK (iG cx c a) b
def tq:T->aa Nat
 | .int _ b=>Int.casesOn b (λa=>some a) (λ_=>none)
 |_=>none
def rL(g:U)(c a:T):aa Bool:=
 match g with
 | .int _=>(match c with| .int e d=>(match a with| .int f b=>iT (H9 e f) (some (XA d b))|_=>none)|_=>none)
 | .ej=>(match c with| .ej d=>(match a with| .ej b=>some (Bool.casesOn d (Bool.casesOn b true false) b)|_=>none)|_=>none)
 | .str=>(match c with| .str d=>(match a with| .str b=>some (YV d b)|_=>none)|_=>none)
 | .eZ _=>(match c with
  | .mf=>(match a with| .mf=>some true| .eZ .. | .kA _=>some false|_=>none)
  | .eZ .. | .kA _=>(match a with| .mf=>some false|_=>none)
  |_=>none)
 | .func=>(match c with
  | .mw=>(match a with| .mw=>some true| .func .. =>some false|_=>none)
  | .func .. =>(match a with| .mw=>some false|_=>none)
  |_=>none)
 | .iface=>(match c with
  | .mH=>(match a with| .mH=>some true| .iface .. =>some false|_=>none)
  | .iface .. =>(match a with| .mH=>some false|_=>none)
  |_=>none)
 |_=>none
def U.plain:U->Bool
 | .int _| .ej| .str=>true
 |_=>false
def eqFields(cx:Ctx)(f:List (Nat×ab)):Nat->List T->List T->aa Bool:=
 @List.rec (Nat×ab) (λ_=>Nat->List T->List T->aa Bool) (λ_ _ _=>some true)
  (λa _ g b d e=>List.casesOn d none λk h=>List.casesOn e none λl i=>iT (aq a.1 b) (Z (cx.ty a.2) λc=>iT c.u.plain
    (Z (rL c.u k l) λj=>Bool.casesOn j (some false) (g (Nat.succ b) h i)))) f
def CT(f:U)(b:List T):List T->aa Bool:=
 @List.rec T (λ_=>List T->aa Bool) (λa=>List.casesOn a (some true) λ_ _=>none)
  (λg _ c a=>List.casesOn a none λh d=>Z (rL f g h) λe=>Bool.casesOn e (some false) (c d)) b
def Nq(cx:Ctx)(d:Ty)(e f:T):aa Bool:=
 match d.u with
 | .struct h=>(match e with
  | .eQ a=>(match f with
   | .eQ b=>iT d.cmp (eqFields cx h 0 a b)
   |_=>none)
  |_=>none)
 | .array i g=>(match e with
  | .eQ a=>(match f with
   | .eQ b=>iT d.cmp (Z (cx.ty g) λc=>iT c.u.plain (iT (aq c.size 1) (iT (aq (m7 a) i) (CT c.u a b))))
   |_=>none)
  |_=>none)
 |u=>rL u e f
def AS(f g:T)(d:ak->Int->Int->aa T):aa T:=
 match f with
 | .int a b=>(match g with| .int e c=>iT (H9 a e) (d a b c)|_=>none)
 |_=>none
def Dv(f g:T)(d:ak->Int->Nat->aa T):aa T:=
 match f with
 | .int a b=>(match g with| .int _ c=>Int.casesOn c (λe=>d a b (min e a.bits)) (λ_=>none)|_=>none)
 |_=>none
def Pe(h c:T)(d:Int->Int->Bool)(e:List Nat->List Nat->Bool):aa T:=
 match h with
 | .int f a=>(match c with| .int g b=>iT (H9 f g) (AY (d a b))|_=>none)
 | .str a=>(match c with| .str b=>AY (e a b)|_=>none)
 |_=>none
def ZA(d e:T):aa T:=
 match d with
 | .str a=>(match e with
  | .str b=>Z (Ep a b) λc=>iT (ar (m7 c) 4294967296) (some (.str c))
  |_=>none)
 |_=>AS d e λf a b=>rk f (a+b)
def binop:BinOp->T->T->aa T
 | .add=>ZA
 | .sub=>λd e=>AS d e λc a b=>rk c (a-b)
 | .mul=>λd e=>AS d e λc a b=>rk c (a*b)
 | .quo=>λd e=>AS d e λc a b=>Bool.casesOn (XA b 0) (rk c (a.tdiv b)) none
 | .rem=>λd e=>AS d e λc a b=>Bool.casesOn (XA b 0) (Br c (a.tmod b)) none
 | .and=>λd e=>AS d e λc a b=>Br c (c.wrap (BitVec.ofInt c.bits a&&&BitVec.ofInt c.bits b).toNat)
 | .or=>λd e=>AS d e λc a b=>Br c (c.wrap (BitVec.ofInt c.bits a|||BitVec.ofInt c.bits b).toNat)
 | .xor=>λd e=>AS d e λc a b=>Br c (c.wrap (BitVec.ofInt c.bits a^^^BitVec.ofInt c.bits b).toNat)
 | .shl=>λd e=>Dv d e λc a f=>Br c (c.wrap (a*2^f))
 | .shr=>λd e=>Dv d e λc a f=>Br c (a.fdiv (2^f))
 | .lss=>λd e=>Pe d e Qm Xz
 | .leq=>λd e=>Pe d e (λa b=> !Qm b a) (λa b=> !Xz b a)
 | .gtr=>λd e=>Pe d e (λa b=>Qm b a) (λa b=>Xz b a)
 | .geq=>λd e=>Pe d e (λa b=> !Qm a b) (λa b=> !Xz a b)
 |_=>λ_ _=>none
def unop:UnOp->T->aa T
 | .neg=>λa=>(match a with| .int c d=>rk c (0-d)|_=>none)
 | .not=>λa=>(match a with| .ej b=>Bool.casesOn b (some (.ej true)) (some (.ej false))|_=>none)
 |_=>λ_=>none
def conv(cx:Ctx)(c:ab)(a:T):aa T:=
 Z (cx.ty c) λb=>match b.u with
  | .int d=>(match a with| .int _ n=>rk d n|_=>none)
  | .str=>(match a with| .str e=>some (.str e)|_=>none)
  |_=>none
def HR(cx:Ctx)(d:ab)(i:T):aa T:=
 Z (cx.ty d) λc=>match c.u with
  | .slice e=>(match i with
   | .str a=>Z (cx.ty e) λh=>(match h.u with
    | .int g=>iT (H9 g .u8) (List.casesOn a (some .jb) λ_ _=>Z (iK (λb=>some (T.int .u8 (.ofNat b))) a) λf=>some (.em f false))
    |_=>none)
   |_=>none)
  |_=>none
def AL(cx:Ctx)(c:ab)(a:Nat):aa (Nat×ab):=
 Z (cx.ty c) λd=>match d.u with| .struct b=>oS b a|_=>none
def oO(place:Nat->aa (Nat×Nat))(f:List (Nat×T)):List T->aa (List T):=
 @List.rec (Nat×T) (λ_=>List T->aa (List T)) (λa=>some a)
  (λb _ e a=>Z (place b.1) λc=>iT (aq (m7 b.2.cells) c.2) (Z (mJ a c.1 b.2.cells) λd=>e d)) f
def sK(h:Nat)(g:List (Nat×T)):List T->aa (List T):=
 @List.rec (Nat×T) (λ_=>List T->aa (List T)) (λa=>some a)
  (λf _ e a=>two f λd b=>iT (aq (m7 b.cells) h) (Z (lQ a d b) λc=>e c)) g
def partsOf(cx:Ctx)(e:Nat)(b:Env)(d:List (Nat×ah)):aa (List (Nat×T)):=
 iK (λg=>two g λc f=>Z (iG cx e b f) λa=>iT a.iW (some (c,a))) d
def kQ(cx:Ctx)(b:Nat)(a:Env)(f:aa ah):aa (aa Nat):=
 Option.casesOn f (some none) λd=>Z (iG cx b a d) λe=>Z (tq e) λc=>some (some c)
def ja(c:aa Nat)(a:Nat):Nat:=Option.casesOn c a λb=>b
def Pb{b:Type}(d:List b)(a c:Nat):aa (List b):=Z (kZ a d) λe=>takeN (Nat.sub c a) e
def sg(c:List T)(e:Bool)(d a:Nat)(g:aa Nat):aa T:=
 iT (ar d a) (Z (Pb c d a) λb=>Option.casesOn g
  (List.casesOn b (List.casesOn c (some (.em [] false)) λ_ _=>some .jb) λ_ _=>some (.em b (Bool.casesOn e false (aq a (m7 c)))))
  λf=>iT (aq f a) (List.casesOn b (some (.em [] false)) λ_ _=>some (.em b true)))
def za(b c k g:Nat)(h:Bool)(e a:Nat)(j:aa Nat):aa T:=
 iT (ar e a) (iT (ar a g) (Z (iZ (Nat.add k e)) λf=>Z (iZ (Nat.sub a e)) λd=>Option.casesOn j
  (Bool.casesOn h (some (.arr b c f d false)) (iT (aq a g) (some (.arr b c f d true))))
  λi=>iT (aq i a) (some (.arr b c f d true))))
def sh(m:T)(b a c:aa Nat):aa T:=
 match m with
 | .str e=>Option.casesOn c (iT (ar (ja b 0) (ja a (m7 e))) (Z (Pb e (ja b 0) (ja a (m7 e))) λl=>some (.str l))) λ_=>none
 | .em f d=>sg f d (ja b 0) (ja a (m7 f)) c
 | .jb=>iT (aq (ja b 0) 0) (iT (aq (ja a 0) 0) (Option.casesOn c (some .jb) λj=>iT (aq j 0) (some (.em [] false))))
 | .arr h i k g d=>za h i k g d (ja b 0) (ja a g) c
 |_=>none
inductive ni where
 |val (v:T) (h:H)
 |call (f:aj) (args:List T)
 deriving Inhabited
abbrev be(a:T)(b:H):=some (ni.val a b)
def val(a:H)(c:aa T):aa ni:=Z c λb=>some (.val b a)
def km(d:aa (T×H)):aa ni:=Z d λb=>two b λc a=>some (.val c a)
abbrev Hd:=Ctx->Nat->Env->H->aa ni
def Hj(d:ah):Hd:=λcx c a b=>val b (iG cx c a d)
def Jb(a e f:ah):Hd:=λcx c b d=>
 Z (iG cx c b a) λa=>match a with
  | .ej g=>Bool.casesOn g (val d (iG cx c b f)) (val d (iG cx c b e))
  |_=>none
def AJ(cx:Ctx)(d:Ty):Bool:=
 match d.u with
 | .array _ a=>Option.casesOn (cx.ty a) false λc=>(match c.u with| .int b=>H9 b .u8|_=>false)
 |_=>false
def Ho(d:ab):Hd:=λcx _ _ c=>Z (cx.ty d) λa=>Bool.casesOn (AJ cx a)
 (km (c.new (λb=> .eZ b 0 0 0) (ny a.size true [a.kV])))
 (km (c.new (λb=> .eZ b 0 0 0) (ny 1 true a.zero)))
def SK(f:ah):Hd:=λcx e c d=>Z (iG cx e c f) λa=>iT a.iW (km (d.new (λb=> .eZ b 0 0 0) (ny (m7 a.cells) true [a])))
def Ec(m:ab)(l:af (Nat×ah)):Hd:=λcx k h e=>
 Z (cx.ty m) λc=>Z (partsOf cx k h l.toList) λf=>match c.u with
  | .struct j=>Z (oO (λb=>Z (oS j b) λd=>Z (cx.ty d.2) λn=>some (d.1,n.size)) f c.zero) λa=>val e (some (.eQ a))
  | .array _ i=>Z (cx.ty i) λg=>Z (oO (λb=>some (Nat.mul b g.size,g.size)) f c.zero) λa=>val e (some (.eQ a))
  |_=>none
def qS(k:ab)(b:Nat)(i:af (Nat×ah)):Hd:=λcx h d g=>
 Z (cx.ty k) λl=>match l.u with
  | .slice e=>Z (cx.ty e) λa=>Z (partsOf cx h d i.toList) λj=>
   iT (ar 1 a.size)<|iT (ar (Nat.mul b a.size) 65536) (Z (sK a.size j (so a.kV b)) λf=>
    km (g.new (λc=> .arr c 0 0 b false) (ny a.size true f)))
  |_=>none
def Mx(e:ab)(a:ah):Hd:=λcx d c b=>Z (cx.ty e) λf=>Z (iG cx d c a) λa=>val b (b.load f a)
def Hh(g:ab)(a i:ah):Hd:=λcx c b e=>
 Z (cx.ty g) λh=>Z (iG cx c b a) λa=>Z (iG cx c b i) λd=>iT d.iW (Z (e.store h a d) λf=>some (.val .undef f))
def uR(e:ah):Hd:=λcx d b c=>Z (iG cx d b e) λa=>match a with
 | .eZ .. | .kA _| .func .. =>some (.val a c)
 |_=>none
def CE(c d:ah)(a b:T):Bool:=
 match a with
 | .mH=>(match b with| .mH=>Region.isConst c||Region.isConst d|_=>true)
 |_=>true
def hEq(i:Bool)(j:ab)(f g:ah):Hd:=λcx d c h=>
 Z (cx.ty j) λk=>Z (iG cx d c f) λa=>Z (iG cx d c g) λb=>
  iT (CE f g a b) (Z (Nq cx k a b) λe=>val h (AY (Bool.casesOn i e (!e))))
def SN(f:BinOp)(g h:ah):Hd:=λcx b a e=>
 Z (iG cx b a g) λc=>Z (iG cx b a h) λd=>val e (binop f c d)
def hUn(e:UnOp)(f:ah):Hd:=λcx d b c=>Z (iG cx d b f) λa=>val c (unop e a)
def byteOf(d:T):aa Nat:=match d with
 | .int b c=>iT (H9 b .u8) (Int.casesOn c (λa=>iT (au a 256) (some a)) (λ_=>none))
 |_=>none
def Ie(cx:Ctx)(d:H)(g:ab)(i:T):aa T:=
 Z (cx.ty g) λf=>match f.u with
  | .slice b=>Z (cx.ty b) λh=>(match h.u with
   | .int e=>iT (H9 e .u8) (Z (d.jQ i) λc=>Z (iK byteOf c) λa=>iT (ar (m7 a) 4294967296) (some (.str a)))
   |_=>none)
  |_=>none
def Qt(d c:ab)(h:ah):Hd:=λcx g f b=>Z (cx.ty d) λ_=>Z (iG cx g f h) λa=>
 Z (cx.ty c) λe=>match e.u with
  | .slice _=>val b (HR cx c a)
  | .str=>(match a with
   | .str _=>val b (conv cx c a)
   |_=>val b (Ie cx b d a))
  |_=>val b (conv cx c a)
def D9(b:ab)(g:ah):Hd:=λcx e c d=>Z (cx.ty b) λf=>match f.u with
 | .iface=>none
 |_=>Z (iG cx e c g) λa=>iT a.iW (val d (some (.iface b a)))
def Hl(e:Fn)(first a:af ah):Hd:=λcx g c f=>match e with
 | .func d=>(match first.toList with
  | []=>Z (tM cx g c a.toList) λb=>val f (some (.func d b))
  |_=>none)
 |_=>none
def sx(i:ab)(a b:ah):Hd:=λcx e d h=>Z (cx.ty i) λj=>match j.u with
 | .slice g=>Z (cx.ty g) λc=>Z (iG cx e d a) λa=>Z (iG cx e d b) λb=>Z (tq a) λa=>Z (tq b) λb=>
  iT (ar 1 c.size)<|iT (ar 1 c.bytes)<|iT (ar a b) (iT (ar (Nat.mul b c.bytes) 70368744177664) (km (h.new (λf=> .arr f 0 0 a false) (ny c.size (aq a b) (so c.kV a)))))
 |_=>none
def zO(a b:aa Nat):Bool:=Option.casesOn b true λ_=>Option.casesOn a false λ_=>true
def jy(cx:Ctx)(f:H)(p:U)(e:T):Bool:=
 match p with
 | .str=>(match e with| .str _=>true|_=>false)
 | .slice d=>Option.casesOn (cx.ty d) false λa=>(match e with
  | .em j _=>fits a.size j
  | .jb=>true
  | .arr b _ _ _ _=>Option.casesOn (f.get b) false λc=>aq c.sz a.size
  |_=>false)
 | .array n d=>Option.casesOn (cx.ty d) false λa=>(match e with
  | .eZ b h k m=>Option.casesOn (f.get b) false λc=>jI.casesOn c λo i _ exact l g=>
   aq o a.size&&aq i h&&aq k 0&&aq m 0&&exact&& !l&&aq (m7 g) n
  |_=>false)
 |_=>false
def asSlice(e:U)(a:T):T:=match e with
 | .array d _=>(match a with| .eZ b c _ _=> .arr b c 0 d false|_=>a)
 |_=>a
def Hi(i:ab)(e:ah)(f b d:aa ah):Hd:=λcx c a g=>Z (cx.ty i) λh=>
 Z (iG cx c a e) λe=>iT (jy cx g h.u e)<|Z (kQ cx c a f) λf=>Z (kQ cx c a b) λb=>Z (kQ cx c a d) λd=>iT (zO b d) (val g (sh (asSlice h.u e) f b d))
def sI(n:ab)(a:ah)(i:Nat):Hd:=λcx m g c=>Z (AL cx n i) λb=>Z (iG cx m g a) λa=>match a with
 | .eZ d h j k=>Z (iZ (Nat.add k b.1)) λl=>some (.val (.eZ d h j l) c)
 | .kA e=>Z (kZ b.1 e) λf=>some (.val (.kA f) c)
 |_=>none
def Eb(i:ab)(a:ah)(e:Nat):Hd:=λcx g d f=>
 Z (AL cx i e) λb=>Z (cx.ty b.2) λj=>Z (iG cx g d a) λa=>match a with
  | .eQ c=>Z (kZ b.1 c) λh=>val f (lj j h)
  |_=>none
def my(a:H)(f:Ty)(l:T)(b:Nat):aa ni:=
 match l with
 | .em h _=>Z (oS h b) λg=>iT (aq (m7 g.cells) f.size) (some (.val (.kA g.cells) a))
 | .arr c e k j _=>iT (au b j) (Z (a.get c) λd=>iT (aq d.sz f.size)<|iT (aq d.ep e) (Z (iZ (Nat.add k b)) λi=>some (.val (.eZ c e i 0) a)))
 |_=>none
def pB(a:H)(m:Nat)(d:Ty)(n:T)(b:Nat):aa ni:=
 iT (au b m) (match n with
  | .eZ c e f g=>Z (a.get c) λh=>Bool.casesOn (aq h.sz d.size)
   (Z (iZ (Nat.add g (Nat.mul b d.size))) λl=>some (.val (.eZ c e f l) a))
   (iT (aq g 0) (Z (iZ (Nat.add f b)) λk=>some (.val (.eZ c e k 0) a)))
  | .kA i=>Z (kZ (Nat.mul b d.size) i) λj=>some (.val (.kA j) a)
  |_=>none)
def sH(j:ab)(a c:ah):Hd:=λcx h e f=>
 Z (cx.ty j) λk=>Z (iG cx h e a) λa=>Z (iG cx h e c) λc=>Z (tq c) λg=>match k.u with
  | .slice b=>Z (cx.ty b) λd=>my f d a g
  | .array i b=>Z (cx.ty b) λd=>pB f i d a g
  |_=>none
def D8(n:ab)(a c:ah):Hd:=λcx f d e=>
 Z (cx.ty n) λo=>Z (iG cx f d a) λa=>Z (iG cx f d c) λc=>Z (tq c) λb=>match o.u with
  | .str=>(match a with| .str m=>Z (oS m b) λh=>val e (some (.int .u8 (.ofNat h)))|_=>none)
  | .array k j=>(match a with
   | .eQ i=>Z (cx.ty j) λg=>iT (au b k) (Z (kZ (Nat.mul b g.size) i) λl=>val e (lj g l))
   |_=>none)
  |_=>none
def H.entries(d:H)(f:T):aa (List T):=
 match f with
 | .pz=>some []
 | .map a=>Z (d.get a) λb=>jI.casesOn b λ_ _ _ _ e c=>iT e (some c)
 |_=>none
def Ft(a:List T):Bool:=match a with
 | []=>true
 | .tuple _::_=>true
 |_=>false
def rJ(i:U)(e:T)(g:List T):Nat->aa (aa (Nat×T)):=
 @List.rec T (λ_=>Nat->aa (aa (Nat×T))) (λ_=>some none)
  (λb _ d a=>match b with
    | .tuple [f,j]=>Z (rL i e f) λh=>Bool.casesOn h (Z (iZ (Nat.succ a)) λc=>d c) (some (some (a,j)))
    |_=>none) g
def EP(b:U)(a:T):Bool:=match b with
 | .str=>(match a with| .str _=>true|_=>false)
 |_=>false
def xI(d:ab)(c:aa ah):Hd:=λcx _ _ b=>Option.casesOn c
 (Z (cx.ty d) λe=>(match e.u with
   | .map _ _=>km (b.new (λa=> .map a) ⟨0,0,0,true,true,[]⟩)
   |_=>none))
 λ_=>none
def wA(n:ab)(a i:ah)(k:Bool):Hd:=λcx e b c=>Z (cx.ty n) λp=>match p.u with
 | .map j h=>Z (cx.ty j) λf=>Z (cx.ty h) λo=>Z (iG cx e b a) λa=>Z (iG cx e b i) λd=>iT (EP f.u d)
  (Z (c.entries a) λg=>Z (rJ f.u d g 0) λm=>Bool.casesOn k (val c (some (Option.casesOn m o.kV λl=>l.2))) none)
 |_=>none
def qG(t:ab)(d o y:ah):Hd:=λcx e b h=>Z (cx.ty t) λv=>match v.u with
 | .map p _=>Z (cx.ty p) λi=>Z (iG cx e b d) λd=>Z (iG cx e b o) λa=>Z (iG cx e b y) λf=>iT (EP i.u a) (iT f.iW
  (match d with
  | .map g=>Z (h.get g) λj=>jI.casesOn j λs k w exact n c=>iT n (Z (rJ i.u a c 0) λr=>Z (iZ (Nat.succ w)) λx=>
   (Z (Option.casesOn r (Ep c [.tuple [a,f]]) λq=>lQ c q.1 (.tuple [a,f])) λl=>Z (h.put g ⟨s,k,x,exact,true,l⟩) λm=>some (.val .undef m)))
  |_=>none))
 |_=>none
def xJ(g:ah)(c:Nat):Hd:=λcx d a b=>Z (iG cx d a g) λe=>match e with| .tuple f=>val b (oS f c)|_=>none
def Td(cx:Ctx)(a:H)(h:List ab)(c:T):aa ni:=
 Z (oS h 0) λg=>Z (cx.ty g) λi=>match i.u with
  | .str=>(match c with
   | .str f=>val a (Z (iZ (m7 f)) λb=>some (.int .i64 (.ofNat b)))
   |_=>none)
  | .slice _=>(match c with
   | .em d _=>val a (Z (iZ (m7 d)) λb=>some (.int .i64 (.ofNat b)))
   | .jb=>val a (some (.int .i64 0))
   | .arr _ _ _ e _=>val a (some (.int .i64 (.ofNat e)))
   |_=>none)
  | .array b _=>val a (some (.int .i64 (.ofNat b)))
  |_=>none
def rM(cx:Ctx)(b:ab):aa Ty:=
 Z (cx.ty b) λc=>match c.u with| .slice a=>cx.ty a|_=>none
def oz(cx:Ctx)(d:H)(e:ab)(a:T):aa (List T):=
 Z (cx.ty e) λf=>match f.u with
  | .str=>(match a with| .str b=>iK (λc=>some (T.int .u8 (.ofNat c))) b|_=>none)
  | .slice _=>d.jQ a
  |_=>none
def ju(cx:Ctx)(b:H)(e f:ab)(d g:T):aa ni:=
 Z (rM cx e) λa=>Z (oz cx b f g) λc=>iT (fits a.size c) (km (b.append a.size a.bytes d c))
def HU(cx:Ctx)(a:H)(n:ab)(q:T):aa ni:=
 Z (rM cx n) λg=>match q with
  | .em b _=>List.casesOn b (some (.val .undef a)) λ_ _=>none
  | .jb=>some (.val .undef a)
  | .arr c j m e _=>Nat.casesOn e (some (.val .undef a)) λ_=>Z (a.get c) λh=>jI.casesOn h λf d o exact l i=>
   iT (aq d j)<|iT (aq f g.size) (Bool.casesOn l
    (Z (mJ i m (so g.kV e)) λb=>Z (iZ (Nat.succ o)) λp=>
      Z (a.put c ⟨f,d,p,exact,false,b⟩) λk=>some (.val .undef k)) none)
  |_=>none
def ng:Builtin->Ctx->H->List ab->List T->aa ni
 | .clear=>λcx b f a=>(match a with| [c]=>(match f with| [h]=>HU cx b h c|_=>none)|_=>none)
 | .len=>λcx b f a=>(match a with| [c]=>Td cx b f c|_=>none)
 | .append=>λcx b f a=>(match a with| [j,c]=>(match f with| [h,k]=>ju cx b h k j c|_=>none)|_=>none)
 | .min=>λ_ b _ a=>(match a with| [c,i]=>val b (AS c i λg d e=>Br g (Bool.casesOn (Qm e d) d e))|_=>none)
 | .max=>λ_ b _ a=>(match a with| [c,i]=>val b (AS c i λg d e=>Br g (Bool.casesOn (Qm d e) d e))|_=>none)
 |_=>λ_ _ _ _=>none
def Hn(a:Call):Hd:=λcx e d h=>Z (tM cx e d a.args.toList) λc=>match a.callee with
 | .builtin f=>ng f cx h a.argTypes.toList c
 | .value b=>Z (iG cx e d b) λj=>(match j with
  | .func b g=>Z (Ep c g) λi=>some (.call b i)
  |_=>none)
 |_=>none
def ka:Op->Hd
 | .move a=>Hj a
 | .assign a=>Hj a
 | .pick e c g=>Jb e c g
 | .alloc b=>Ho b
 | .box _ a=>SK a
 | .build b i=>Ec b i
 | .buildSlice b s i=>qS b s i
 | .load b c=>Mx b c
 | .store b c a=>Hh b c a
 | .nilCheck a=>uR a
 | .binOp f b a j _=>(match f with| .eql=>hEq false b a j| .neq=>hEq true b a j|_=>SN f a j)
 | .unOp f _ a=>hUn f a
 | .convert v k a=>Qt v k a
 | .makeInterface b a=>D9 b a
 | .makeFunc l c g=>Hl l c g
 | .makeSlice b o e=>sx b o e
 | .slice b a p m r=>Hi b a p m r
 | .fieldAddr b a h=>sI b a h
 | .field b a h=>Eb b a h
 | .indexAddr b a d=>sH b a d
 | .index b a d=>D8 b a d
 | .extract a d=>xJ a d
 | .makeMap b u=>xI b u
 | .lookup b a d t=>wA b a d t
 | .mapUpdate b q n a=>qG b q n a
 | .range .. =>λ_ _ _ _=>none
 | .next .. =>λ_ _ _ _=>none
 | .entry _=>λ_ _ _ _=>none
 | .call e=>Hn e
 |_=>λ_ _ _ _=>none
def Dl(e:ai):TypeDesc->aa U
 | .int c=>some (.int c)
 | .bool=>some .ej
 | .string=>some .str
 | .slice a=>some (.slice a)
 | .array g a=>some (.array g a)
 | .struct d=>if d.toList.all (λb=>(e.info? b.type).any λf=> !(f.size==0))then some (.struct (d.toList.map λb=>(b.offset,b.type)))else none
 | .pointer a=>some (.eZ a)
 | .map c a=>some (.map c a)
 | .func _ _ _=>some .func
 | .interface _=>some .iface
 |_=>some .other
def wV(a:TypeDesc)(b:am):Bool:=
 match a,b with
 | .struct _,.agg _| .array _ _,.agg _=>true
 | .struct _,_| .array _ _,_|_,.agg _=>false
 |_,_=>true
def Qk:TypeDesc->Bool
 | .struct b=>b.toList.all λa=>a.name != "_"
 |_=>true
def dZ(a:ai)(c:ab)(e:Bool):aa Ty:=
 Z (a.info? c) λb=>Z (a.underlying c) λd=>Z b.zero λf=>Z (iK qB f.cells.toList) λg=>Z (Dl a d) λh=>
  iT (wV d f) (iT (aq (m7 g) b.size) (iT (Bool.casesOn e true (!a.stoodInHeld c&& !a.eqGuardType a.depth c&&Qk d)) (some ⟨h,b.size,b.bytes,e,g⟩)))
abbrev jU:=aj->List T->H->aa (T×H)
def md(i:af Oper)(g:Nat)(d:Env)(e:aa (Nat×Bool)):aa Bool:=
 Option.casesOn e (some true) λj=>two j λf a=>Z (Z (Z (oS i.toList f) λh=>h.dst) λc=>d.get g c) λk=>
  match k with
  | .ej b=>some (Bool.casesOn b (Bool.casesOn a true false) a)
  |_=>some false
def nj(cx:Ctx)(call:jU)(c:Nat)(k:af Oper)(a:Env)(e:H)(d:Oper):aa (Env×H):=
 Z (md k c a d.guard) λm=>Bool.casesOn m
  (Z (a.dst c d.dst .undef) λb=>some (b,e))
  (Z (ka d.op cx c a e) λi=>ni.casesOn i
    (λg f=>Z (a.dst c d.dst g) λb=>some (b,f))
    (λj h=>Z (call j h e) λl=>two l λg f=>Z (a.dst c d.dst g) λb=>some (b,f)))
def mo(cx:Ctx)(call:jU)(g:Nat)(i:af Oper)(f:List Oper):Env->H->aa (Env×H):=
 @List.rec Oper (λ_=>Env->H->aa (Env×H)) (λa b=>some (a,b))
  (λh _ e a b=>Z (nj cx call g i a b h) λj=>two j λc d=>e c d) f
def fa:T->aa Nat
 | .eZ a _ _ _=>some a
 | .arr a _ _ _ _=>some a
 | .map a=>some a
 |_=>none
def jd(cx:Ctx)(d:Nat)(b:Env)(c:H)(e:Op):aa Nat:=
 match e with
 | .load _ a=>Z (iG cx d b a) fa
 | .indexAddr _ a _=>Z (iG cx d b a) fa
 | .slice _ a _ _ _=>Z (iG cx d b a) fa
 | .convert _ _ a=>Z (iG cx d b a) fa
 | .lookup _ a _ _=>Z (iG cx d b a) fa
 | .makeMap _ _=>some c.size
 | .alloc _=>some c.size
 | .box _ _=>some c.size
 | .buildSlice _ _ _=>some c.size
 | .makeSlice _ _ _=>some c.size
 |_=>none
def jt:Op->Bool
 | .store .. =>true
 | .call b=>(match b.callee with
  | .builtin a=>(match a with| .len| .min| .max=>false|_=>true)
  |_=>true)
 | .next .. =>true
 | .range .. =>true
 | .entry .. =>true
 | .mapUpdate .. =>true
 |_=>false
structure Seen where
 oG:List (Nat×Nat)
 mQ:List (Nat×H×H)
def AP(c:List Nat)(d:List Edge):Nat:=
 d.foldr (λa b=>Bool.casesOn (Region.binds .any a) b (Nat.lor b (Nat.lor (Nat.shiftLeft 1 a.on) (c.getD a.on 0)))) 0
def Po:List Oper->List Nat->List Nat
 | [],a=>a
 |o::b,a=>Po b (a++[AP a o.after.toList])
def kL(c:af Oper)(a b:Nat):Bool:=((Po c.toList []).getD b 0).testBit a
def gJ(b c:H)(a:Nat):Bool:=
 Option.casesOn (b.get a) true λd=>Option.casesOn (c.get a) false λe=>aq d.ver e.ver
def qF(e:af Oper)(c b:Nat)(d:List (Nat×H×H)):Bool:=
 AU (λa=>Bool.casesOn (gJ a.2.1 a.2.2 b) (kL e a.1 c) true) d
def Ba(f:af Oper)(d:Nat)(b c:H)(e:List (Nat×Nat)):Bool:=
 AU (λa=>Bool.casesOn (gJ b c a.2) (kL f a.1 d) true) e
def uD(cx:Ctx)(e:Nat)(g:af Oper)(c:Nat)(b:Env)(d:List (Nat×H×H))(f:Op):Bool:=
 match f with
 | .store _ h _=>Option.casesOn (Z (iG cx e b h) fa) true λa=>qF g c a d
 |_=>true
def lf(cx:Ctx)(call:jU)(j:Nat)(g:af Oper)(l:List Oper):Nat->Seen->Env->H->aa (Env×H):=
 @List.rec Oper (λ_=>Nat->Seen->Env->H->aa (Env×H)) (λ_ _ c d=>some (c,d))
  (λf _ i a b c d=>Z (nj cx call j g c d f) λm=>two m λh e=>
    Z (md g j c f.guard) λn=>Bool.casesOn n (i (Nat.succ a) b h e)
     (Bool.casesOn (jt f.op)
       (Option.casesOn (jd cx j c d f.op) (i (Nat.succ a) b h e)
         λk=>iT (qF g a k b.mQ) (i (Nat.succ a) ⟨(a,k)::b.oG,b.mQ⟩ h e))
       (iT (Ba g a d e b.oG) (iT (uD cx j g a c b.mQ f.op) (i (Nat.succ a) ⟨b.oG,(a,d,e)::b.mQ⟩ h e))))) l
inductive Ex where
 |normal|exit (id:Nat)|ret
 deriving Inhabited
abbrev Out:=aa (Ex×Env×H)
def three{a:Type}(e:Ex×Env×H)(c:Ex->Env->H->a):a:=Prod.casesOn e λg f=>Prod.casesOn f λb d=>c g b d
def qQ(c:Env->H->Out)(h:Nat):Env->H->Out:=
 @Nat.rec (λ_=>Env->H->Out) (λ_ _=>none)
  (λ_ g d e=>Z (c d e) λi=>three i λj a b=>Ex.casesOn j (g a b) (λf=>some (.exit f,a,b)) (some (.ret,a,b))) h
def PV(cx:Ctx)(call:jU)(g:Nat)(a:af Oper)(i:Bool)(j:Env)(f:H):Out:=
 Env.casesOn j λh _=>Bool.casesOn i
  (Z (mo cx call g a a.toList ⟨h,.nil⟩ f) λd=>two d λb c=>some (.normal,Env.casesOn b λe _=>⟨e,.nil⟩,c))
  (Z (lf cx call g a a.toList 0 ⟨[],[]⟩ ⟨h,.nil⟩ f) λd=>two d λb c=>some (.normal,Env.casesOn b λe _=>⟨e,.nil⟩,c))
def F7(c d:Env->H->Out)(e:Env)(f:H):Out:=
 Z (c e f) λh=>three h λi a b=>Ex.casesOn i (d a b) (λg=>some (.exit g,a,b)) (some (.ret,a,b))
def MP(cx:Ctx)(f:Nat)(e:ah)(c d:Env->H->Out)(a:Env)(b:H):Out:=
 Z (iG cx f a e) λh=>match h with
  | .ej g=>Bool.casesOn g (d a b) (c a b)
  |_=>none
def BU(id:Nat)(d:Env->H->Out)(e:Env)(f:H):Out:=
 Z (d e f) λg=>three g λh a b=>Ex.casesOn h (some (.normal,a,b)) (λc=>Bool.casesOn (aq c id) (some (.exit c,a,b)) (some (.normal,a,b))) (some (.ret,a,b))
def ll(cx:Ctx)(call:jU)(c a:Nat):Code->Env->H->Out
 | .skip=>λd e=>some (.normal,d,e)
 | .region _ i h=>PV cx call a i h
 | .seq f b=>F7 (ll cx call c a f) (ll cx call c a b)
 | .cond g f b=>MP cx a g (ll cx call c a f) (ll cx call c a b)
 | .block id b=>BU id (ll cx call c a b)
 | .loop b=>qQ (ll cx call c a b) c
 | .exit id=>λd e=>some (.exit id,d,e)
 | .ret=>λd e=>some (.ret,d,e)
 |_=>λ_ _=>none
def oJ(g:Nat)(h:Nat):Nat->List T->aa iP:=
 @Nat.rec (λ_=>Nat->List T->aa iP) (λ_ _=>some .nil)
  (λ_ c a f=>Z (iZ (Nat.succ a)) λb=>List.casesOn f
    (Bool.casesOn (lL g a) (c b []) (Z (c b []) λd=>some (.cons a .undef d)))
    λe i=>Z (c b i) λd=>some (.cons a e d)) h
def pq(cx:Ctx)(c:Nat)(b:Env)(e:H)(f:List ResultVar):aa (List T):=
 iK (λh=>ResultVar.casesOn h (λa=>b.get c a) (λd a=>Z (b.get c d) λg=>Z (cx.ty a) λi=>e.load i g)) f
def Af(b:Nat)(e:List Nat):Nat->aa Int:=
 @List.rec Nat (λ_=>Nat->aa Int) (λ_=>some (.negSucc 0))
  (λf _ d a=>Bool.casesOn (aq f b) (Z (iZ (Nat.succ a)) λc=>d c) (some (.ofNat a))) e
def Cu(f:Prim)(b:List T)(a:H):aa (T×H):=
 match f with
 | .qp=>(match b with
  | [.str g,.int .u8 (.ofNat c)]=>iT (au c 256) (Z (Af c g 0) λe=>some (.int .i64 e,a))
  |_=>none)
 | .clone h bytes=>(match b with
  | [i]=>Z (a.jQ i) λd=>List.casesOn d (some (.em [] false,a)) λ_ _=>a.jK h bytes [] d
  |_=>none)
def kJ(a:List T):T:=match a with| [b]=>b|_=> .tuple a
def wD(cx:Ctx)(call:jU)(l:Nat)(a:Func)(c:Nat)(g:Bool)(i:List T)(m:H):aa (T×H):=
 Option.casesOn a.body none λj=>H.casesOn m λd h k=>
  Z (oJ c a.ntmps 0 i) λo=>
  Z (ll cx call l c j ⟨o,.nil⟩ ⟨d,d,k⟩) λn=>three n λp f b=>Ex.casesOn p
   (Z (pq cx c f b a.results.toList) λe=>G8 g d h (kJ e) b)
   (λ_=>none)
   (Z (pq cx c f b a.results.toList) λe=>G8 g d h (kJ e) b)
