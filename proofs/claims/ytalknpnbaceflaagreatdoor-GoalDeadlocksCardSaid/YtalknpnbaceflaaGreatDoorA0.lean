/- TiDefs -/
import GoSem.Step
set_option linter.all false
namespace Go.TI
theorem nl9{α:Type}{f:α->Nat}{b:Nat}(h:∀a,Nat.ble (f a) b=true:=by intro _;rfl):∀a,f a<=b:=λa=>Nat.le_of_ble_eq_true (h a)
theorem B{p:Prop}(h:p:=by omega):p:=h
theorem G{p:Prop}(h:p:=by simp):p:=h
theorem dR{p:Prop}(h:p:=by (simp;omega)):p:=h
theorem dS{p:Prop}(h:p:=by (simp only;omega)):p:=h
theorem dT{p:Prop}(h:p:=by decide):p:=h
end Go.TI
namespace Go.TI
abbrev aa:=@Option
abbrev af:=@TypeId
abbrev ah:=@Array
abbrev ai:=@Operand
abbrev aj:=@Program
abbrev ak:=@FuncId
abbrev ao:=@IntKind
abbrev aq:=@Value
theorem Z:type_of% @if_neg:=@if_neg
theorem au:type_of% @if_pos:=@if_pos
theorem aw:type_of% @Option.some.injEq:=@Option.some.injEq
theorem ax:type_of% @Nat.le_refl:=@Nat.le_refl
theorem ay:type_of% @Nat.zero_le:=@Nat.zero_le
theorem az:type_of% @Bool.and_eq_true:=@Bool.and_eq_true
theorem aB:type_of% @List.getElem?_eq_getElem:=@List.getElem?_eq_getElem
theorem aC:type_of% @List.mem_of_getElem?:=@List.mem_of_getElem?
theorem aD:type_of% @Prod.ext:=@Prod.ext
theorem aF:type_of% @Prod.mk.injEq:=@Prod.mk.injEq
theorem aG:type_of% @List.getElem_mem:=@List.getElem_mem
theorem aH:type_of% @Nat.eq_of_beq_eq_true:=@Nat.eq_of_beq_eq_true
theorem aI:type_of% @List.length_map:=@List.length_map
theorem aJ:type_of% @List.drop_eq_getElem_cons:=@List.drop_eq_getElem_cons
theorem aK:type_of% @Nat.blt_eq:=@Nat.blt_eq
theorem aL:type_of% @List.take_length:=@List.take_length
theorem aM:type_of% @decide_eq_true_eq:=@decide_eq_true_eq
theorem aO:type_of% @List.map_cons:=@List.map_cons
theorem aP:type_of% @List.take_succ_eq_append_getElem:=@List.take_succ_eq_append_getElem
theorem aQ:type_of% @List.length_cons:=@List.length_cons
theorem aR:type_of% @List.getElem?_map:=@List.getElem?_map
theorem aS:type_of% @decide_eq_false:=@decide_eq_false
theorem aT:type_of% @Nat.lt_or_ge:=@Nat.lt_or_ge
theorem aU:type_of% @Nat.le_trans:=@Nat.le_trans
theorem aV:type_of% @List.length_append:=@List.length_append
theorem aW:type_of% @List.map_set:=@List.map_set
theorem aY:type_of% @Nat.mul_le_mul_right:=@Nat.mul_le_mul_right
theorem aZ:type_of% @List.eq_nil_of_length_eq_zero:=@List.eq_nil_of_length_eq_zero
theorem bh:type_of% @Nat.le_of_ble_eq_true:=@Nat.le_of_ble_eq_true
theorem bj:type_of% @List.append_assoc:=@List.append_assoc
theorem bm:type_of% @Bool.true_and:=@Bool.true_and
theorem br:type_of% @if_false:=@if_false
theorem bw:type_of% @if_true:=@if_true
theorem bD:type_of% @List.flatMap_cons:=@List.flatMap_cons
theorem bE:type_of% @Ne.symm:=@Ne.symm
theorem bF:type_of% @List.map_nil:=@List.map_nil
theorem bG:type_of% @List.append_nil:=@List.append_nil
theorem bI:type_of% @Nat.le_of_lt:=@Nat.le_of_lt
theorem bJ:type_of% @Bool.eq_iff_iff:=@Bool.eq_iff_iff
theorem bK:type_of% @Nat.lt_of_lt_of_le:=@Nat.lt_of_lt_of_le
theorem bL:type_of% @congrArg:=@congrArg
theorem bM:type_of% @decide_eq_true:=@decide_eq_true
theorem bO:type_of% @List.mem_of_mem_take:=@List.mem_of_mem_take
theorem bP:type_of% @List.mem_of_mem_drop:=@List.mem_of_mem_drop
theorem bQ:type_of% @List.take_of_length_le:=@List.take_of_length_le
theorem bR:type_of% @List.drop_length:=@List.drop_length
theorem bU:type_of% @List.getElem?_drop:=@List.getElem?_drop
theorem bV:type_of% @List.getElem?_eq_none:=@List.getElem?_eq_none
theorem bY:type_of% @List.cons.injEq:=@List.cons.injEq
theorem bZ:type_of% @List.eq_of_mem_replicate:=@List.eq_of_mem_replicate
theorem cg:type_of% @List.all_eq_true:=@List.all_eq_true
theorem ci:type_of% @List.mem_cons:=@List.mem_cons
theorem cj:type_of% @Array.getD_eq_getD_getElem?:=@Array.getD_eq_getD_getElem?
theorem cm:type_of% @Nat.succ_mul:=@Nat.succ_mul
theorem cq:type_of% @Bool.not_eq_true':=@Bool.not_eq_true'
theorem cr:type_of% @Nat.ble_eq_true_of_le:=@Nat.ble_eq_true_of_le
theorem cu:type_of% @Bool.or_eq_true:=@Bool.or_eq_true
theorem cv:type_of% @decide_eq_false_iff_not:=@decide_eq_false_iff_not
theorem cw:type_of% @List.getElem?_set:=@List.getElem?_set
theorem cy:type_of% @Nat.add_mul:=@Nat.add_mul
theorem cz:type_of% @List.set_cons_zero:=@List.set_cons_zero
theorem cA:type_of% @List.all_cons:=@List.all_cons
theorem cB:type_of% @List.flatMap_nil:=@List.flatMap_nil
theorem cC:type_of% @Bool.false_eq_true:=@Bool.false_eq_true
theorem cD:type_of% @List.getElem?_take:=@List.getElem?_take
theorem cE:type_of% @Nat.min_eq_left:=@Nat.min_eq_left
theorem cG:type_of% @Int.toNat_natCast:=@Int.toNat_natCast
theorem cH:type_of% @List.mem_or_eq_of_mem_set:=@List.mem_or_eq_of_mem_set
theorem cI:type_of% @List.mem_flatMap:=@List.mem_flatMap
theorem cJ:type_of% @List.cons_append:=@List.cons_append
theorem cK:type_of% @List.getElem?_append_left:=@List.getElem?_append_left
theorem cM:type_of% @Array.ext':=@Array.ext'
theorem cN:type_of% @List.getD_eq_getElem?_getD:=@List.getD_eq_getElem?_getD
theorem cO:type_of% @Option.some.inj:=@Option.some.inj
theorem cP:type_of% @List.set_cons_succ:=@List.set_cons_succ
theorem cQ:type_of% @List.nil_append:=@List.nil_append
theorem cR:type_of% @List.getElem?_of_mem:=@List.getElem?_of_mem
theorem cS:type_of% @List.not_mem_nil:=@List.not_mem_nil
theorem cT:type_of% @Bool.or_eq_false_iff:=@Bool.or_eq_false_iff
theorem cU:type_of% @Nat.zero_add:=@Nat.zero_add
theorem cV:type_of% @List.length_nil:=@List.length_nil
theorem cW:type_of% @List.ext_getElem?:=@List.ext_getElem?
theorem cY:type_of% @Array.length_toList:=@Array.length_toList
theorem cZ:type_of% @List.getElem?_modify:=@List.getElem?_modify
theorem c8:type_of% @Bool.not_eq_false':=@Bool.not_eq_false'
theorem da:type_of% @Nat.add_assoc:=@Nat.add_assoc
theorem db:type_of% @Nat.ne_of_beq_eq_false:=@Nat.ne_of_beq_eq_false
theorem dc:type_of% @List.mem_append:=@List.mem_append
theorem df:type_of% @List.take_append_drop:=@List.take_append_drop
theorem dg:type_of% @List.length_set:=@List.length_set
theorem dh:type_of% @List.drop_drop:=@List.drop_drop
theorem dj:type_of% @Option.map_some:=@Option.map_some
theorem dq:type_of% @Array.getElem?_toList:=@Array.getElem?_toList
theorem dt:type_of% @List.take_append_of_le_length:=@List.take_append_of_le_length
theorem du:type_of% @List.getElem?_append_right:=@List.getElem?_append_right
theorem dw:type_of% @List.mem_append_left:=@List.mem_append_left
theorem dx:type_of% @Nat.lt_succ_self:=@Nat.lt_succ_self
theorem dy:type_of% @List.mem_range:=@List.mem_range
theorem dz:type_of% @Bool.false_and:=@Bool.false_and
theorem dA:type_of% @of_decide_eq_true:=@of_decide_eq_true
theorem dB:type_of% @Option.getD_some:=@Option.getD_some
theorem dC:type_of% @List.replicate_succ:=@List.replicate_succ
theorem dD:type_of% @List.toList_toArray:=@List.toList_toArray
theorem dE:type_of% @List.mem_iff_getElem?:=@List.mem_iff_getElem?
theorem dF:type_of% @List.getElem?_cons_succ:=@List.getElem?_cons_succ
theorem dG:type_of% @Nat.lt_trichotomy:=@Nat.lt_trichotomy
theorem dH:type_of% @Bool.eq_false_iff:=@Bool.eq_false_iff
theorem dI:type_of% @List.pairwise_cons:=@List.pairwise_cons
theorem dJ:type_of% @List.flatMap_append:=@List.flatMap_append
theorem dK:type_of% @List.take_add_one:=@List.take_add_one
theorem dL:type_of% @List.getElem?_set_self:=@List.getElem?_set_self
theorem dM:type_of% @List.getElem?_set_ne:=@List.getElem?_set_ne
theorem dN:type_of% @List.length_range:=@List.length_range
theorem dO:type_of% @List.mem_append_right:=@List.mem_append_right
end Go.TI
namespace Go.TI
noncomputable section
inductive T where
 |undef
 |ez (b:Bool)
 |int (k:ao) (n:Int)
 |str (s:List Nat)
 |lU
 |fc (b ep i j:Nat)
 |ks (cells:List T)
 |V (gW:List T) (full:Bool)
 |iX
 |arr (b ep o l:Nat) (full:Bool)
 |func (f:ak) (captured:List T)
 |my
 |mB
 |iface (t:af) (v:T)
 |iter (b:Nat)
 |map (b:Nat)
 |pS
 |eZ (cells:List T)
 |tuple (vs:List T)
 deriving Inhabited
def T.cells:T->List T
 | .eZ a=>a
 |v=>[v]
def T.jc:T->Bool
 | .undef| .tuple _=>false
 |_=>true
structure jK where
 sz:Nat
 ep:Nat
 ver:Nat
 exact:Bool
 it:Bool
 gW:List T
 deriving Inhabited
structure H where
 size:Nat
 low:Nat
 ir:List jK
 deriving Inhabited
inductive U where
 |int (k:ao)|ez|str|slice (e:af)|array (n:Nat) (e:af)|map (k e:af)|struct (fs:List (Nat×af))|fc (e:af)|func|iface|other
 deriving Inhabited
structure Ty where
 u:U
 size:Nat
 bytes:Nat
 cmp:Bool
 zero:List T
 deriving Inhabited
inductive Prim where
 |pY
 |clone (sz bytes:Nat)
 deriving Inhabited
structure Fun where
 fn:Func
 D:Nat
 mE:Bool
 ajD:aa Prim
 deriving Inhabited
structure Ctx where
 ty:af->aa Ty
 fn:ak->aa Fun
 gl:Nat->aa (List T)
def J{a b:Type}(d:aa a)(c:a->aa b):aa b:=Option.casesOn d none c
def iS{a:Type}(b:Bool)(c:aa a):aa a:=Bool.casesOn b none c
def two{a b c:Type}(e:a×b)(d:a->b->c):c:=Prod.casesOn e d
def oo{a:Type}(c:List a):Nat->aa a:=
 @List.rec a (λ_=>Nat->aa a) (λ_=>none) (λf _ b e=> @Nat.rec (λ_=>aa a) (some f) (λd _=>b d) e) c
def mw{a:Type}(d:List a):Nat->a->aa (List a):=
 @List.rec a (λ_=>Nat->a->aa (List a)) (λ_ _=>none)
  (λi g c f b=> @Nat.rec (λ_=>aa (List a)) (some (b::g)) (λe _=>J (c e b) λh=>some (i::h)) f) d
def takeN{a:Type}(d:Nat):List a->aa (List a):=
 @Nat.rec (λ_=>List a->aa (List a)) (λ_=>some [])
  (λ_ b c=> @List.rec a (λ_=>aa (List a)) none (λg e _=>J (b e) λf=>some (g::f)) c) d
def kZ{a:Type}(d:Nat):List a->aa (List a):=
 @Nat.rec (λ_=>List a->aa (List a)) (λb=>some b)
  (λ_ c b=> @List.rec a (λ_=>aa (List a)) none (λ_ e _=>c e) b) d
def mJ{a:Type}(c:List a):Nat:= @List.rec a (λ_=>Nat) 0 (λ_ _ b=>Nat.succ b) c
def HC{a:Type}(e f:List a):aa (List a):=
 @List.rec a (λ_=>aa (List a)) (some f) (λd _ b=>J b λc=>some (d::c)) e
def iH{a b:Type}(c:a->aa b)(e:List a):aa (List b):=
 @List.rec a (λ_=>aa (List b)) (some []) (λg _ d=>J (c g) λh=>J d λf=>some (h::f)) e
def rJ{a:Type}(d:a)(c:Nat):List a:= @Nat.rec (λ_=>List a) [] (λ_ b=>d::b) c
def Af{a:Type}(b:a->Bool)(d:List a):Bool:= @List.rec a (λ_=>Bool) true (λe _ c=>Bool.rec false c (b e)) d
def jd(b:Nat):aa Nat:=Nat.casesOn b (some 0) (λa=>some (Nat.succ a))
def OZ(c:Int):aa Int:=
 Int.casesOn c (λa=>Nat.casesOn a (some (.ofNat 0)) (λb=>some (.ofNat (Nat.succ b)))) (λa=>Nat.casesOn a (some (.negSucc 0)) (λb=>some (.negSucc (Nat.succ b))))
def AI(a:ao)(c:Int):aa T:=J (OZ c) λb=>some (.int a b)
def Ak(a:Bool):aa T:=Bool.casesOn a (some (.ez false)) (some (.ez true))
def kNo:ao->Nat
 | .i8=>0| .i16=>1| .i32=>2| .i64=>3| .u8=>4| .u16=>5| .u32=>6| .u64=>7
def G6(a b:ao):Bool:=Nat.beq (kNo a) (kNo b)
def O9(d c:Int):Bool:=Int.casesOn d (λa=>Int.casesOn c (λb=>Nat.blt a b) (λ_=>false)) (λa=>Int.casesOn c (λ_=>true) (λb=>Nat.blt b a))
def VW(d c:Int):Bool:=Int.casesOn d (λa=>Int.casesOn c (λb=>Nat.beq a b) (λ_=>false)) (λa=>Int.casesOn c (λ_=>false) (λb=>Nat.beq a b))
def Or(k:ao)(a:Int):Int:=
 match k with
 | .i64=>Int.casesOn a (λb=>Bool.casesOn (Nat.ble b 9223372036854775807) (IntKind.i64.wrap a) a) (λb=>Bool.casesOn (Nat.ble b 9223372036854775807) (IntKind.i64.wrap a) a)
 |k=>k.wrap a
def sP(a:ao)(b:Int):aa T:=AI a (Or a b)
def Zu(b:List Nat):List Nat->Bool:=
 @List.rec Nat (λ_=>List Nat->Bool) (λa=>List.casesOn a true (λ_ _=>false))
  (λe _ c a=>List.casesOn a false (λf d=>Bool.rec false (c d) (Nat.beq e f))) b
def VV(d:List Nat):List Nat->Bool:=
 @List.rec Nat (λ_=>List Nat->Bool) (λa=>List.casesOn a false (λ_ _=>true))
  (λb _ e a=>List.casesOn a false (λc f=>Bool.rec (Bool.rec false (e f) (Nat.beq b c)) true (Nat.blt b c))) d
def H.get(d:H)(a:Nat):aa jK:=
 H.casesOn d λb _ c=>iS (Nat.blt a b) (oo c (Nat.sub (Nat.sub b 1) a))
def H.new(g:Nat->T)(h:H)(i:jK):aa (T×H):=
 H.casesOn h λa d c=>J (jd (Nat.succ a)) λe=>some (g a,⟨e,d,i::c⟩)
def H.put(g:H)(a:Nat)(x:jK):aa H:=
 H.casesOn g λb e f=>iS (Nat.blt a b)
  (J (mw f (Nat.sub (Nat.sub b 1) a) x) λd=>Bool.casesOn (Nat.blt a e) (some ⟨b,e,d⟩) (some ⟨b,a,d⟩))
def over(a:List T)(f:List T):aa (List T):=
 @List.rec T (λ_=>List T->aa (List T)) (λa=>some a)
  (λe _ b a=>List.casesOn a none (λ_ c=>J (b c) λd=>some (e::d))) f a
def mG(a:List T)(d:Nat)(g:List T):aa (List T):=
 @Nat.rec (λ_=>List T->aa (List T)) (λa=>over a g)
  (λ_ c a=>List.casesOn a none (λb e=>J (c e) λf=>some (b::f))) d a
def Ty.isAgg(a:Ty):Bool:=match a.u with| .struct _| .array _ _=>true|_=>false
def Zs(a:List T):T:=List.casesOn a .undef (λb _=>b)
def Ty.lH(a:Ty):T:=Bool.casesOn a.isAgg (Zs a.zero) (.eZ a.zero)
def lK(b:Ty)(a:List T):aa T:=
 Bool.casesOn b.isAgg (oo a 0) (J (takeN b.size a) λc=>some (.eZ c))
def H.elem(e:H)(a c i:Nat):aa T:=
 J (e.get a) λx=>jK.casesOn x λ_ d _ _ f b=>iS (Nat.beq d c) (Bool.casesOn f (oo b i) none)
def H.load(g:H)(b:Ty)(c:T):aa T:=
 match c with
 | .fc d f h i=>J (g.elem d f h) λe=>J (kZ i e.cells) λa=>lK b a
 | .ks a=>lK b a
 |_=>none
def mS(d:T)(a:Nat)(b:List T):aa T:=
 match d with
 | .eZ c=>J (mG c a b) λe=>some (.eZ e)
 |_=>match a,b with
  |0,[f]=>some f
  |_,_=>none
def H.store(d:H)(o:Ty)(g f:T):aa H:=
 match g with
 | .fc a j e m=>iS (Nat.beq (mJ f.cells) o.size) (J (d.get a) λr=>jK.casesOn r λn c p exact l b=>
  iS (Nat.beq c j) (Bool.casesOn l (J (oo b e) λh=>J (mS h m f.cells) λi=>J (mw b e i) λk=>
   J (jd (Nat.succ p)) λq=>d.put a ⟨n,c,q,exact,false,k⟩) none))
 |_=>none
def H.j1(f:H)(k:T):aa (List T):=
 match k with
 | .V e _=>some e
 | .iX=>some []
 | .arr a c i h _=>J (f.get a) λl=>jK.casesOn l λ_ d _ _ g b=>iS (Nat.beq d c) (Bool.casesOn g (J (kZ i b) λj=>takeN h j) none)
 |_=>none
def fits(c:Nat)(b:List T):Bool:=List.casesOn b true (λa _=>Nat.beq (mJ a.cells) c)
def mY(b:Nat)(exact:Bool)(a:List T):jK:=⟨b,0,0,exact,false,a⟩
def H.jH(g:H)(a bytes:Nat)(d e:List T):aa (T×H):=
 J (HC d e) λb=>J (jd (mJ b)) λc=>
 iS (Nat.ble 1 bytes)<|iS (Nat.ble (Nat.mul c bytes) 70368744177664) (iS (fits a d) (iS (fits a e) (g.new (λf=> .arr f 0 0 c false) (mY a false b))))
def H.oz(e:H)(g bytes a k o:Nat)(i:List T):aa (T×H):=
 J (e.get a) λr=>jK.casesOn r λh b p _ n j=>
  J (takeN o j) λl=>J (HC l i) λd=>J (jd (mJ d)) λf=>
  iS (Nat.ble 1 bytes)<|iS (Nat.beq b k) (iS (Nat.beq h g) (iS (Nat.ble (Nat.mul f bytes) 70368744177664) (iS (fits g i) (Bool.casesOn n
   (J (jd (Nat.succ b)) λc=>J (jd (Nat.succ p)) λq=>
     J (e.put a ⟨h,c,q,false,false,d⟩) λm=>some (.arr a c 0 f false,m)) none))))
def qQ:T->Bool
 | .V _ _| .iX| .arr .. =>true
 |_=>false
def H.append(a:H)(e bytes:Nat)(d:T)(b:List T):aa (T×H):=
 List.casesOn b (iS (qQ d) (some (d,a))) λ_ _=>match d with
  | .V c f=>List.casesOn c (a.jH e bytes [] b) λ_ _=>iS f (a.jH e bytes c b)
  | .arr g h j i f=>Bool.casesOn f
   (Nat.casesOn j (a.oz e bytes g h i b) λ_=>none)
   (J (a.j1 d) λc=>a.jH e bytes c b)
  |_=>none
def freeze(m:H)(p:Nat)(h:Nat):T->aa T:=
 @Nat.rec (λ_=>T->aa T) (λ_=>none) (λ_ e f=>match f with
  | .arr b i q o l=>iS (Nat.ble p b) (J (m.get b) λr=>jK.casesOn r λ_ j _ exact n c=>
   iS (Nat.beq j i) (Bool.casesOn n (J (J (kZ q c) λa=>takeN o a) λk=>J (iH e k) λd=>
    List.casesOn d (List.casesOn c (Bool.casesOn exact (some .iX) (some (.V [] false))) λ_ _=>some .iX) λ_ _=>some (.V d l)) none))
  | .eZ g=>J (iH e g) λa=>some (.eZ a)
  | .ez _| .int _ _| .str _| .lU| .V _ _| .iX| .my| .mB=>some f
  |_=>none) h
def jA(d:H)(c:Nat)(a:T):aa T:=
 match a with
 | .arr b _ _ _ _=>Bool.casesOn (Nat.ble c b) (some a) (freeze d c 12 a)
 | .fc b _ _ _=>Bool.casesOn (Nat.ble c b) (some a) none
 | .map b=>Bool.casesOn (Nat.ble c b) (some a) none
 | .undef=>some a
 |_=>freeze d c 12 a
def lM(a:H)(b:Nat)(c:T):aa T:=
 match c with
 | .eZ d=>J (iH (jA a b) d) λe=>some (.eZ e)
 |_=>jA a b c
def jX(a:H)(b:Nat)(c:T):aa T:=
 match c with
 | .tuple e=>J (iH (lM a b) e) λd=>some (.tuple d)
 |_=>lM a b c
def lN(b:Nat):T->Bool
 | .arr a _ _ _ _=>Nat.blt a b
 | .fc a _ _ _=>Nat.blt a b
 | .map a=>Nat.blt a b
 | .ez _| .int _ _| .str _| .lU| .V _ _| .iX| .my| .mB| .pS| .ks _=>true
 |_=>false
def below(b:Nat):T->Bool
 | .eZ a=>Af (lN b) a
 | .func _ a=>Af (lN b) a
 | .tuple a=>Af (lN b) a
 |v=>lN b v
def uX(d:Nat)(b:Nat):List jK->Bool:=
 @Nat.rec (λ_=>List jK->Bool) (λ_=>true) (λ_ a c=>List.casesOn c true λf e=>Bool.casesOn (Af (below d) f.gW) false (a e)) b
def py(c:Nat)(d:T)(f:H):aa (T×H):=
 H.casesOn f λe b a=>Bool.casesOn (Nat.blt b c) (some (d,⟨e,c,a⟩)) (some (d,⟨e,b,a⟩))
def wM(a c:Nat)(i e:T)(h:H):aa (T×H):=
 H.casesOn h λg b f=>J (kZ (Nat.sub g a) f) λd=>
  Bool.casesOn (Nat.ble a b)
   (Bool.casesOn (uX a (Nat.sub a b) d) (py c i ⟨g,b,f⟩)
     (Bool.casesOn (Nat.blt b c) (some (e,⟨a,c,d⟩)) (some (e,⟨a,b,d⟩))))
   (some (e,⟨a,c,d⟩))
def FV(e:Bool)(d c:Nat)(b:T)(a:H):aa (T×H):=
 Bool.casesOn e (Option.casesOn (jX a d b) (py c b a) λf=>wM d c b f a) (py c b a)
inductive iM where
 |nil
 |cons (s:Nat) (v:T) (r:iM)
 deriving Inhabited
structure Env where
 vars:iM
 tmps:iM
 deriving Inhabited
def M(c:iM)(d:Nat):aa T:=
 @iM.rec (λ_=>aa T) none (λb e _ a=>Bool.rec a (some e) (Nat.beq b d)) c
def nG(e:iM)(b:Nat)(c:T):aa iM:=
 @iM.rec (λ_=>aa iM) (some (.cons b c .nil)) (λa h f d=>Bool.rec (J d λg=>some (.cons a h g)) (some (.cons a c f)) (Nat.beq a b)) e
def lI(a b:Nat):Bool:=Nat.beq (Nat.land (Nat.shiftRight a b) 1) 1
def Env.get(c:Nat)(b:Env)(a:Nat):aa T:=
 Env.casesOn b λe d=>Bool.casesOn (lI c a) (M d a) (M e a)
def Env.set(g:Nat)(e:Env)(a:Nat)(c:T):aa Env:=
 Env.casesOn e λd b=>Bool.casesOn (lI g a) (some ⟨d,.cons a c b⟩) (J (nG d a c) λf=>some ⟨f,b⟩)
def Env.dst(c:Nat)(a:Env)(b:aa Tmp)(e:T):aa Env:=
 Option.casesOn b (some a) λd=>a.set c d e
def Dh(b:List UInt8):aa (List Nat):=iH (λa=>jd a.toNat) b
def qg:aq->aa T
 | .bool a=>some (.ez a)
 | .int b d=>some (.int b d)
 | .string e=>J (Dh e.data.toList) λc=>some (.str c)
 | .pointer none=>some .lU
 | .map none=>some .pS
 | .slice none 0 0=>some (.V [] false)
 | .nilFunc=>some .my
 | .nilIface=>some .mB
 |_=>none
def BP:aq->aa T
 | .agg a=>J (iH qg a.toList) λb=>some (.eZ b)
 |v=>qg v
def iG(cx:Ctx)(e:Nat)(b:Env)(f:ai):aa T:=
 Operand.casesOn f (λg=>b.get e g) (λh=>BP h) (λd=>J (cx.gl d) λa=>some (.ks a)) (λc=>some (.func c []))
def s7(cx:Ctx)(c:Nat)(a:Env)(b:List ai):aa (List T):=iH (iG cx c a) b
def sL:T->aa Nat
 | .int _ b=>Int.casesOn b (λa=>some a) (λ_=>none)
 |_=>none
def uU(g:U)(c a:T):aa Bool:=
 match g with
 | .int _=>(match c with| .int e d=>(match a with| .int f b=>iS (G6 e f) (some (VW d b))|_=>none)|_=>none)
 | .ez=>(match c with| .ez d=>(match a with| .ez b=>some (Bool.casesOn d (Bool.casesOn b true false) b)|_=>none)|_=>none)
 | .str=>(match c with| .str d=>(match a with| .str b=>some (Zu d b)|_=>none)|_=>none)
 | .fc _=>(match c with
  | .lU=>(match a with| .lU=>some true| .fc .. | .ks _=>some false|_=>none)
  | .fc .. | .ks _=>(match a with| .lU=>some false|_=>none)
  |_=>none)
 | .func=>(match c with
  | .my=>(match a with| .my=>some true| .func .. =>some false|_=>none)
  | .func .. =>(match a with| .my=>some false|_=>none)
  |_=>none)
 | .iface=>(match c with
  | .mB=>(match a with| .mB=>some true| .iface .. =>some false|_=>none)
  | .iface .. =>(match a with| .mB=>some false|_=>none)
  |_=>none)
 |_=>none
def U.plain:U->Bool
 | .int _| .ez| .str=>true
 |_=>false
def eqFields(cx:Ctx)(f:List (Nat×af)):Nat->List T->List T->aa Bool:=
 @List.rec (Nat×af) (λ_=>Nat->List T->List T->aa Bool) (λ_ _ _=>some true)
  (λa _ g b d e=>List.casesOn d none λk h=>List.casesOn e none λl i=>iS (Nat.beq a.1 b) (J (cx.ty a.2) λc=>iS c.u.plain
    (J (uU c.u k l) λj=>Bool.casesOn j (some false) (g (Nat.succ b) h i)))) f
def Cc(f:U)(b:List T):List T->aa Bool:=
 @List.rec T (λ_=>List T->aa Bool) (λa=>List.casesOn a (some true) λ_ _=>none)
  (λg _ c a=>List.casesOn a none λh d=>J (uU f g h) λe=>Bool.casesOn e (some false) (c d)) b
def Ml(cx:Ctx)(d:Ty)(e f:T):aa Bool:=
 match d.u with
 | .struct h=>(match e with
  | .eZ a=>(match f with
   | .eZ b=>iS d.cmp (eqFields cx h 0 a b)
   |_=>none)
  |_=>none)
 | .array i g=>(match e with
  | .eZ a=>(match f with
   | .eZ b=>iS d.cmp (J (cx.ty g) λc=>iS c.u.plain (iS (Nat.beq c.size 1) (iS (Nat.beq (mJ a) i) (Cc c.u a b))))
   |_=>none)
  |_=>none)
 |u=>uU u e f
def Aa(f g:T)(d:ao->Int->Int->aa T):aa T:=
 match f with
 | .int a b=>(match g with| .int e c=>iS (G6 a e) (d a b c)|_=>none)
 |_=>none
def CF(f g:T)(d:ao->Int->Nat->aa T):aa T:=
 match f with
 | .int a b=>(match g with| .int _ c=>Int.casesOn c (λe=>d a b (min e a.bits)) (λ_=>none)|_=>none)
 |_=>none
def N1(h c:T)(d:Int->Int->Bool)(e:List Nat->List Nat->Bool):aa T:=
 match h with
 | .int f a=>(match c with| .int g b=>iS (G6 f g) (Ak (d a b))|_=>none)
 | .str a=>(match c with| .str b=>Ak (e a b)|_=>none)
 |_=>none
def Ye(d e:T):aa T:=
 match d with
 | .str a=>(match e with
  | .str b=>J (HC a b) λc=>iS (Nat.ble (mJ c) 4294967296) (some (.str c))
  |_=>none)
 |_=>Aa d e λf a b=>sP f (a+b)
def binop:BinOp->T->T->aa T
 | .add=>Ye
 | .sub=>λd e=>Aa d e λc a b=>sP c (a-b)
 | .mul=>λd e=>Aa d e λc a b=>sP c (a*b)
 | .quo=>λd e=>Aa d e λc a b=>Bool.casesOn (VW b 0) (sP c (a.tdiv b)) none
 | .rem=>λd e=>Aa d e λc a b=>Bool.casesOn (VW b 0) (AI c (a.tmod b)) none
 | .and=>λd e=>Aa d e λc a b=>AI c (c.wrap (BitVec.ofInt c.bits a&&&BitVec.ofInt c.bits b).toNat)
 | .or=>λd e=>Aa d e λc a b=>AI c (c.wrap (BitVec.ofInt c.bits a|||BitVec.ofInt c.bits b).toNat)
 | .xor=>λd e=>Aa d e λc a b=>AI c (c.wrap (BitVec.ofInt c.bits a^^^BitVec.ofInt c.bits b).toNat)
 | .shl=>λd e=>CF d e λc a f=>AI c (c.wrap (a*2^f))
 | .shr=>λd e=>CF d e λc a f=>AI c (a.fdiv (2^f))
 | .lss=>λd e=>N1 d e O9 VV
 | .leq=>λd e=>N1 d e (λa b=> !O9 b a) (λa b=> !VV b a)
 | .gtr=>λd e=>N1 d e (λa b=>O9 b a) (λa b=>VV b a)
 | .geq=>λd e=>N1 d e (λa b=> !O9 a b) (λa b=> !VV a b)
 |_=>λ_ _=>none
def unop:UnOp->T->aa T
 | .neg=>λa=>(match a with| .int c d=>sP c (0-d)|_=>none)
 | .not=>λa=>(match a with| .ez b=>Bool.casesOn b (some (.ez true)) (some (.ez false))|_=>none)
 |_=>λ_=>none
def conv(cx:Ctx)(c:af)(a:T):aa T:=
 J (cx.ty c) λb=>match b.u with
  | .int d=>(match a with| .int _ n=>sP d n|_=>none)
  | .str=>(match a with| .str e=>some (.str e)|_=>none)
  |_=>none
def GI(cx:Ctx)(d:af)(i:T):aa T:=
 J (cx.ty d) λc=>match c.u with
  | .slice e=>(match i with
   | .str a=>J (cx.ty e) λh=>(match h.u with
    | .int g=>iS (G6 g .u8) (List.casesOn a (some .iX) λ_ _=>J (iH (λb=>some (T.int .u8 (.ofNat b))) a) λf=>some (.V f false))
    |_=>none)
   |_=>none)
  |_=>none
def Ca(cx:Ctx)(c:af)(a:Nat):aa (Nat×af):=
 J (cx.ty c) λd=>match d.u with| .struct b=>oo b a|_=>none
def oH(place:Nat->aa (Nat×Nat))(f:List (Nat×T)):List T->aa (List T):=
 @List.rec (Nat×T) (λ_=>List T->aa (List T)) (λa=>some a)
  (λb _ e a=>J (place b.1) λc=>iS (Nat.beq (mJ b.2.cells) c.2) (J (mG a c.1 b.2.cells) λd=>e d)) f
def r8(h:Nat)(g:List (Nat×T)):List T->aa (List T):=
 @List.rec (Nat×T) (λ_=>List T->aa (List T)) (λa=>some a)
  (λf _ e a=>two f λd b=>iS (Nat.beq (mJ b.cells) h) (J (mw a d b) λc=>e c)) g
def partsOf(cx:Ctx)(e:Nat)(b:Env)(d:List (Nat×ai)):aa (List (Nat×T)):=
 iH (λg=>two g λc f=>J (iG cx e b f) λa=>iS a.jc (some (c,a))) d
def kN(cx:Ctx)(b:Nat)(a:Env)(f:aa ai):aa (aa Nat):=
 Option.casesOn f (some none) λd=>J (iG cx b a d) λe=>J (sL e) λc=>some (some c)
def iT(c:aa Nat)(a:Nat):Nat:=Option.casesOn c a λb=>b
def NY{b:Type}(d:List b)(a c:Nat):aa (List b):=J (kZ a d) λe=>takeN (Nat.sub c a) e
def rE(c:List T)(e:Bool)(d a:Nat)(g:aa Nat):aa T:=
 iS (Nat.ble d a) (J (NY c d a) λb=>Option.casesOn g
  (List.casesOn b (List.casesOn c (some (.V [] false)) λ_ _=>some .iX) λ_ _=>some (.V b (Bool.casesOn e false (Nat.beq a (mJ c)))))
  λf=>iS (Nat.beq f a) (List.casesOn b (some (.V [] false)) λ_ _=>some (.V b true)))
def yp(b c k g:Nat)(h:Bool)(e a:Nat)(j:aa Nat):aa T:=
 iS (Nat.ble e a) (iS (Nat.ble a g) (J (jd (Nat.add k e)) λf=>J (jd (Nat.sub a e)) λd=>Option.casesOn j
  (Bool.casesOn h (some (.arr b c f d false)) (iS (Nat.beq a g) (some (.arr b c f d true))))
  λi=>iS (Nat.beq i a) (some (.arr b c f d true))))
def rG(m:T)(b a c:aa Nat):aa T:=
 match m with
 | .str e=>Option.casesOn c (iS (Nat.ble (iT b 0) (iT a (mJ e))) (J (NY e (iT b 0) (iT a (mJ e))) λl=>some (.str l))) λ_=>none
 | .V f d=>rE f d (iT b 0) (iT a (mJ f)) c
 | .iX=>iS (Nat.beq (iT b 0) 0) (iS (Nat.beq (iT a 0) 0) (Option.casesOn c (some .iX) λj=>iS (Nat.beq j 0) (some (.V [] false))))
 | .arr h i k g d=>yp h i k g d (iT b 0) (iT a g) c
 |_=>none
inductive nh where
 |val (v:T) (h:H)
 |call (f:ak) (args:List T)
 deriving Inhabited
def val(a:H)(c:aa T):aa nh:=J c λb=>some (.val b a)
def kr(d:aa (T×H)):aa nh:=J d λb=>two b λc a=>some (.val c a)
abbrev Hd:=Ctx->Nat->Env->H->aa nh
def F8(d:ai):Hd:=λcx c a b=>val b (iG cx c a d)
def Im(a e f:ai):Hd:=λcx c b d=>
 J (iG cx c b a) λa=>match a with
  | .ez g=>Bool.casesOn g (val d (iG cx c b f)) (val d (iG cx c b e))
  |_=>none
def zH(cx:Ctx)(d:Ty):Bool:=
 match d.u with
 | .array _ a=>Option.casesOn (cx.ty a) false λc=>(match c.u with| .int b=>G6 b .u8|_=>false)
 |_=>false
def Gd(d:af):Hd:=λcx _ _ c=>J (cx.ty d) λa=>Bool.casesOn (zH cx a)
 (kr (c.new (λb=> .fc b 0 0 0) (mY a.size true [a.lH])))
 (kr (c.new (λb=> .fc b 0 0 0) (mY 1 true a.zero)))
def Rp(f:ai):Hd:=λcx e c d=>J (iG cx e c f) λa=>iS a.jc (kr (d.new (λb=> .fc b 0 0 0) (mY (mJ a.cells) true [a])))
def Da(m:af)(l:ah (Nat×ai)):Hd:=λcx k h e=>
 J (cx.ty m) λc=>J (partsOf cx k h l.toList) λf=>match c.u with
  | .struct j=>J (oH (λb=>J (oo j b) λd=>J (cx.ty d.2) λn=>some (d.1,n.size)) f c.zero) λa=>val e (some (.eZ a))
  | .array _ i=>J (cx.ty i) λg=>J (oH (λb=>some (Nat.mul b g.size,g.size)) f c.zero) λa=>val e (some (.eZ a))
  |_=>none
def qx(k:af)(b:Nat)(i:ah (Nat×ai)):Hd:=λcx h d g=>
 J (cx.ty k) λl=>match l.u with
  | .slice e=>J (cx.ty e) λa=>J (partsOf cx h d i.toList) λj=>
   iS (Nat.ble 1 a.size)<|iS (Nat.ble (Nat.mul b a.size) 65536) (J (r8 a.size j (rJ a.lH b)) λf=>
    kr (g.new (λc=> .arr c 0 0 b false) (mY a.size true f)))
  |_=>none
def Lx(e:af)(a:ai):Hd:=λcx d c b=>J (cx.ty e) λf=>J (iG cx d c a) λa=>val b (b.load f a)
def F5(g:af)(a i:ai):Hd:=λcx c b e=>
 J (cx.ty g) λh=>J (iG cx c b a) λa=>J (iG cx c b i) λd=>iS d.jc (J (e.store h a d) λf=>some (.val .undef f))
def uw(e:ai):Hd:=λcx d b c=>J (iG cx d b e) λa=>match a with
 | .fc .. | .ks _| .func .. =>some (.val a c)
 |_=>none
def BQ(c d:ai)(a b:T):Bool:=
 match a with
 | .mB=>(match b with| .mB=>Region.isConst c||Region.isConst d|_=>true)
 |_=>true
def hEq(i:Bool)(j:af)(f g:ai):Hd:=λcx d c h=>
 J (cx.ty j) λk=>J (iG cx d c f) λa=>J (iG cx d c g) λb=>
  iS (BQ f g a b) (J (Ml cx k a b) λe=>val h (Ak (Bool.casesOn i e (!e))))
def Rq(f:BinOp)(g h:ai):Hd:=λcx b a e=>
 J (iG cx b a g) λc=>J (iG cx b a h) λd=>val e (binop f c d)
def hUn(e:UnOp)(f:ai):Hd:=λcx d b c=>J (iG cx d b f) λa=>val c (unop e a)
def byteOf(d:T):aa Nat:=match d with
 | .int b c=>iS (G6 b .u8) (Int.casesOn c (λa=>iS (Nat.blt a 256) (some a)) (λ_=>none))
 |_=>none
def Kk(cx:Ctx)(d:H)(g:af)(i:T):aa T:=
 J (cx.ty g) λf=>match f.u with
  | .slice b=>J (cx.ty b) λh=>(match h.u with
   | .int e=>iS (G6 e .u8) (J (d.j1 i) λc=>J (iH byteOf c) λa=>iS (Nat.ble (mJ a) 4294967296) (some (.str a)))
   |_=>none)
  |_=>none
def Ph(d c:af)(h:ai):Hd:=λcx g f b=>J (cx.ty d) λ_=>J (iG cx g f h) λa=>
 J (cx.ty c) λe=>match e.u with
  | .slice _=>val b (GI cx c a)
  | .str=>(match a with
   | .str _=>val b (conv cx c a)
   |_=>val b (Kk cx b d a))
  |_=>val b (conv cx c a)
def C6(b:af)(g:ai):Hd:=λcx e c d=>J (cx.ty b) λf=>match f.u with
 | .iface=>none
 |_=>J (iG cx e c g) λa=>iS a.jc (val d (some (.iface b a)))
def F9(e:Fn)(first a:ah ai):Hd:=λcx g c f=>match e with
 | .func d=>(match first.toList with
  | []=>J (s7 cx g c a.toList) λb=>val f (some (.func d b))
  |_=>none)
 |_=>none
def rU(i:af)(a b:ai):Hd:=λcx e d h=>J (cx.ty i) λj=>match j.u with
 | .slice g=>J (cx.ty g) λc=>J (iG cx e d a) λa=>J (iG cx e d b) λb=>J (sL a) λa=>J (sL b) λb=>
  iS (Nat.ble 1 c.size)<|iS (Nat.ble 1 c.bytes)<|iS (Nat.ble a b) (iS (Nat.ble (Nat.mul b c.bytes) 70368744177664) (kr (h.new (λf=> .arr f 0 0 a false) (mY c.size (Nat.beq a b) (rJ c.lH a)))))
 |_=>none
def BS(a b:aa Nat):Bool:=Option.casesOn b true λ_=>Option.casesOn a false λ_=>true
def jW(cx:Ctx)(f:H)(p:U)(e:T):Bool:=
 match p with
 | .str=>(match e with| .str _=>true|_=>false)
 | .slice d=>Option.casesOn (cx.ty d) false λa=>(match e with
  | .V j _=>fits a.size j
  | .iX=>true
  | .arr b _ _ _ _=>Option.casesOn (f.get b) false λc=>Nat.beq c.sz a.size
  |_=>false)
 | .array n d=>Option.casesOn (cx.ty d) false λa=>(match e with
  | .fc b h k m=>Option.casesOn (f.get b) false λc=>jK.casesOn c λo i _ exact l g=>
   Nat.beq o a.size&&Nat.beq i h&&Nat.beq k 0&&Nat.beq m 0&&exact&& !l&&Nat.beq (mJ g) n
  |_=>false)
 |_=>false
def asSlice(e:U)(a:T):T:=match e with
 | .array d _=>(match a with| .fc b c _ _=> .arr b c 0 d false|_=>a)
 |_=>a
def F6(i:af)(e:ai)(f b d:aa ai):Hd:=λcx c a g=>J (cx.ty i) λh=>
 J (iG cx c a e) λe=>iS (jW cx g h.u e)<|J (kN cx c a f) λf=>J (kN cx c a b) λb=>J (kN cx c a d) λd=>iS (BS b d) (val g (rG (asSlice h.u e) f b d))
def rY(n:af)(a:ai)(i:Nat):Hd:=λcx m g c=>J (Ca cx n i) λb=>J (iG cx m g a) λa=>match a with
 | .fc d h j k=>J (jd (Nat.add k b.1)) λl=>some (.val (.fc d h j l) c)
 | .ks e=>J (kZ b.1 e) λf=>some (.val (.ks f) c)
 |_=>none
def C9(i:af)(a:ai)(e:Nat):Hd:=λcx g d f=>
 J (Ca cx i e) λb=>J (cx.ty b.2) λj=>J (iG cx g d a) λa=>match a with
  | .eZ c=>J (kZ b.1 c) λh=>val f (lK j h)
  |_=>none
def mo(a:H)(f:Ty)(l:T)(b:Nat):aa nh:=
 match l with
 | .V h _=>J (oo h b) λg=>iS (Nat.beq (mJ g.cells) f.size) (some (.val (.ks g.cells) a))
 | .arr c e k j _=>iS (Nat.blt b j) (J (a.get c) λd=>iS (Nat.beq d.sz f.size)<|iS (Nat.beq d.ep e) (J (jd (Nat.add k b)) λi=>some (.val (.fc c e i 0) a)))
 |_=>none
def qR(a:H)(m:Nat)(d:Ty)(n:T)(b:Nat):aa nh:=
 iS (Nat.blt b m) (match n with
  | .fc c e f g=>J (a.get c) λh=>Bool.casesOn (Nat.beq h.sz d.size)
   (J (jd (Nat.add g (Nat.mul b d.size))) λl=>some (.val (.fc c e f l) a))
   (iS (Nat.beq g 0) (J (jd (Nat.add f b)) λk=>some (.val (.fc c e k 0) a)))
  | .ks i=>J (kZ (Nat.mul b d.size) i) λj=>some (.val (.ks j) a)
  |_=>none)
def rV(j:af)(a c:ai):Hd:=λcx h e f=>
 J (cx.ty j) λk=>J (iG cx h e a) λa=>J (iG cx h e c) λc=>J (sL c) λg=>match k.u with
  | .slice b=>J (cx.ty b) λd=>mo f d a g
  | .array i b=>J (cx.ty b) λd=>qR f i d a g
  |_=>none
def C5(n:af)(a c:ai):Hd:=λcx f d e=>
 J (cx.ty n) λo=>J (iG cx f d a) λa=>J (iG cx f d c) λc=>J (sL c) λb=>match o.u with
  | .str=>(match a with| .str m=>J (oo m b) λh=>val e (some (.int .u8 (.ofNat h)))|_=>none)
  | .array k j=>(match a with
   | .eZ i=>J (cx.ty j) λg=>iS (Nat.blt b k) (J (kZ (Nat.mul b g.size) i) λl=>val e (lK g l))
   |_=>none)
  |_=>none
def wU(g:ai)(c:Nat):Hd:=λcx d a b=>J (iG cx d a g) λe=>match e with| .tuple f=>val b (oo f c)|_=>none
def F7(g:ai):Hd:=λcx d b c=>J (iG cx d b g) λf=>match f with
 | .str e=>kr (c.new (λa=> .iter a) ⟨1,0,0,true,true,[.str e,.int .i64 0]⟩)
 |_=>none
def B3(d:af)(f:ai):Hd:=λcx c a b=>J (cx.ty d) λe=>match e.u with
 | .str=>F7 f cx c a b
 |_=>none
def BR(c:List Nat)(b:Nat):aa (Nat×Nat):=J (oo c b) λa=>Bool.casesOn (Nat.blt a 128) (Bool.casesOn (Nat.blt a 256) (some (65533,1)) (some (Utf8.decode ⟨(c.map UInt8.ofNat).toArray⟩ b))) (some (a,1))
def C2(i:ai):Hd:=λcx j g c=>(J (iG cx j g i) λm=>match m with
 | .iter e=>J (c.get e) λa=>iS a.it (match a.gW with
  | [.str d,.int _ (.ofNat b)]=>Bool.casesOn (Nat.blt b (mJ d)) (some (.val (.tuple [.ez false]) c))
   (J (BR d b) λl=>two l λf wd=>J (jd (Nat.add b wd)) λk=>J (jd (Nat.succ a.ver)) λn=>
     J (c.put e ⟨a.sz,a.ep,n,a.exact,true,[.str d,.int .i64 (.ofNat k)]⟩) λh=>
      some (.val (.tuple [.ez true,.int .i64 (.ofNat b),.int .i32 (.ofNat f)]) h))
  |_=>none)
 |_=>none)
def Lv(d:ai)(c:Bool):Hd:=λcx e a b=>Bool.casesOn c none (C2 d cx e a b)
def RH(cx:Ctx)(a:H)(h:List af)(c:T):aa nh:=
 J (oo h 0) λg=>J (cx.ty g) λi=>match i.u with
  | .str=>(match c with
   | .str f=>val a (J (jd (mJ f)) λb=>some (.int .i64 (.ofNat b)))
   |_=>none)
  | .slice _=>(match c with
   | .V d _=>val a (J (jd (mJ d)) λb=>some (.int .i64 (.ofNat b)))
   | .iX=>val a (some (.int .i64 0))
   | .arr _ _ _ e _=>val a (some (.int .i64 (.ofNat e)))
   |_=>none)
  | .array b _=>val a (some (.int .i64 (.ofNat b)))
  |_=>none
def ql(cx:Ctx)(b:af):aa Ty:=
 J (cx.ty b) λc=>match c.u with| .slice a=>cx.ty a|_=>none
def nD(cx:Ctx)(d:H)(e:af)(a:T):aa (List T):=
 J (cx.ty e) λf=>match f.u with
  | .str=>(match a with| .str b=>iH (λc=>some (T.int .u8 (.ofNat c))) b|_=>none)
  | .slice _=>d.j1 a
  |_=>none
def jx(cx:Ctx)(b:H)(e f:af)(d g:T):aa nh:=
 J (ql cx e) λa=>J (nD cx b f g) λc=>iS (fits a.size c) (kr (b.append a.size a.bytes d c))
def GM(cx:Ctx)(a:H)(n:af)(q:T):aa nh:=
 J (ql cx n) λg=>match q with
  | .V b _=>List.casesOn b (some (.val .undef a)) λ_ _=>none
  | .iX=>some (.val .undef a)
  | .arr c j m e _=>Nat.casesOn e (some (.val .undef a)) λ_=>J (a.get c) λh=>jK.casesOn h λf d o exact l i=>
   iS (Nat.beq d j)<|iS (Nat.beq f g.size) (Bool.casesOn l
    (J (mG i m (rJ g.lH e)) λb=>J (jd (Nat.succ o)) λp=>
      J (a.put c ⟨f,d,p,exact,false,b⟩) λk=>some (.val .undef k)) none)
  |_=>none
def mU:Builtin->Ctx->H->List af->List T->aa nh
 | .clear=>λcx b f a=>(match a with| [c]=>(match f with| [h]=>GM cx b h c|_=>none)|_=>none)
 | .len=>λcx b f a=>(match a with| [c]=>RH cx b f c|_=>none)
 | .append=>λcx b f a=>(match a with| [j,c]=>(match f with| [h,k]=>jx cx b h k j c|_=>none)|_=>none)
 | .min=>λ_ b _ a=>(match a with| [c,i]=>val b (Aa c i λg d e=>AI g (Bool.casesOn (O9 e d) d e))|_=>none)
 | .max=>λ_ b _ a=>(match a with| [c,i]=>val b (Aa c i λg d e=>AI g (Bool.casesOn (O9 d e) d e))|_=>none)
 |_=>λ_ _ _ _=>none
def Gb(a:Call):Hd:=λcx e d h=>J (s7 cx e d a.args.toList) λc=>match a.callee with
 | .builtin f=>mU f cx h a.argTypes.toList c
 | .value b=>J (iG cx e d b) λj=>(match j with
  | .func b g=>J (HC c g) λi=>some (.call b i)
  |_=>none)
 |_=>none
def ke:Op->Hd
 | .move a=>F8 a
 | .assign a=>F8 a
 | .pick d c g=>Im d c g
 | .alloc b=>Gd b
 | .box _ a=>Rp a
 | .build b i=>Da b i
 | .buildSlice b q i=>qx b q i
 | .load b c=>Lx b c
 | .store b c a=>F5 b c a
 | .nilCheck a=>uw a
 | .binOp f b a j _=>(match f with| .eql=>hEq false b a j| .neq=>hEq true b a j|_=>Rq f a j)
 | .unOp f _ a=>hUn f a
 | .convert s k a=>Ph s k a
 | .makeInterface b a=>C6 b a
 | .makeFunc l c g=>F9 l c g
 | .makeSlice b n d=>rU b n d
 | .slice b a o m p=>F6 b a o m p
 | .fieldAddr b a h=>rY b a h
 | .field b a h=>C9 b a h
 | .indexAddr b a e=>rV b a e
 | .index b a e=>C5 b a e
 | .extract a e=>wU a e
 | .makeMap .. =>λ_ _ _ _=>none
 | .lookup .. =>λ_ _ _ _=>none
 | .mapUpdate .. =>λ_ _ _ _=>none
 | .range b a=>B3 b a
 | .next it r=>Lv it r
 | .entry _=>λ_ _ _ _=>none
 | .call d=>Gb d
 |_=>λ_ _ _ _=>none
def DZ(e:aj):TypeDesc->aa U
 | .int c=>some (.int c)
 | .bool=>some .ez
 | .string=>some .str
 | .slice a=>some (.slice a)
 | .array g a=>some (.array g a)
 | .struct d=>if d.toList.all (λb=>(e.info? b.type).any λf=> !(f.size==0))then some (.struct (d.toList.map λb=>(b.offset,b.type)))else none
 | .pointer a=>some (.fc a)
 | .map c a=>some (.map c a)
 | .func _ _ _=>some .func
 | .interface _=>some .iface
 |_=>some .other
def wv(a:TypeDesc)(b:aq):Bool:=
 match a,b with
 | .struct _,.agg _| .array _ _,.agg _=>true
 | .struct _,_| .array _ _,_|_,.agg _=>false
 |_,_=>true
def O7:TypeDesc->Bool
 | .struct b=>b.toList.all λa=>a.name != "_"
 |_=>true
def ZT(a:aj)(c:af)(e:Bool):aa Ty:=
 J (a.info? c) λb=>J (a.underlying c) λd=>J b.zero λf=>J (iH qg f.cells.toList) λg=>J (DZ a d) λh=>
  iS (wv d f) (iS (Nat.beq (mJ g) b.size) (iS (Bool.casesOn e true (!a.stoodInHeld c&& !a.eqGuardType a.depth c&&O7 d)) (some ⟨h,b.size,b.bytes,e,g⟩)))
abbrev jQ:=ak->List T->H->aa (T×H)
def lQ(i:ah Oper)(g:Nat)(d:Env)(e:aa (Nat×Bool)):aa Bool:=
 Option.casesOn e (some true) λj=>two j λf a=>J (J (J (oo i.toList f) λh=>h.dst) λc=>d.get g c) λk=>
  match k with
  | .ez b=>some (Bool.casesOn b (Bool.casesOn a true false) a)
  |_=>some false
def mV(cx:Ctx)(call:jQ)(c:Nat)(k:ah Oper)(a:Env)(e:H)(d:Oper):aa (Env×H):=
 J (lQ k c a d.guard) λm=>Bool.casesOn m
  (J (a.dst c d.dst .undef) λb=>some (b,e))
  (J (ke d.op cx c a e) λi=>nh.casesOn i
    (λg f=>J (a.dst c d.dst g) λb=>some (b,f))
    (λj h=>J (call j h e) λl=>two l λg f=>J (a.dst c d.dst g) λb=>some (b,f)))
def lZ(cx:Ctx)(call:jQ)(g:Nat)(i:ah Oper)(f:List Oper):Env->H->aa (Env×H):=
 @List.rec Oper (λ_=>Env->H->aa (Env×H)) (λa b=>some (a,b))
  (λh _ e a b=>J (mV cx call g i a b h) λj=>two j λc d=>e c d) f
def fq:T->aa Nat
 | .fc a _ _ _=>some a
 | .arr a _ _ _ _=>some a
 | .map a=>some a
 |_=>none
def jb(cx:Ctx)(d:Nat)(b:Env)(c:H)(e:Op):aa Nat:=
 match e with
 | .load _ a=>J (iG cx d b a) fq
 | .indexAddr _ a _=>J (iG cx d b a) fq
 | .slice _ a _ _ _=>J (iG cx d b a) fq
 | .convert _ _ a=>J (iG cx d b a) fq
 | .lookup _ a _ _=>J (iG cx d b a) fq
 | .makeMap _ _=>some c.size
 | .alloc _=>some c.size
 | .box _ _=>some c.size
 | .buildSlice _ _ _=>some c.size
 | .makeSlice _ _ _=>some c.size
 |_=>none
def jr:Op->Bool
 | .store .. =>true
 | .call b=>(match b.callee with
  | .builtin a=>(match a with| .len| .min| .max=>false|_=>true)
  |_=>true)
 | .next .. =>true
 | .range .. =>true
 | .entry .. =>true
 | .mapUpdate .. =>true
 |_=>false
structure Seen where
 oq:List (Nat×Nat)
 mL:List (Nat×H×H)
def zR(c:List Nat)(d:List Edge):Nat:=
 d.foldr (λa b=>Bool.casesOn (Region.binds .any a) b (Nat.lor b (Nat.lor (Nat.shiftLeft 1 a.on) (c.getD a.on 0)))) 0
def Oc:List Oper->List Nat->List Nat
 | [],a=>a
 |o::b,a=>Oc b (a++[zR a o.after.toList])
def kL(c:ah Oper)(a b:Nat):Bool:=((Oc c.toList []).getD b 0).testBit a
def gU(b c:H)(a:Nat):Bool:=
 Option.casesOn (b.get a) true λd=>Option.casesOn (c.get a) false λe=>Nat.beq d.ver e.ver
def qj(e:ah Oper)(c b:Nat)(d:List (Nat×H×H)):Bool:=
 Af (λa=>Bool.casesOn (gU a.2.1 a.2.2 b) (kL e a.1 c) true) d
def Au(f:ah Oper)(d:Nat)(b c:H)(e:List (Nat×Nat)):Bool:=
 Af (λa=>Bool.casesOn (gU b c a.2) (kL f a.1 d) true) e
def ug(cx:Ctx)(e:Nat)(g:ah Oper)(c:Nat)(b:Env)(d:List (Nat×H×H))(f:Op):Bool:=
 match f with
 | .store _ h _=>Option.casesOn (J (iG cx e b h) fq) true λa=>qj g c a d
 |_=>true
def lf(cx:Ctx)(call:jQ)(j:Nat)(g:ah Oper)(l:List Oper):Nat->Seen->Env->H->aa (Env×H):=
 @List.rec Oper (λ_=>Nat->Seen->Env->H->aa (Env×H)) (λ_ _ c d=>some (c,d))
  (λf _ i a b c d=>J (mV cx call j g c d f) λm=>two m λh e=>
    J (lQ g j c f.guard) λn=>Bool.casesOn n (i (Nat.succ a) b h e)
     (Bool.casesOn (jr f.op)
       (Option.casesOn (jb cx j c d f.op) (i (Nat.succ a) b h e)
         λk=>iS (qj g a k b.mL) (i (Nat.succ a) ⟨(a,k)::b.oq,b.mL⟩ h e))
       (iS (Au g a d e b.oq) (iS (ug cx j g a c b.mL f.op) (i (Nat.succ a) ⟨b.oq,(a,d,e)::b.mL⟩ h e))))) l
inductive Ex where
 |normal|exit (id:Nat)|ret
 deriving Inhabited
abbrev Out:=aa (Ex×Env×H)
def three{a:Type}(e:Ex×Env×H)(c:Ex->Env->H->a):a:=Prod.casesOn e λg f=>Prod.casesOn f λb d=>c g b d
def qt(c:Env->H->Out)(h:Nat):Env->H->Out:=
 @Nat.rec (λ_=>Env->H->Out) (λ_ _=>none)
  (λ_ g d e=>J (c d e) λi=>three i λj a b=>Ex.casesOn j (g a b) (λf=>some (.exit f,a,b)) (some (.ret,a,b))) h
def OK(cx:Ctx)(call:jQ)(g:Nat)(a:ah Oper)(i:Bool)(j:Env)(f:H):Out:=
 Env.casesOn j λh _=>Bool.casesOn i
  (J (lZ cx call g a a.toList ⟨h,.nil⟩ f) λd=>two d λb c=>some (.normal,Env.casesOn b λe _=>⟨e,.nil⟩,c))
  (J (lf cx call g a a.toList 0 ⟨[],[]⟩ ⟨h,.nil⟩ f) λd=>two d λb c=>some (.normal,Env.casesOn b λe _=>⟨e,.nil⟩,c))
def E1(c d:Env->H->Out)(e:Env)(f:H):Out:=
 J (c e f) λh=>three h λi a b=>Ex.casesOn i (d a b) (λg=>some (.exit g,a,b)) (some (.ret,a,b))
def LQ(cx:Ctx)(f:Nat)(e:ai)(c d:Env->H->Out)(a:Env)(b:H):Out:=
 J (iG cx f a e) λh=>match h with
  | .ez g=>Bool.casesOn g (d a b) (c a b)
  |_=>none
def A6(id:Nat)(d:Env->H->Out)(e:Env)(f:H):Out:=
 J (d e f) λg=>three g λh a b=>Ex.casesOn h (some (.normal,a,b)) (λc=>Bool.casesOn (Nat.beq c id) (some (.exit c,a,b)) (some (.normal,a,b))) (some (.ret,a,b))
def ll(cx:Ctx)(call:jQ)(c a:Nat):Code->Env->H->Out
 | .skip=>λd e=>some (.normal,d,e)
 | .region _ i h=>OK cx call a i h
 | .seq f b=>E1 (ll cx call c a f) (ll cx call c a b)
 | .cond g f b=>LQ cx a g (ll cx call c a f) (ll cx call c a b)
 | .block id b=>A6 id (ll cx call c a b)
 | .loop b=>qt (ll cx call c a b) c
 | .exit id=>λd e=>some (.exit id,d,e)
 | .ret=>λd e=>some (.ret,d,e)
 |_=>λ_ _=>none
def ot(g:Nat)(h:Nat):Nat->List T->aa iM:=
 @Nat.rec (λ_=>Nat->List T->aa iM) (λ_ _=>some .nil)
  (λ_ c a f=>J (jd (Nat.succ a)) λb=>List.casesOn f
    (Bool.casesOn (lI g a) (c b []) (J (c b []) λd=>some (.cons a .undef d)))
    λe i=>J (c b i) λd=>some (.cons a e d)) h
def oX(cx:Ctx)(c:Nat)(b:Env)(e:H)(f:List ResultVar):aa (List T):=
 iH (λh=>ResultVar.casesOn h (λa=>b.get c a) (λd a=>J (b.get c d) λg=>J (cx.ty a) λi=>e.load i g)) f
def yT(b:Nat)(e:List Nat):Nat->aa Int:=
 @List.rec Nat (λ_=>Nat->aa Int) (λ_=>some (.negSucc 0))
  (λf _ d a=>Bool.casesOn (Nat.beq f b) (J (jd (Nat.succ a)) λc=>d c) (some (.ofNat a))) e
def Fl(f:Prim)(b:List T)(a:H):aa (T×H):=
 match f with
 | .pY=>(match b with
  | [.str g,.int .u8 (.ofNat c)]=>iS (Nat.blt c 256) (J (yT c g 0) λe=>some (.int .i64 e,a))
  |_=>none)
 | .clone h bytes=>(match b with
  | [i]=>J (a.j1 i) λd=>List.casesOn d (some (.V [] false,a)) λ_ _=>a.jH h bytes [] d
  |_=>none)
def kI(a:List T):T:=match a with| [b]=>b|_=> .tuple a
def vV(cx:Ctx)(call:jQ)(l:Nat)(a:Func)(c:Nat)(g:Bool)(i:List T)(m:H):aa (T×H):=
 Option.casesOn a.body none λj=>H.casesOn m λd h k=>
  J (ot c a.ntmps 0 i) λo=>
  J (ll cx call l c j ⟨o,.nil⟩ ⟨d,d,k⟩) λn=>three n λp f b=>Ex.casesOn p
   (J (oX cx c f b a.results.toList) λe=>FV g d h (kI e) b)
   (λ_=>none)
   (J (oX cx c f b a.results.toList) λe=>FV g d h (kI e) b)
