/- Texts TiDefs to TiDefs. -/
import GoSem.Step
set_option linter.all false
namespace Go.TI
theorem dB{p:Prop}(h:p:=by omega):p:=h
theorem dC{p:Prop}(h:p:=by simp):p:=h
theorem dD{p:Prop}(h:p:=by (simp;omega)):p:=h
theorem dE{p:Prop}(h:p:=by (simp only;omega)):p:=h
theorem dF{p:Prop}(h:p:=by decide):p:=h
end Go.TI
namespace Go.TI
abbrev aa:=@Option
abbrev ab:=@TypeId
abbrev af:=@Array
abbrev ah:=@Operand
abbrev ai:=@Program
abbrev aj:=@FuncId
abbrev ak:=@IntKind
abbrev am:=@Value
theorem ao:type_of% @if_neg:=@if_neg
theorem aq:type_of% @if_pos:=@if_pos
theorem ar:type_of% @Option.some.injEq:=@Option.some.injEq
theorem au:type_of% @Nat.le_refl:=@Nat.le_refl
theorem aw:type_of% @Nat.zero_le:=@Nat.zero_le
theorem ax:type_of% @List.mem_of_getElem?:=@List.mem_of_getElem?
theorem ay:type_of% @Bool.and_eq_true:=@Bool.and_eq_true
theorem az:type_of% @Prod.mk.injEq:=@Prod.mk.injEq
theorem aB:type_of% @List.getElem?_eq_getElem:=@List.getElem?_eq_getElem
theorem aC:type_of% @List.getElem_mem:=@List.getElem_mem
theorem aD:type_of% @Nat.eq_of_beq_eq_true:=@Nat.eq_of_beq_eq_true
theorem aF:type_of% @Nat.lt_or_ge:=@Nat.lt_or_ge
theorem aG:type_of% @List.length_map:=@List.length_map
theorem aH:type_of% @Nat.blt_eq:=@Nat.blt_eq
theorem aI:type_of% @List.drop_eq_getElem_cons:=@List.drop_eq_getElem_cons
theorem aJ:type_of% @decide_eq_true_eq:=@decide_eq_true_eq
theorem aK:type_of% @List.cons.injEq:=@List.cons.injEq
theorem aL:type_of% @List.take_length:=@List.take_length
theorem aM:type_of% @List.getElem?_eq_none:=@List.getElem?_eq_none
theorem aO:type_of% @List.mem_flatMap:=@List.mem_flatMap
theorem aP:type_of% @Prod.ext:=@Prod.ext
theorem aQ:type_of% @List.getElem?_map:=@List.getElem?_map
theorem aR:type_of% @decide_eq_false:=@decide_eq_false
theorem aS:type_of% @Nat.le_trans:=@Nat.le_trans
theorem aT:type_of% @List.map_cons:=@List.map_cons
theorem aU:type_of% @List.length_append:=@List.length_append
theorem aV:type_of% @List.append_assoc:=@List.append_assoc
theorem aW:type_of% @List.take_succ_eq_append_getElem:=@List.take_succ_eq_append_getElem
theorem aY:type_of% @Nat.mul_le_mul_right:=@Nat.mul_le_mul_right
theorem aZ:type_of% @Array.getD_eq_getD_getElem?:=@Array.getD_eq_getD_getElem?
theorem bg:type_of% @if_true:=@if_true
theorem bh:type_of% @List.length_cons:=@List.length_cons
theorem bj:type_of% @List.eq_nil_of_length_eq_zero:=@List.eq_nil_of_length_eq_zero
theorem bm:type_of% @Ne.symm:=@Ne.symm
theorem bo:type_of% @if_false:=@if_false
theorem br:type_of% @Bool.eq_iff_iff:=@Bool.eq_iff_iff
theorem bw:type_of% @Nat.le_of_ble_eq_true:=@Nat.le_of_ble_eq_true
theorem bA:type_of% @List.flatMap_cons:=@List.flatMap_cons
theorem bD:type_of% @Nat.le_of_lt:=@Nat.le_of_lt
theorem bE:type_of% @List.mem_of_mem_take:=@List.mem_of_mem_take
theorem bF:type_of% @List.mem_of_mem_drop:=@List.mem_of_mem_drop
theorem bG:type_of% @Nat.lt_of_lt_of_le:=@Nat.lt_of_lt_of_le
theorem bI:type_of% @decide_eq_true:=@decide_eq_true
theorem bJ:type_of% @List.take_of_length_le:=@List.take_of_length_le
theorem bK:type_of% @List.getElem?_drop:=@List.getElem?_drop
theorem bL:type_of% @List.append_nil:=@List.append_nil
theorem bM:type_of% @List.getElem?_take:=@List.getElem?_take
theorem bO:type_of% @Bool.true_and:=@Bool.true_and
theorem bP:type_of% @congrArg:=@congrArg
theorem bQ:type_of% @List.mem_range:=@List.mem_range
theorem bR:type_of% @List.eq_of_mem_replicate:=@List.eq_of_mem_replicate
theorem bU:type_of% @decide_eq_false_iff_not:=@decide_eq_false_iff_not
theorem bV:type_of% @List.getElem?_set:=@List.getElem?_set
theorem bW:type_of% @List.map_set:=@List.map_set
theorem bX:type_of% @Nat.succ_mul:=@Nat.succ_mul
theorem bY:type_of% @List.getElem?_append_left:=@List.getElem?_append_left
theorem bZ:type_of% @List.mem_or_eq_of_mem_set:=@List.mem_or_eq_of_mem_set
theorem cd:type_of% @Nat.ble_eq_true_of_le:=@Nat.ble_eq_true_of_le
theorem cg:type_of% @Nat.add_mul:=@Nat.add_mul
theorem ci:type_of% @Bool.not_eq_true':=@Bool.not_eq_true'
theorem cj:type_of% @Array.length_toList:=@Array.length_toList
theorem cm:type_of% @Bool.or_eq_true:=@Bool.or_eq_true
theorem co:type_of% @List.cons_append:=@List.cons_append
theorem cq:type_of% @Bool.false_eq_true:=@Bool.false_eq_true
theorem cr:type_of% @Bool.or_eq_false_iff:=@Bool.or_eq_false_iff
theorem cu:type_of% @List.mem_map:=@List.mem_map
theorem cv:type_of% @List.all_eq_true:=@List.all_eq_true
theorem cw:type_of% @List.mem_cons:=@List.mem_cons
theorem cz:type_of% @List.nil_append:=@List.nil_append
theorem cA:type_of% @List.flatMap_nil:=@List.flatMap_nil
theorem cB:type_of% @List.map_nil:=@List.map_nil
theorem cC:type_of% @Array.ext':=@Array.ext'
theorem cD:type_of% @List.getElem?_append_right:=@List.getElem?_append_right
theorem cE:type_of% @Nat.min_eq_left:=@Nat.min_eq_left
theorem cF:type_of% @List.mem_append:=@List.mem_append
theorem cG:type_of% @List.mem_cons_of_mem:=@List.mem_cons_of_mem
theorem cH:type_of% @Nat.add_assoc:=@Nat.add_assoc
theorem cI:type_of% @List.getElem?_set_ne:=@List.getElem?_set_ne
theorem cJ:type_of% @List.all_cons:=@List.all_cons
theorem cK:type_of% @Bool.not_eq_false':=@Bool.not_eq_false'
theorem cM:type_of% @List.map_map:=@List.map_map
theorem cN:type_of% @Bool.not_true:=@Bool.not_true
theorem cO:type_of% @Option.map_some:=@Option.map_some
theorem cP:type_of% @Nat.ne_of_beq_eq_false:=@Nat.ne_of_beq_eq_false
theorem cQ:type_of% @List.set_cons_zero:=@List.set_cons_zero
theorem cR:type_of% @List.take_append_drop:=@List.take_append_drop
theorem cS:type_of% @List.length_set:=@List.length_set
theorem cT:type_of% @List.getElem?_of_mem:=@List.getElem?_of_mem
theorem cU:type_of% @List.pairwise_flatMap:=@List.pairwise_flatMap
theorem cV:type_of% @Array.getElem?_eq_none:=@Array.getElem?_eq_none
theorem cW:type_of% @Nat.lt_trichotomy:=@Nat.lt_trichotomy
theorem cY:type_of% @List.drop_drop:=@List.drop_drop
theorem cZ:type_of% @List.length_nil:=@List.length_nil
theorem c8:type_of% @List.ext_getElem?:=@List.ext_getElem?
theorem da:type_of% @Int.toNat_natCast:=@Int.toNat_natCast
theorem db:type_of% @List.take_append_of_le_length:=@List.take_append_of_le_length
theorem dc:type_of% @List.mem_append_left:=@List.mem_append_left
theorem df:type_of% @List.set_cons_succ:=@List.set_cons_succ
theorem dg:type_of% @Nat.lt_succ_self:=@Nat.lt_succ_self
theorem dh:type_of% @List.not_mem_nil:=@List.not_mem_nil
theorem dj:type_of% @List.replicate_succ:=@List.replicate_succ
theorem dp:type_of% @List.toList_toArray:=@List.toList_toArray
theorem dq:type_of% @List.getElem?_cons_succ:=@List.getElem?_cons_succ
theorem dt:type_of% @List.mem_cons_self:=@List.mem_cons_self
theorem du:type_of% @Bool.eq_false_iff:=@Bool.eq_false_iff
theorem dw:type_of% @List.pairwise_cons:=@List.pairwise_cons
theorem dx:type_of% @List.drop_length:=@List.drop_length
theorem dy:type_of% @List.getElem?_set_self:=@List.getElem?_set_self
theorem dz:type_of% @List.length_range:=@List.length_range
theorem dA:type_of% @List.mem_append_right:=@List.mem_append_right
end Go.TI
namespace Go.TI
noncomputable section
inductive T where
 |undef
 |bool (b:Bool)
 |int (k:ak) (n:Int)
 |str (s:List Nat)
 |kw
 |ptr (b ep i j:Nat)
 |jB (cells:List T)
 |dN (eZ:List T) (full:Bool)
 |gu
 |arr (b ep o l:Nat) (full:Bool)
 |func (f:aj) (captured:List T)
 |kK
 |kM
 |iface (t:ab) (v:T)
 |iter (b:Nat)
 |map (b:Nat)
 |nR
 |agg (cells:List T)
 |tuple (vs:List T)
 deriving Inhabited
def T.cells:T->List T
 | .agg a=>a
 |v=>[v]
def T.im:T->Bool
 | .undef| .tuple _=>false
 |_=>true
structure iY where
 sz:Nat
 ep:Nat
 ver:Nat
 exact:Bool
 it:Bool
 eZ:List T
 deriving Inhabited
structure H where
 size:Nat
 low:Nat
 fy:List iY
 deriving Inhabited
inductive U where
 |int (k:ak)|bool|str|slice (e:ab)|array (n:Nat) (e:ab)|map (k e:ab)|struct (fs:List (Nat×ab))|ptr (e:ab)|func|iface|other
 deriving Inhabited
structure Ty where
 u:U
 size:Nat
 bytes:Nat
 cmp:Bool
 zero:List T
 deriving Inhabited
inductive Prim where
 |nU
 |clone (sz bytes:Nat)
 deriving Inhabited
structure Fun where
 fn:Func
 mask:Nat
 kS:Bool
 afr:aa Prim
 deriving Inhabited
structure Ctx where
 ty:ab->aa Ty
 fn:aj->aa Fun
 gl:Nat->aa (List T)
def dV{a b:Type}(d:aa a)(c:a->aa b):aa b:=Option.casesOn d none c
def gh{a:Type}(b:Bool)(c:aa a):aa a:=Bool.casesOn b none c
def two{a b c:Type}(e:a×b)(d:a->b->c):c:=Prod.casesOn e d
def md{a:Type}(c:List a):Nat->aa a:=
 @List.rec a (λ_=>Nat->aa a) (λ_=>none) (λf _ b e=> @Nat.rec (λ_=>aa a) (some f) (λd _=>b d) e) c
def kJ{a:Type}(d:List a):Nat->a->aa (List a):=
 @List.rec a (λ_=>Nat->a->aa (List a)) (λ_ _=>none)
  (λi g c f b=> @Nat.rec (λ_=>aa (List a)) (some (b::g)) (λe _=>dV (c e b) λh=>some (i::h)) f) d
def takeN{a:Type}(d:Nat):List a->aa (List a):=
 @Nat.rec (λ_=>List a->aa (List a)) (λ_=>some [])
  (λ_ b c=> @List.rec a (λ_=>aa (List a)) none (λg e _=>dV (b e) λf=>some (g::f)) c) d
def jX{a:Type}(d:Nat):List a->aa (List a):=
 @Nat.rec (λ_=>List a->aa (List a)) (λb=>some b)
  (λ_ c b=> @List.rec a (λ_=>aa (List a)) none (λ_ e _=>c e) b) d
def kR{a:Type}(c:List a):Nat:= @List.rec a (λ_=>Nat) 0 (λ_ _ b=>Nat.succ b) c
def Eb{a:Type}(e f:List a):aa (List a):=
 @List.rec a (λ_=>aa (List a)) (some f) (λd _ b=>dV b λc=>some (d::c)) e
def fP{a b:Type}(c:a->aa b)(e:List a):aa (List b):=
 @List.rec a (λ_=>aa (List b)) (some []) (λg _ d=>dV (c g) λh=>dV d λf=>some (h::f)) e
def pj{a:Type}(d:a)(c:Nat):List a:= @Nat.rec (λ_=>List a) [] (λ_ b=>d::b) c
def wW{a:Type}(b:a->Bool)(d:List a):Bool:= @List.rec a (λ_=>Bool) true (λe _ c=>Bool.rec false c (b e)) d
def hU(b:Nat):aa Nat:=Nat.casesOn b (some 0) (λa=>some (Nat.succ a))
def KY(c:Int):aa Int:=
 Int.casesOn c (λa=>Nat.casesOn a (some (.ofNat 0)) (λb=>some (.ofNat (Nat.succ b)))) (λa=>Nat.casesOn a (some (.negSucc 0)) (λb=>some (.negSucc (Nat.succ b))))
def xE(a:ak)(c:Int):aa T:=dV (KY c) λb=>some (.int a b)
def w9(a:Bool):aa T:=Bool.casesOn a (some (.bool false)) (some (.bool true))
def kNo:ak->Nat
 | .i8=>0| .i16=>1| .i32=>2| .i64=>3| .u8=>4| .u16=>5| .u32=>6| .u64=>7
def Dk(a b:ak):Bool:=Nat.beq (kNo a) (kNo b)
def K2(d c:Int):Bool:=Int.casesOn d (λa=>Int.casesOn c (λb=>Nat.blt a b) (λ_=>false)) (λa=>Int.casesOn c (λ_=>true) (λb=>Nat.blt b a))
def Rk(d c:Int):Bool:=Int.casesOn d (λa=>Int.casesOn c (λb=>Nat.beq a b) (λ_=>false)) (λa=>Int.casesOn c (λ_=>false) (λb=>Nat.beq a b))
def Ku(k:ak)(a:Int):Int:=
 match k with
 | .i64=>Int.casesOn a (λb=>Bool.casesOn (Nat.ble b 9223372036854775807) (IntKind.i64.wrap a) a) (λb=>Bool.casesOn (Nat.ble b 9223372036854775807) (IntKind.i64.wrap a) a)
 |k=>k.wrap a
def pU(a:ak)(b:Int):aa T:=xE a (Ku a b)
def UE(b:List Nat):List Nat->Bool:=
 @List.rec Nat (λ_=>List Nat->Bool) (λa=>List.casesOn a true (λ_ _=>false))
  (λe _ c a=>List.casesOn a false (λf d=>Bool.rec false (c d) (Nat.beq e f))) b
def Rj(d:List Nat):List Nat->Bool:=
 @List.rec Nat (λ_=>List Nat->Bool) (λa=>List.casesOn a false (λ_ _=>true))
  (λb _ e a=>List.casesOn a false (λc f=>Bool.rec (Bool.rec false (e f) (Nat.beq b c)) true (Nat.blt b c))) d
def H.get(d:H)(a:Nat):aa iY:=
 H.casesOn d λb _ c=>gh (Nat.blt a b) (md c (Nat.sub (Nat.sub b 1) a))
def H.new(g:Nat->T)(h:H)(i:iY):aa (T×H):=
 H.casesOn h λa d c=>dV (hU (Nat.succ a)) λe=>some (g a,⟨e,d,i::c⟩)
def H.put(g:H)(a:Nat)(x:iY):aa H:=
 H.casesOn g λb e f=>gh (Nat.blt a b)
  (dV (kJ f (Nat.sub (Nat.sub b 1) a) x) λd=>Bool.casesOn (Nat.blt a e) (some ⟨b,e,d⟩) (some ⟨b,a,d⟩))
def over(a:List T)(f:List T):aa (List T):=
 @List.rec T (λ_=>List T->aa (List T)) (λa=>some a)
  (λe _ b a=>List.casesOn a none (λ_ c=>dV (b c) λd=>some (e::d))) f a
def kQ(a:List T)(d:Nat)(g:List T):aa (List T):=
 @Nat.rec (λ_=>List T->aa (List T)) (λa=>over a g)
  (λ_ c a=>List.casesOn a none (λb e=>dV (c e) λf=>some (b::f))) d a
def Ty.isAgg(a:Ty):Bool:=match a.u with| .struct _| .array _ _=>true|_=>false
def UC(a:List T):T:=List.casesOn a .undef (λb _=>b)
def Ty.kl(a:Ty):T:=Bool.casesOn a.isAgg (UC a.zero) (.agg a.zero)
def ko(b:Ty)(a:List T):aa T:=
 Bool.casesOn b.isAgg (md a 0) (dV (takeN b.size a) λc=>some (.agg c))
def H.elem(e:H)(a c i:Nat):aa T:=
 dV (e.get a) λx=>iY.casesOn x λ_ d _ _ f b=>gh (Nat.beq d c) (Bool.casesOn f (md b i) none)
def H.load(g:H)(b:Ty)(c:T):aa T:=
 match c with
 | .ptr d f h i=>dV (g.elem d f h) λe=>dV (jX i e.cells) λa=>ko b a
 | .jB a=>ko b a
 |_=>none
def ml(d:T)(a:Nat)(b:List T):aa T:=
 match d with
 | .agg c=>dV (kQ c a b) λe=>some (.agg e)
 |_=>match a,b with
  |0,[f]=>some f
  |_,_=>none
def H.store(d:H)(o:Ty)(g f:T):aa H:=
 match g with
 | .ptr a j e m=>gh (Nat.beq (kR f.cells) o.size) (dV (d.get a) λr=>iY.casesOn r λn c p exact l b=>
  gh (Nat.beq c j) (Bool.casesOn l (dV (md b e) λh=>dV (ml h m f.cells) λi=>dV (kJ b e i) λk=>
   dV (hU (Nat.succ p)) λq=>d.put a ⟨n,c,q,exact,false,k⟩) none))
 |_=>none
def H.ji(f:H)(k:T):aa (List T):=
 match k with
 | .dN e _=>some e
 | .gu=>some []
 | .arr a c i h _=>dV (f.get a) λl=>iY.casesOn l λ_ d _ _ g b=>gh (Nat.beq d c) (Bool.casesOn g (dV (jX i b) λj=>takeN h j) none)
 |_=>none
def fits(c:Nat)(b:List T):Bool:=List.casesOn b true (λa _=>Nat.beq (kR a.cells) c)
def ly(b:Nat)(exact:Bool)(a:List T):iY:=⟨b,0,0,exact,false,a⟩
def H.jb(g:H)(a bytes:Nat)(d e:List T):aa (T×H):=
 dV (Eb d e) λb=>dV (hU (kR b)) λc=>
 gh (Nat.ble 1 bytes)<|gh (Nat.ble (Nat.mul c bytes) 70368744177664) (gh (fits a d) (gh (fits a e) (g.new (λf=> .arr f 0 0 c false) (ly a false b))))
def H.mt(e:H)(g bytes a k o:Nat)(i:List T):aa (T×H):=
 dV (e.get a) λr=>iY.casesOn r λh b p _ n j=>
  dV (takeN o j) λl=>dV (Eb l i) λd=>dV (hU (kR d)) λf=>
  gh (Nat.ble 1 bytes)<|gh (Nat.beq b k) (gh (Nat.beq h g) (gh (Nat.ble (Nat.mul f bytes) 70368744177664) (gh (fits g i) (Bool.casesOn n
   (dV (hU (Nat.succ b)) λc=>dV (hU (Nat.succ p)) λq=>
     dV (e.put a ⟨h,c,q,false,false,d⟩) λm=>some (.arr a c 0 f false,m)) none))))
def oN:T->Bool
 | .dN _ _| .gu| .arr .. =>true
 |_=>false
def H.append(a:H)(e bytes:Nat)(d:T)(b:List T):aa (T×H):=
 List.casesOn b (gh (oN d) (some (d,a))) λ_ _=>match d with
  | .dN c f=>List.casesOn c (a.jb e bytes [] b) λ_ _=>gh f (a.jb e bytes c b)
  | .arr g h j i f=>Bool.casesOn f
   (Nat.casesOn j (a.mt e bytes g h i b) λ_=>none)
   (dV (a.ji d) λc=>a.jb e bytes c b)
  |_=>none
def freeze(m:H)(p:Nat)(h:Nat):T->aa T:=
 @Nat.rec (λ_=>T->aa T) (λ_=>none) (λ_ e f=>match f with
  | .arr b i q o l=>gh (Nat.ble p b) (dV (m.get b) λr=>iY.casesOn r λ_ j _ exact n c=>
   gh (Nat.beq j i) (Bool.casesOn n (dV (dV (jX q c) λa=>takeN o a) λk=>dV (fP e k) λd=>
    List.casesOn d (List.casesOn c (Bool.casesOn exact (some .gu) (some (.dN [] false))) λ_ _=>some .gu) λ_ _=>some (.dN d l)) none))
  | .agg g=>dV (fP e g) λa=>some (.agg a)
  | .bool _| .int _ _| .str _| .kw| .dN _ _| .gu| .kK| .kM=>some f
  |_=>none) h
def iJ(d:H)(c:Nat)(a:T):aa T:=
 match a with
 | .arr b _ _ _ _=>Bool.casesOn (Nat.ble c b) (some a) (freeze d c 12 a)
 | .ptr b _ _ _=>Bool.casesOn (Nat.ble c b) (some a) none
 | .map b=>Bool.casesOn (Nat.ble c b) (some a) none
 | .undef=>some a
 |_=>freeze d c 12 a
def kr(a:H)(b:Nat)(c:T):aa T:=
 match c with
 | .agg d=>dV (fP (iJ a b) d) λe=>some (.agg e)
 |_=>iJ a b c
def jl(a:H)(b:Nat)(c:T):aa T:=
 match c with
 | .tuple e=>dV (fP (kr a b) e) λd=>some (.tuple d)
 |_=>kr a b c
def ks(b:Nat):T->Bool
 | .arr a _ _ _ _=>Nat.blt a b
 | .ptr a _ _ _=>Nat.blt a b
 | .map a=>Nat.blt a b
 | .bool _| .int _ _| .str _| .kw| .dN _ _| .gu| .kK| .kM| .nR| .jB _=>true
 |_=>false
def below(b:Nat):T->Bool
 | .agg a=>wW (ks b) a
 | .func _ a=>wW (ks b) a
 | .tuple a=>wW (ks b) a
 |v=>ks b v
def r9(d:Nat)(b:Nat):List iY->Bool:=
 @Nat.rec (λ_=>List iY->Bool) (λ_=>true) (λ_ a c=>List.casesOn c true λf e=>Bool.casesOn (wW (below d) f.eZ) false (a e)) b
def ni(c:Nat)(d:T)(f:H):aa (T×H):=
 H.casesOn f λe b a=>Bool.casesOn (Nat.blt b c) (some (d,⟨e,c,a⟩)) (some (d,⟨e,b,a⟩))
def uh(a c:Nat)(i e:T)(h:H):aa (T×H):=
 H.casesOn h λg b f=>dV (jX (Nat.sub g a) f) λd=>
  Bool.casesOn (Nat.ble a b)
   (Bool.casesOn (r9 a (Nat.sub a b) d) (ni c i ⟨g,b,f⟩)
     (Bool.casesOn (Nat.blt b c) (some (e,⟨a,c,d⟩)) (some (e,⟨a,b,d⟩))))
   (some (e,⟨a,c,d⟩))
def Co(e:Bool)(d c:Nat)(b:T)(a:H):aa (T×H):=
 Bool.casesOn e (Option.casesOn (jl a d b) (ni c b a) λf=>uh d c b f a) (ni c b a)
inductive fX where
 |nil
 |cons (s:Nat) (v:T) (r:fX)
 deriving Inhabited
structure Env where
 vars:fX
 tmps:fX
 deriving Inhabited
def dO(c:fX)(d:Nat):aa T:=
 @fX.rec (λ_=>aa T) none (λb e _ a=>Bool.rec a (some e) (Nat.beq b d)) c
def lK(e:fX)(b:Nat)(c:T):aa fX:=
 @fX.rec (λ_=>aa fX) (some (.cons b c .nil)) (λa h f d=>Bool.rec (dV d λg=>some (.cons a h g)) (some (.cons a c f)) (Nat.beq a b)) e
def km(a b:Nat):Bool:=Nat.beq (Nat.land (Nat.shiftRight a b) 1) 1
def Env.get(c:Nat)(b:Env)(a:Nat):aa T:=
 Env.casesOn b λe d=>Bool.casesOn (km c a) (dO d a) (dO e a)
def Env.set(g:Nat)(e:Env)(a:Nat)(c:T):aa Env:=
 Env.casesOn e λd b=>Bool.casesOn (km g a) (some ⟨d,.cons a c b⟩) (dV (lK d a c) λf=>some ⟨f,b⟩)
def Env.dst(c:Nat)(a:Env)(b:aa Tmp)(e:T):aa Env:=
 Option.casesOn b (some a) λd=>a.set c d e
def Aq(b:List UInt8):aa (List Nat):=fP (λa=>hU a.toNat) b
def oa:am->aa T
 | .bool a=>some (.bool a)
 | .int b d=>some (.int b d)
 | .string e=>dV (Aq e.data.toList) λc=>some (.str c)
 | .pointer none=>some .kw
 | .map none=>some .nR
 | .slice none 0 0=>some (.dN [] false)
 | .nilFunc=>some .kK
 | .nilIface=>some .kM
 |_=>none
def yB:am->aa T
 | .agg a=>dV (fP oa a.toList) λb=>some (.agg b)
 |v=>oa v
def fR(cx:Ctx)(e:Nat)(b:Env)(f:ah):aa T:=
 Operand.casesOn f (λg=>b.get e g) (λh=>yB h) (λd=>dV (cx.gl d) λa=>some (.jB a)) (λc=>some (.func c []))
def pZ(cx:Ctx)(c:Nat)(a:Env)(b:List ah):aa (List T):=fP (fR cx c a) b
def pR:T->aa Nat
 | .int _ b=>Int.casesOn b (λa=>some a) (λ_=>none)
 |_=>none
def rZ(g:U)(c a:T):aa Bool:=
 match g with
 | .int _=>(match c with| .int e d=>(match a with| .int f b=>gh (Dk e f) (some (Rk d b))|_=>none)|_=>none)
 | .bool=>(match c with| .bool d=>(match a with| .bool b=>some (Bool.casesOn d (Bool.casesOn b true false) b)|_=>none)|_=>none)
 | .str=>(match c with| .str d=>(match a with| .str b=>some (UE d b)|_=>none)|_=>none)
 | .ptr _=>(match c with
  | .kw=>(match a with| .kw=>some true| .ptr .. | .jB _=>some false|_=>none)
  | .ptr .. | .jB _=>(match a with| .kw=>some false|_=>none)
  |_=>none)
 | .func=>(match c with
  | .kK=>(match a with| .kK=>some true| .func .. =>some false|_=>none)
  | .func .. =>(match a with| .kK=>some false|_=>none)
  |_=>none)
 | .iface=>(match c with
  | .kM=>(match a with| .kM=>some true| .iface .. =>some false|_=>none)
  | .iface .. =>(match a with| .kM=>some false|_=>none)
  |_=>none)
 |_=>none
def U.plain:U->Bool
 | .int _| .bool| .str=>true
 |_=>false
def eqFields(cx:Ctx)(f:List (Nat×ab)):Nat->List T->List T->aa Bool:=
 @List.rec (Nat×ab) (λ_=>Nat->List T->List T->aa Bool) (λ_ _ _=>some true)
  (λa _ g b d e=>List.casesOn d none λk h=>List.casesOn e none λl i=>gh (Nat.beq a.1 b) (dV (cx.ty a.2) λc=>gh c.u.plain
    (dV (rZ c.u k l) λj=>Bool.casesOn j (some false) (g (Nat.succ b) h i)))) f
def yQ(f:U)(b:List T):List T->aa Bool:=
 @List.rec T (λ_=>List T->aa Bool) (λa=>List.casesOn a (some true) λ_ _=>none)
  (λg _ c a=>List.casesOn a none λh d=>dV (rZ f g h) λe=>Bool.casesOn e (some false) (c d)) b
def Np(cx:Ctx)(d:Ty)(e f:T):aa Bool:=
 match d.u with
 | .struct h=>(match e with
  | .agg a=>(match f with
   | .agg b=>gh d.cmp (eqFields cx h 0 a b)
   |_=>none)
  |_=>none)
 | .array i g=>(match e with
  | .agg a=>(match f with
   | .agg b=>gh d.cmp (dV (cx.ty g) λc=>gh c.u.plain (gh (Nat.beq c.size 1) (gh (Nat.beq (kR a) i) (yQ c.u a b))))
   |_=>none)
  |_=>none)
 |u=>rZ u e f
def wS(f g:T)(d:ak->Int->Int->aa T):aa T:=
 match f with
 | .int a b=>(match g with| .int e c=>gh (Dk a e) (d a b c)|_=>none)
 |_=>none
def zo(f g:T)(d:ak->Int->Nat->aa T):aa T:=
 match f with
 | .int a b=>(match g with| .int _ c=>Int.casesOn c (λe=>d a b (min e a.bits)) (λ_=>none)|_=>none)
 |_=>none
def Kb(h c:T)(d:Int->Int->Bool)(e:List Nat->List Nat->Bool):aa T:=
 match h with
 | .int f a=>(match c with| .int g b=>gh (Dk f g) (w9 (d a b))|_=>none)
 | .str a=>(match c with| .str b=>w9 (e a b)|_=>none)
 |_=>none
def Tm(d e:T):aa T:=
 match d with
 | .str a=>(match e with
  | .str b=>dV (Eb a b) λc=>gh (Nat.ble (kR c) 4294967296) (some (.str c))
  |_=>none)
 |_=>wS d e λf a b=>pU f (a+b)
def binop:BinOp->T->T->aa T
 | .add=>Tm
 | .sub=>λd e=>wS d e λc a b=>pU c (a-b)
 | .mul=>λd e=>wS d e λc a b=>pU c (a*b)
 | .quo=>λd e=>wS d e λc a b=>Bool.casesOn (Rk b 0) (pU c (a.tdiv b)) none
 | .rem=>λd e=>wS d e λc a b=>Bool.casesOn (Rk b 0) (xE c (a.tmod b)) none
 | .and=>λd e=>wS d e λc a b=>xE c (c.wrap (BitVec.ofInt c.bits a&&&BitVec.ofInt c.bits b).toNat)
 | .or=>λd e=>wS d e λc a b=>xE c (c.wrap (BitVec.ofInt c.bits a|||BitVec.ofInt c.bits b).toNat)
 | .xor=>λd e=>wS d e λc a b=>xE c (c.wrap (BitVec.ofInt c.bits a^^^BitVec.ofInt c.bits b).toNat)
 | .shl=>λd e=>zo d e λc a f=>xE c (c.wrap (a*2^f))
 | .shr=>λd e=>zo d e λc a f=>xE c (a.fdiv (2^f))
 | .lss=>λd e=>Kb d e K2 Rj
 | .leq=>λd e=>Kb d e (λa b=> !K2 b a) (λa b=> !Rj b a)
 | .gtr=>λd e=>Kb d e (λa b=>K2 b a) (λa b=>Rj b a)
 | .geq=>λd e=>Kb d e (λa b=> !K2 a b) (λa b=> !Rj a b)
 |_=>λ_ _=>none
def unop:UnOp->T->aa T
 | .neg=>λa=>(match a with| .int c d=>pU c (0-d)|_=>none)
 | .not=>λa=>(match a with| .bool b=>Bool.casesOn b (some (.bool true)) (some (.bool false))|_=>none)
 |_=>λ_=>none
def conv(cx:Ctx)(c:ab)(a:T):aa T:=
 dV (cx.ty c) λb=>match b.u with
  | .int d=>(match a with| .int _ n=>pU d n|_=>none)
  | .str=>(match a with| .str e=>some (.str e)|_=>none)
  |_=>none
def C4(cx:Ctx)(d:ab)(i:T):aa T:=
 dV (cx.ty d) λc=>match c.u with
  | .slice e=>(match i with
   | .str a=>dV (cx.ty e) λh=>(match h.u with
    | .int g=>gh (Dk g .u8) (List.casesOn a (some .gu) λ_ _=>dV (fP (λb=>some (T.int .u8 (.ofNat b))) a) λf=>some (.dN f false))
    |_=>none)
   |_=>none)
  |_=>none
def wJ(cx:Ctx)(c:ab)(a:Nat):aa (Nat×ab):=
 dV (cx.ty c) λd=>match d.u with| .struct b=>md b a|_=>none
def my(f:Nat->aa (Nat×Nat))(g:List (Nat×T)):List T->aa (List T):=
 @List.rec (Nat×T) (λ_=>List T->aa (List T)) (λa=>some a)
  (λb _ e a=>dV (f b.1) λc=>gh (Nat.beq (kR b.2.cells) c.2) (dV (kQ a c.1 b.2.cells) λd=>e d)) g
def pH(h:Nat)(g:List (Nat×T)):List T->aa (List T):=
 @List.rec (Nat×T) (λ_=>List T->aa (List T)) (λa=>some a)
  (λf _ e a=>two f λd b=>gh (Nat.beq (kR b.cells) h) (dV (kJ a d b) λc=>e c)) g
def partsOf(cx:Ctx)(e:Nat)(b:Env)(d:List (Nat×ah)):aa (List (Nat×T)):=
 fP (λg=>two g λc f=>dV (fR cx e b f) λa=>gh a.im (some (c,a))) d
def jQ(cx:Ctx)(b:Nat)(a:Env)(f:aa ah):aa (aa Nat):=
 Option.casesOn f (some none) λd=>dV (fR cx b a d) λe=>dV (pR e) λc=>some (some c)
def f6(c:aa Nat)(a:Nat):Nat:=Option.casesOn c a λb=>b
def J9{b:Type}(d:List b)(a c:Nat):aa (List b):=dV (jX a d) λe=>takeN (Nat.sub c a) e
def tO(c:List T)(e:Bool)(d a:Nat)(g:aa Nat):aa T:=
 gh (Nat.ble d a) (dV (J9 c d a) λb=>Option.casesOn g
  (List.casesOn b (List.casesOn c (some (.dN [] false)) λ_ _=>some .gu) λ_ _=>some (.dN b (Bool.casesOn e false (Nat.beq a (kR c)))))
  λf=>gh (Nat.beq f a) (List.casesOn b (some (.dN [] false)) λ_ _=>some (.dN b true)))
def vz(b c k g:Nat)(h:Bool)(e a:Nat)(j:aa Nat):aa T:=
 gh (Nat.ble e a) (gh (Nat.ble a g) (dV (hU (Nat.add k e)) λf=>dV (hU (Nat.sub a e)) λd=>Option.casesOn j
  (Bool.casesOn h (some (.arr b c f d false)) (gh (Nat.beq a g) (some (.arr b c f d true))))
  λi=>gh (Nat.beq i a) (some (.arr b c f d true))))
def o9(m:T)(b a c:aa Nat):aa T:=
 match m with
 | .str e=>Option.casesOn c (gh (Nat.ble (f6 b 0) (f6 a (kR e))) (dV (J9 e (f6 b 0) (f6 a (kR e))) λl=>some (.str l))) λ_=>none
 | .dN f d=>tO f d (f6 b 0) (f6 a (kR f)) c
 | .gu=>gh (Nat.beq (f6 b 0) 0) (gh (Nat.beq (f6 a 0) 0) (Option.casesOn c (some .gu) λj=>gh (Nat.beq j 0) (some (.dN [] false))))
 | .arr h i k g d=>vz h i k g d (f6 b 0) (f6 a g) c
 |_=>none
inductive lH where
 |val (v:T) (h:H)
 |call (f:aj) (args:List T)
 deriving Inhabited
def val(a:H)(c:aa T):aa lH:=dV c λb=>some (.val b a)
def jz(d:aa (T×H)):aa lH:=dV d λb=>two b λc a=>some (.val c a)
abbrev Hd:=Ctx->Nat->Env->H->aa lH
def CA(d:ah):Hd:=λcx c a b=>val b (fR cx c a d)
def EP(a e f:ah):Hd:=λcx c b d=>
 dV (fR cx c b a) λa=>match a with
  | .bool g=>Bool.casesOn g (val d (fR cx c b f)) (val d (fR cx c b e))
  |_=>none
def wH(cx:Ctx)(d:Ty):Bool:=
 match d.u with
 | .array _ a=>Option.casesOn (cx.ty a) false λc=>(match c.u with| .int b=>Dk b .u8|_=>false)
 |_=>false
def CE(d:ab):Hd:=λcx _ _ c=>dV (cx.ty d) λa=>Bool.casesOn (wH cx a)
 (jz (c.new (λb=> .ptr b 0 0 0) (ly a.size true [a.kl])))
 (jz (c.new (λb=> .ptr b 0 0 0) (ly 1 true a.zero)))
def MP(f:ah):Hd:=λcx e c d=>dV (fR cx e c f) λa=>gh a.im (jz (d.new (λb=> .ptr b 0 0 0) (ly (kR a.cells) true [a])))
def Aj(m:ab)(l:af (Nat×ah)):Hd:=λcx k h e=>
 dV (cx.ty m) λc=>dV (partsOf cx k h l.toList) λf=>match c.u with
  | .struct j=>dV (my (λb=>dV (md j b) λd=>dV (cx.ty d.2) λn=>some (d.1,n.size)) f c.zero) λa=>val e (some (.agg a))
  | .array _ i=>dV (cx.ty i) λg=>dV (my (λb=>some (Nat.mul b g.size,g.size)) f c.zero) λa=>val e (some (.agg a))
  |_=>none
def ot(k:ab)(b:Nat)(i:af (Nat×ah)):Hd:=λcx h d g=>
 dV (cx.ty k) λl=>match l.u with
  | .slice e=>dV (cx.ty e) λa=>dV (partsOf cx h d i.toList) λj=>
   gh (Nat.ble 1 a.size)<|gh (Nat.ble (Nat.mul b a.size) 65536) (dV (pH a.size j (pj a.kl b)) λf=>
    jz (g.new (λc=> .arr c 0 0 b false) (ly a.size true f)))
  |_=>none
def HY(e:ab)(a:ah):Hd:=λcx d c b=>dV (cx.ty e) λf=>dV (fR cx d c a) λa=>val b (b.load f a)
def Cx(g:ab)(a i:ah):Hd:=λcx c b e=>
 dV (cx.ty g) λh=>dV (fR cx c b a) λa=>dV (fR cx c b i) λd=>gh d.im (dV (e.store h a d) λf=>some (.val .undef f))
def rk(e:ah):Hd:=λcx d b c=>dV (fR cx d b e) λa=>match a with
 | .ptr .. | .jB _| .func .. =>some (.val a c)
 |_=>none
def AJ(c d:ah)(a b:T):Bool:=
 match a with
 | .kM=>(match b with| .kM=>Region.isConst c||Region.isConst d|_=>true)
 |_=>true
def V7(i:Bool)(j:ab)(f g:ah):Hd:=λcx d c h=>
 dV (cx.ty j) λk=>dV (fR cx d c f) λa=>dV (fR cx d c g) λb=>
  gh (AJ f g a b) (dV (Np cx k a b) λe=>val h (w9 (Bool.casesOn i e (!e))))
def MQ(f:BinOp)(g h:ah):Hd:=λcx b a e=>
 dV (fR cx b a g) λc=>dV (fR cx b a h) λd=>val e (binop f c d)
def hUn(e:UnOp)(f:ah):Hd:=λcx d b c=>dV (fR cx d b f) λa=>val c (unop e a)
def byteOf(d:T):aa Nat:=match d with
 | .int b c=>gh (Dk b .u8) (Int.casesOn c (λa=>gh (Nat.blt a 256) (some a)) (λ_=>none))
 |_=>none
def GM(cx:Ctx)(d:H)(g:ab)(i:T):aa T:=
 dV (cx.ty g) λf=>match f.u with
  | .slice b=>dV (cx.ty b) λh=>(match h.u with
   | .int e=>gh (Dk e .u8) (dV (d.ji i) λc=>dV (fP byteOf c) λa=>gh (Nat.ble (kR a) 4294967296) (some (.str a)))
   |_=>none)
  |_=>none
def K5(d c:ab)(h:ah):Hd:=λcx g f b=>dV (cx.ty d) λ_=>dV (fR cx g f h) λa=>
 dV (cx.ty c) λe=>match e.u with
  | .slice _=>val b (C4 cx c a)
  | .str=>(match a with
   | .str _=>val b (conv cx c a)
   |_=>val b (GM cx b d a))
  |_=>val b (conv cx c a)
def Ag(b:ab)(g:ah):Hd:=λcx e c d=>dV (cx.ty b) λf=>match f.u with
 | .iface=>none
 |_=>dV (fR cx e c g) λa=>gh a.im (val d (some (.iface b a)))
def CB(e:Fn)(first a:af ah):Hd:=λcx g c f=>match e with
 | .func d=>(match first.toList with
  | []=>dV (pZ cx g c a.toList) λb=>val f (some (.func d b))
  |_=>none)
 |_=>none
def pA(i:ab)(a b:ah):Hd:=λcx e d h=>dV (cx.ty i) λj=>match j.u with
 | .slice g=>dV (cx.ty g) λc=>dV (fR cx e d a) λa=>dV (fR cx e d b) λb=>dV (pR a) λa=>dV (pR b) λb=>
  gh (Nat.ble 1 c.size)<|gh (Nat.ble 1 c.bytes)<|gh (Nat.ble a b) (gh (Nat.ble (Nat.mul b c.bytes) 70368744177664) (jz (h.new (λf=> .arr f 0 0 a false) (ly c.size (Nat.beq a b) (pj c.kl a)))))
 |_=>none
def yD(a b:aa Nat):Bool:=Option.casesOn b true λ_=>Option.casesOn a false λ_=>true
def jp(cx:Ctx)(f:H)(p:U)(e:T):Bool:=
 match p with
 | .str=>(match e with| .str _=>true|_=>false)
 | .slice d=>Option.casesOn (cx.ty d) false λa=>(match e with
  | .dN j _=>fits a.size j
  | .gu=>true
  | .arr b _ _ _ _=>Option.casesOn (f.get b) false λc=>Nat.beq c.sz a.size
  |_=>false)
 | .array n d=>Option.casesOn (cx.ty d) false λa=>(match e with
  | .ptr b h k m=>Option.casesOn (f.get b) false λc=>iY.casesOn c λo i _ exact l g=>
   Nat.beq o a.size&&Nat.beq i h&&Nat.beq k 0&&Nat.beq m 0&&exact&& !l&&Nat.beq (kR g) n
  |_=>false)
 |_=>false
def asSlice(e:U)(a:T):T:=match e with
 | .array d _=>(match a with| .ptr b c _ _=> .arr b c 0 d false|_=>a)
 |_=>a
def Cy(i:ab)(e:ah)(f b d:aa ah):Hd:=λcx c a g=>dV (cx.ty i) λh=>
 dV (fR cx c a e) λe=>gh (jp cx g h.u e)<|dV (jQ cx c a f) λf=>dV (jQ cx c a b) λb=>dV (jQ cx c a d) λd=>gh (yD b d) (val g (o9 (asSlice h.u e) f b d))
def pF(n:ab)(a:ah)(i:Nat):Hd:=λcx m g c=>dV (wJ cx n i) λb=>dV (fR cx m g a) λa=>match a with
 | .ptr d h j k=>dV (hU (Nat.add k b.1)) λl=>some (.val (.ptr d h j l) c)
 | .jB e=>dV (jX b.1 e) λf=>some (.val (.jB f) c)
 |_=>none
def Ai(i:ab)(a:ah)(e:Nat):Hd:=λcx g d f=>
 dV (wJ cx i e) λb=>dV (cx.ty b.2) λj=>dV (fR cx g d a) λa=>match a with
  | .agg c=>dV (jX b.1 c) λh=>val f (ko j h)
  |_=>none
def kH(a:H)(f:Ty)(l:T)(b:Nat):aa lH:=
 match l with
 | .dN h _=>dV (md h b) λg=>gh (Nat.beq (kR g.cells) f.size) (some (.val (.jB g.cells) a))
 | .arr c e k j _=>gh (Nat.blt b j) (dV (a.get c) λd=>gh (Nat.beq d.sz f.size)<|gh (Nat.beq d.ep e) (dV (hU (Nat.add k b)) λi=>some (.val (.ptr c e i 0) a)))
 |_=>none
def oO(a:H)(m:Nat)(d:Ty)(n:T)(b:Nat):aa lH:=
 gh (Nat.blt b m) (match n with
  | .ptr c e f g=>dV (a.get c) λh=>Bool.casesOn (Nat.beq h.sz d.size)
   (dV (hU (Nat.add g (Nat.mul b d.size))) λl=>some (.val (.ptr c e f l) a))
   (gh (Nat.beq g 0) (dV (hU (Nat.add f b)) λk=>some (.val (.ptr c e k 0) a)))
  | .jB i=>dV (jX (Nat.mul b d.size) i) λj=>some (.val (.jB j) a)
  |_=>none)
def pB(j:ab)(a c:ah):Hd:=λcx h e f=>
 dV (cx.ty j) λk=>dV (fR cx h e a) λa=>dV (fR cx h e c) λc=>dV (pR c) λg=>match k.u with
  | .slice b=>dV (cx.ty b) λd=>kH f d a g
  | .array i b=>dV (cx.ty b) λd=>oO f i d a g
  |_=>none
def Af(n:ab)(a c:ah):Hd:=λcx f d e=>
 dV (cx.ty n) λo=>dV (fR cx f d a) λa=>dV (fR cx f d c) λc=>dV (pR c) λb=>match o.u with
  | .str=>(match a with| .str m=>dV (md m b) λh=>val e (some (.int .u8 (.ofNat h)))|_=>none)
  | .array k j=>(match a with
   | .agg i=>dV (cx.ty j) λg=>gh (Nat.blt b k) (dV (jX (Nat.mul b g.size) i) λl=>val e (ko g l))
   |_=>none)
  |_=>none
def un(g:ah)(c:Nat):Hd:=λcx d a b=>dV (fR cx d a g) λe=>match e with| .tuple f=>val b (md f c)|_=>none
def Cz(g:ah):Hd:=λcx d b c=>dV (fR cx d b g) λf=>match f with
 | .str e=>jz (c.new (λa=> .iter a) ⟨1,0,0,true,true,[.str e,.int .i64 0]⟩)
 |_=>none
def yK(d:ab)(f:ah):Hd:=λcx c a b=>dV (cx.ty d) λe=>match e.u with
 | .str=>Cz f cx c a b
 |_=>none
def yC(c:List Nat)(b:Nat):aa (Nat×Nat):=dV (md c b) λa=>Bool.casesOn (Nat.blt a 128) (Bool.casesOn (Nat.blt a 256) (some (65533,1)) (some (Utf8.decode ⟨(c.map UInt8.ofNat).toArray⟩ b))) (some (a,1))
def Ab(i:ah):Hd:=λcx j g c=>(dV (fR cx j g i) λm=>match m with
 | .iter e=>dV (c.get e) λa=>gh a.it (match a.eZ with
  | [.str d,.int _ (.ofNat b)]=>Bool.casesOn (Nat.blt b (kR d)) (some (.val (.tuple [.bool false]) c))
   (dV (yC d b) λl=>two l λf wd=>dV (hU (Nat.add b wd)) λk=>dV (hU (Nat.succ a.ver)) λn=>
     dV (c.put e ⟨a.sz,a.ep,n,a.exact,true,[.str d,.int .i64 (.ofNat k)]⟩) λh=>
      some (.val (.tuple [.bool true,.int .i64 (.ofNat b),.int .i32 (.ofNat f)]) h))
  |_=>none)
 |_=>none)
def HW(d:ah)(c:Bool):Hd:=λcx e a b=>Bool.casesOn c none (Ab d cx e a b)
def M7(cx:Ctx)(a:H)(h:List ab)(c:T):aa lH:=
 dV (md h 0) λg=>dV (cx.ty g) λi=>match i.u with
  | .str=>(match c with
   | .str f=>val a (dV (hU (kR f)) λb=>some (.int .i64 (.ofNat b)))
   |_=>none)
  | .slice _=>(match c with
   | .dN d _=>val a (dV (hU (kR d)) λb=>some (.int .i64 (.ofNat b)))
   | .gu=>val a (some (.int .i64 0))
   | .arr _ _ _ e _=>val a (some (.int .i64 (.ofNat e)))
   |_=>none)
  | .array b _=>val a (some (.int .i64 (.ofNat b)))
  |_=>none
def oP(cx:Ctx)(b:ab):aa Ty:=
 dV (cx.ty b) λc=>match c.u with| .slice a=>cx.ty a|_=>none
def mh(cx:Ctx)(d:H)(e:ab)(a:T):aa (List T):=
 dV (cx.ty e) λf=>match f.u with
  | .str=>(match a with| .str b=>fP (λc=>some (T.int .u8 (.ofNat c))) b|_=>none)
  | .slice _=>d.ji a
  |_=>none
def iM(cx:Ctx)(b:H)(e f:ab)(d g:T):aa lH:=
 dV (oP cx e) λa=>dV (mh cx b f g) λc=>gh (fits a.size c) (jz (b.append a.size a.bytes d c))
def C7(cx:Ctx)(a:H)(n:ab)(q:T):aa lH:=
 dV (oP cx n) λg=>match q with
  | .dN b _=>List.casesOn b (some (.val .undef a)) λ_ _=>none
  | .gu=>some (.val .undef a)
  | .arr c j m e _=>Nat.casesOn e (some (.val .undef a)) λ_=>dV (a.get c) λh=>iY.casesOn h λf d o exact l i=>
   gh (Nat.beq d j)<|gh (Nat.beq f g.size) (Bool.casesOn l
    (dV (kQ i m (pj g.kl e)) λb=>dV (hU (Nat.succ o)) λp=>
      dV (a.put c ⟨f,d,p,exact,false,b⟩) λk=>some (.val .undef k)) none)
  |_=>none
def lm:Builtin->Ctx->H->List ab->List T->aa lH
 | .clear=>λcx b f a=>(match a with| [c]=>(match f with| [h]=>C7 cx b h c|_=>none)|_=>none)
 | .len=>λcx b f a=>(match a with| [c]=>M7 cx b f c|_=>none)
 | .append=>λcx b f a=>(match a with| [j,c]=>(match f with| [h,k]=>iM cx b h k j c|_=>none)|_=>none)
 | .min=>λ_ b _ a=>(match a with| [c,i]=>val b (wS c i λg d e=>xE g (Bool.casesOn (K2 e d) d e))|_=>none)
 | .max=>λ_ b _ a=>(match a with| [c,i]=>val b (wS c i λg d e=>xE g (Bool.casesOn (K2 d e) d e))|_=>none)
 |_=>λ_ _ _ _=>none
def CD(a:Call):Hd:=λcx e d h=>dV (pZ cx e d a.args.toList) λc=>match a.callee with
 | .builtin f=>lm f cx h a.argTypes.toList c
 | .value b=>dV (fR cx e d b) λj=>(match j with
  | .func b g=>dV (Eb c g) λi=>some (.call b i)
  |_=>none)
 |_=>none
def jn:Op->Hd
 | .move a=>CA a
 | .assign a=>CA a
 | .pick d c g=>EP d c g
 | .alloc b=>CE b
 | .box _ a=>MP a
 | .build b i=>Aj b i
 | .buildSlice b q i=>ot b q i
 | .load b c=>HY b c
 | .store b c a=>Cx b c a
 | .nilCheck a=>rk a
 | .binOp f b a j _=>(match f with| .eql=>V7 false b a j| .neq=>V7 true b a j|_=>MQ f a j)
 | .unOp f _ a=>hUn f a
 | .convert s k a=>K5 s k a
 | .makeInterface b a=>Ag b a
 | .makeFunc l c g=>CB l c g
 | .makeSlice b n d=>pA b n d
 | .slice b a o m p=>Cy b a o m p
 | .fieldAddr b a h=>pF b a h
 | .field b a h=>Ai b a h
 | .indexAddr b a e=>pB b a e
 | .index b a e=>Af b a e
 | .extract a e=>un a e
 | .makeMap .. =>λ_ _ _ _=>none
 | .lookup .. =>λ_ _ _ _=>none
 | .mapUpdate .. =>λ_ _ _ _=>none
 | .range b a=>yK b a
 | .next it r=>HW it r
 | .entry _=>λ_ _ _ _=>none
 | .call d=>CD d
 |_=>λ_ _ _ _=>none
def AW(e:ai):TypeDesc->aa U
 | .int c=>some (.int c)
 | .bool=>some .bool
 | .string=>some .str
 | .slice a=>some (.slice a)
 | .array g a=>some (.array g a)
 | .struct d=>if d.toList.all (λb=>(e.info? b.type).any λf=> !(f.size==0))then some (.struct (d.toList.map λb=>(b.offset,b.type)))else none
 | .pointer a=>some (.ptr a)
 | .map c a=>some (.map c a)
 | .func _ _ _=>some .func
 | .interface _=>some .iface
 |_=>some .other
def tH(a:TypeDesc)(b:am):Bool:=
 match a,b with
 | .struct _,.agg _| .array _ _,.agg _=>true
 | .struct _,_| .array _ _,_|_,.agg _=>false
 |_,_=>true
def K0:TypeDesc->Bool
 | .struct b=>b.toList.all λa=>a.name != "_"
 |_=>true
def U3(a:ai)(c:ab)(e:Bool):aa Ty:=
 dV (a.info? c) λb=>dV (a.underlying c) λd=>dV b.zero λf=>dV (fP oa f.cells.toList) λg=>dV (AW a d) λh=>
  gh (tH d f) (gh (Nat.beq (kR g) b.size) (gh (Bool.casesOn e true (!a.stoodInHeld c&& !a.eqGuardType a.depth c&&K0 d)) (some ⟨h,b.size,b.bytes,e,g⟩)))
abbrev iX:=aj->List T->H->aa (T×H)
def kv(i:af Oper)(g:Nat)(d:Env)(e:aa (Nat×Bool)):aa Bool:=
 Option.casesOn e (some true) λj=>two j λf a=>dV (dV (dV (md i.toList f) λh=>h.dst) λc=>d.get g c) λk=>
  match k with
  | .bool b=>some (Bool.casesOn b (Bool.casesOn a true false) a)
  |_=>some false
def ls(cx:Ctx)(call:iX)(c:Nat)(k:af Oper)(a:Env)(e:H)(d:Oper):aa (Env×H):=
 dV (kv k c a d.guard) λm=>Bool.casesOn m
  (dV (a.dst c d.dst .undef) λb=>some (b,e))
  (dV (jn d.op cx c a e) λi=>lH.casesOn i
    (λg f=>dV (a.dst c d.dst g) λb=>some (b,f))
    (λj h=>dV (call j h e) λl=>two l λg f=>dV (a.dst c d.dst g) λb=>some (b,f)))
def ky(cx:Ctx)(call:iX)(g:Nat)(i:af Oper)(f:List Oper):Env->H->aa (Env×H):=
 @List.rec Oper (λ_=>Env->H->aa (Env×H)) (λa b=>some (a,b))
  (λh _ e a b=>dV (ls cx call g i a b h) λj=>two j λc d=>e c d) f
def dU:T->aa Nat
 | .ptr a _ _ _=>some a
 | .arr a _ _ _ _=>some a
 | .map a=>some a
 |_=>none
def gG(cx:Ctx)(d:Nat)(b:Env)(c:H)(e:Op):aa Nat:=
 match e with
 | .load _ a=>dV (fR cx d b a) dU
 | .indexAddr _ a _=>dV (fR cx d b a) dU
 | .slice _ a _ _ _=>dV (fR cx d b a) dU
 | .convert _ _ a=>dV (fR cx d b a) dU
 | .lookup _ a _ _=>dV (fR cx d b a) dU
 | .makeMap _ _=>some c.size
 | .alloc _=>some c.size
 | .box _ _=>some c.size
 | .buildSlice _ _ _=>some c.size
 | .makeSlice _ _ _=>some c.size
 |_=>none
def iB:Op->Bool
 | .store .. =>true
 | .call b=>(match b.callee with
  | .builtin a=>(match a with| .len| .min| .max=>false|_=>true)
  |_=>true)
 | .next .. =>true
 | .range .. =>true
 | .entry .. =>true
 | .mapUpdate .. =>true
 |_=>false
structure Seen where
 mn:List (Nat×Nat)
 kT:List (Nat×H×H)
def wO(c:List Nat)(d:List Edge):Nat:=
 d.foldr (λa b=>Bool.casesOn (Region.binds .any a) b (Nat.lor b (Nat.lor (Nat.shiftLeft 1 a.on) (c.getD a.on 0)))) 0
def Kj:List Oper->List Nat->List Nat
 | [],a=>a
 |o::b,a=>Kj b (a++[wO a o.after.toList])
def jN(c:af Oper)(a b:Nat):Bool:=((Kj c.toList []).getD b 0).testBit a
def ff(b c:H)(a:Nat):Bool:=
 Option.casesOn (b.get a) true λd=>Option.casesOn (c.get a) false λe=>Nat.beq d.ver e.ver
def og(e:af Oper)(c b:Nat)(d:List (Nat×H×H)):Bool:=
 wW (λa=>Bool.casesOn (ff a.2.1 a.2.2 b) (jN e a.1 c) true) d
def xj(f:af Oper)(d:Nat)(b c:H)(e:List (Nat×Nat)):Bool:=
 wW (λa=>Bool.casesOn (ff b c a.2) (jN f a.1 d) true) e
def qK(cx:Ctx)(e:Nat)(g:af Oper)(c:Nat)(b:Env)(d:List (Nat×H×H))(f:Op):Bool:=
 match f with
 | .store _ h _=>Option.casesOn (dV (fR cx e b h) dU) true λa=>og g c a d
 |_=>true
def j3(cx:Ctx)(call:iX)(j:Nat)(g:af Oper)(l:List Oper):Nat->Seen->Env->H->aa (Env×H):=
 @List.rec Oper (λ_=>Nat->Seen->Env->H->aa (Env×H)) (λ_ _ c d=>some (c,d))
  (λf _ i a b c d=>dV (ls cx call j g c d f) λm=>two m λh e=>
    dV (kv g j c f.guard) λn=>Bool.casesOn n (i (Nat.succ a) b h e)
     (Bool.casesOn (iB f.op)
       (Option.casesOn (gG cx j c d f.op) (i (Nat.succ a) b h e)
         λk=>gh (og g a k b.kT) (i (Nat.succ a) ⟨(a,k)::b.mn,b.kT⟩ h e))
       (gh (xj g a d e b.mn) (gh (qK cx j g a c b.kT f.op) (i (Nat.succ a) ⟨b.mn,(a,d,e)::b.kT⟩ h e))))) l
inductive Ex where
 |normal|exit (id:Nat)|ret
 deriving Inhabited
abbrev Out:=aa (Ex×Env×H)
def three{a:Type}(e:Ex×Env×H)(c:Ex->Env->H->a):a:=Prod.casesOn e λg f=>Prod.casesOn f λb d=>c g b d
def oo(c:Env->H->Out)(h:Nat):Env->H->Out:=
 @Nat.rec (λ_=>Env->H->Out) (λ_ _=>none)
  (λ_ g d e=>dV (c d e) λi=>three i λj a b=>Ex.casesOn j (g a b) (λf=>some (.exit f,a,b)) (some (.ret,a,b))) h
def KJ(cx:Ctx)(call:iX)(g:Nat)(a:af Oper)(i:Bool)(j:Env)(f:H):Out:=
 Env.casesOn j λh _=>Bool.casesOn i
  (dV (ky cx call g a a.toList ⟨h,.nil⟩ f) λd=>two d λb c=>some (.normal,Env.casesOn b λe _=>⟨e,.nil⟩,c))
  (dV (j3 cx call g a a.toList 0 ⟨[],[]⟩ ⟨h,.nil⟩ f) λd=>two d λb c=>some (.normal,Env.casesOn b λe _=>⟨e,.nil⟩,c))
def BR(c d:Env->H->Out)(e:Env)(f:H):Out:=
 dV (c e f) λh=>three h λi a b=>Ex.casesOn i (d a b) (λg=>some (.exit g,a,b)) (some (.ret,a,b))
def If(cx:Ctx)(f:Nat)(e:ah)(c d:Env->H->Out)(a:Env)(b:H):Out:=
 dV (fR cx f a e) λh=>match h with
  | .bool g=>Bool.casesOn g (d a b) (c a b)
  |_=>none
def x6(id:Nat)(d:Env->H->Out)(e:Env)(f:H):Out:=
 dV (d e f) λg=>three g λh a b=>Ex.casesOn h (some (.normal,a,b)) (λc=>Bool.casesOn (Nat.beq c id) (some (.exit c,a,b)) (some (.normal,a,b))) (some (.ret,a,b))
def j8(cx:Ctx)(call:iX)(c a:Nat):Code->Env->H->Out
 | .skip=>λd e=>some (.normal,d,e)
 | .region _ i h=>KJ cx call a i h
 | .seq f b=>BR (j8 cx call c a f) (j8 cx call c a b)
 | .cond g f b=>If cx a g (j8 cx call c a f) (j8 cx call c a b)
 | .block id b=>x6 id (j8 cx call c a b)
 | .loop b=>oo (j8 cx call c a b) c
 | .exit id=>λd e=>some (.exit id,d,e)
 | .ret=>λd e=>some (.ret,d,e)
 |_=>λ_ _=>none
def mo(g:Nat)(h:Nat):Nat->List T->aa fX:=
 @Nat.rec (λ_=>Nat->List T->aa fX) (λ_ _=>some .nil)
  (λ_ c a f=>dV (hU (Nat.succ a)) λb=>List.casesOn f
    (Bool.casesOn (km g a) (c b []) (dV (c b []) λd=>some (.cons a .undef d)))
    λe i=>dV (c b i) λd=>some (.cons a e d)) h
def mS(cx:Ctx)(c:Nat)(b:Env)(e:H)(f:List ResultVar):aa (List T):=
 fP (λh=>ResultVar.casesOn h (λa=>b.get c a) (λd a=>dV (b.get c d) λg=>dV (cx.ty a) λi=>e.load i g)) f
def v7(b:Nat)(e:List Nat):Nat->aa Int:=
 @List.rec Nat (λ_=>Nat->aa Int) (λ_=>some (.negSucc 0))
  (λf _ d a=>Bool.casesOn (Nat.beq f b) (dV (hU (Nat.succ a)) λc=>d c) (some (.ofNat a))) e
def B2(f:Prim)(b:List T)(a:H):aa (T×H):=
 match f with
 | .nU=>(match b with
  | [.str g,.int .u8 (.ofNat c)]=>gh (Nat.blt c 256) (dV (v7 c g 0) λe=>some (.int .i64 e,a))
  |_=>none)
 | .clone h bytes=>(match b with
  | [i]=>dV (a.ji i) λd=>List.casesOn d (some (.dN [] false,a)) λ_ _=>a.jb h bytes [] d
  |_=>none)
def jM(a:List T):T:=match a with| [b]=>b|_=> .tuple a
def sX(cx:Ctx)(call:iX)(l:Nat)(a:Func)(c:Nat)(g:Bool)(i:List T)(m:H):aa (T×H):=
 Option.casesOn a.body none λj=>H.casesOn m λd h k=>
  dV (mo c a.ntmps 0 i) λo=>
  dV (j8 cx call l c j ⟨o,.nil⟩ ⟨d,d,k⟩) λn=>three n λp f b=>Ex.casesOn p
   (dV (mS cx c f b a.results.toList) λe=>Co g d h (jM e) b)
   (λ_=>none)
   (dV (mS cx c f b a.results.toList) λe=>Co g d h (jM e) b)
end
end Go.TI
