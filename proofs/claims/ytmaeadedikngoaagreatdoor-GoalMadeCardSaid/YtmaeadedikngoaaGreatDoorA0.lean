/- Texts TiDefs to TiDefs. -/
import GoSem.Step
set_option linter.unusedVariables false
set_option linter.unusedSimpArgs false
namespace Go.TI
abbrev aa:=@Option
abbrev ab:=@TypeId
abbrev af:=@Array
abbrev ah:=@Operand
abbrev ai:=@Program
abbrev aj:=@FuncId
abbrev ak:=@IntKind
abbrev am:=@Value
theorem ao:type_of% @if_neg:=@if_neg
theorem aq:type_of% @if_pos:=@if_pos
theorem ar:type_of% @Option.some.injEq:=@Option.some.injEq
theorem au:type_of% @Nat.le_refl:=@Nat.le_refl
theorem aw:type_of% @Nat.zero_le:=@Nat.zero_le
theorem ax:type_of% @Prod.mk.injEq:=@Prod.mk.injEq
theorem ay:type_of% @Bool.and_eq_true:=@Bool.and_eq_true
theorem az:type_of% @List.mem_of_getElem?:=@List.mem_of_getElem?
theorem aB:type_of% @List.getElem?_eq_getElem:=@List.getElem?_eq_getElem
theorem aC:type_of% @Nat.eq_of_beq_eq_true:=@Nat.eq_of_beq_eq_true
theorem aD:type_of% @Nat.lt_or_ge:=@Nat.lt_or_ge
theorem aF:type_of% @List.getElem_mem:=@List.getElem_mem
theorem aG:type_of% @Nat.blt_eq:=@Nat.blt_eq
theorem aH:type_of% @List.length_map:=@List.length_map
theorem aI:type_of% @List.append_assoc:=@List.append_assoc
theorem aJ:type_of% @List.drop_eq_getElem_cons:=@List.drop_eq_getElem_cons
theorem aK:type_of% @List.cons.injEq:=@List.cons.injEq
theorem aL:type_of% @decide_eq_true_eq:=@decide_eq_true_eq
theorem aM:type_of% @List.getElem?_eq_none:=@List.getElem?_eq_none
theorem aO:type_of% @List.flatMap_cons:=@List.flatMap_cons
theorem aP:type_of% @List.length_append:=@List.length_append
theorem aQ:type_of% @List.take_length:=@List.take_length
theorem aR:type_of% @Prod.ext:=@Prod.ext
theorem aS:type_of% @Nat.le_trans:=@Nat.le_trans
theorem aT:type_of% @List.getElem?_map:=@List.getElem?_map
theorem aU:type_of% @List.map_cons:=@List.map_cons
theorem aV:type_of% @Nat.mul_le_mul_right:=@Nat.mul_le_mul_right
theorem aW:type_of% @Array.getD_eq_getD_getElem?:=@Array.getD_eq_getD_getElem?
theorem aY:type_of% @if_true:=@if_true
theorem aZ:type_of% @List.length_cons:=@List.length_cons
theorem bg:type_of% @decide_eq_false:=@decide_eq_false
theorem bh:type_of% @List.eq_nil_of_length_eq_zero:=@List.eq_nil_of_length_eq_zero
theorem bj:type_of% @List.take_succ_eq_append_getElem:=@List.take_succ_eq_append_getElem
theorem bm:type_of% @if_false:=@if_false
theorem bo:type_of% @decide_eq_false_iff_not:=@decide_eq_false_iff_not
theorem br:type_of% @Ne.symm:=@Ne.symm
theorem bw:type_of% @decide_eq_true:=@decide_eq_true
theorem bA:type_of% @Nat.le_of_ble_eq_true:=@Nat.le_of_ble_eq_true
theorem bC:type_of% @Nat.le_of_lt:=@Nat.le_of_lt
theorem bD:type_of% @Nat.lt_of_lt_of_le:=@Nat.lt_of_lt_of_le
theorem bE:type_of% @List.mem_of_mem_drop:=@List.mem_of_mem_drop
theorem bF:type_of% @Bool.eq_iff_iff:=@Bool.eq_iff_iff
theorem bG:type_of% @List.mem_of_mem_take:=@List.mem_of_mem_take
theorem bH:type_of% @List.getElem?_drop:=@List.getElem?_drop
theorem bI:type_of% @Bool.or_eq_false_iff:=@Bool.or_eq_false_iff
theorem bJ:type_of% @List.take_of_length_le:=@List.take_of_length_le
theorem bK:type_of% @List.getElem?_take:=@List.getElem?_take
theorem bL:type_of% @List.append_nil:=@List.append_nil
theorem bM:type_of% @Bool.true_and:=@Bool.true_and
theorem bO:type_of% @congrArg:=@congrArg
theorem bP:type_of% @Bool.not_eq_true':=@Bool.not_eq_true'
theorem bQ:type_of% @List.eq_of_mem_replicate:=@List.eq_of_mem_replicate
theorem bR:type_of% @Bool.or_eq_true:=@Bool.or_eq_true
theorem bS:type_of% @Bool.not_eq_false':=@Bool.not_eq_false'
theorem bU:type_of% @Nat.succ_mul:=@Nat.succ_mul
theorem bV:type_of% @List.map_set:=@List.map_set
theorem bW:type_of% @List.getElem?_append_left:=@List.getElem?_append_left
theorem bY:type_of% @Nat.add_mul:=@Nat.add_mul
theorem bZ:type_of% @Array.length_toList:=@Array.length_toList
theorem cd:type_of% @Bool.eq_false_iff:=@Bool.eq_false_iff
theorem cg:type_of% @List.flatMap_nil:=@List.flatMap_nil
theorem ci:type_of% @Bool.false_eq_true:=@Bool.false_eq_true
theorem cj:type_of% @Nat.ble_eq_true_of_le:=@Nat.ble_eq_true_of_le
theorem cm:type_of% @List.getElem?_set:=@List.getElem?_set
theorem co:type_of% @Array.ext':=@Array.ext'
theorem cq:type_of% @List.getElem?_append_right:=@List.getElem?_append_right
theorem cr:type_of% @Nat.min_eq_left:=@Nat.min_eq_left
theorem cu:type_of% @List.all_eq_true:=@List.all_eq_true
theorem cv:type_of% @List.mem_cons:=@List.mem_cons
theorem cw:type_of% @List.mem_cons_of_mem:=@List.mem_cons_of_mem
theorem cy:type_of% @List.nil_append:=@List.nil_append
theorem cz:type_of% @List.map_nil:=@List.map_nil
theorem cA:type_of% @List.all_cons:=@List.all_cons
theorem cB:type_of% @List.cons_append:=@List.cons_append
theorem cC:type_of% @List.mem_flatMap:=@List.mem_flatMap
theorem cD:type_of% @Nat.add_assoc:=@Nat.add_assoc
theorem cE:type_of% @List.mem_or_eq_of_mem_set:=@List.mem_or_eq_of_mem_set
theorem cF:type_of% @Int.toNat_natCast:=@Int.toNat_natCast
theorem cG:type_of% @List.map_map:=@List.map_map
theorem cH:type_of% @Bool.not_true:=@Bool.not_true
theorem cI:type_of% @Option.map_some:=@Option.map_some
theorem cJ:type_of% @Nat.ne_of_beq_eq_false:=@Nat.ne_of_beq_eq_false
theorem cK:type_of% @List.take_append_drop:=@List.take_append_drop
theorem cM:type_of% @List.flatMap_append:=@List.flatMap_append
theorem cN:type_of% @Array.getElem?_eq_none:=@Array.getElem?_eq_none
theorem cO:type_of% @Nat.lt_trichotomy:=@Nat.lt_trichotomy
theorem cP:type_of% @List.length_nil:=@List.length_nil
theorem cQ:type_of% @List.take_append_of_le_length:=@List.take_append_of_le_length
theorem cR:type_of% @List.set_cons_zero:=@List.set_cons_zero
theorem cS:type_of% @Nat.lt_succ_self:=@Nat.lt_succ_self
theorem cT:type_of% @List.getElem?_of_mem:=@List.getElem?_of_mem
theorem cU:type_of% @List.mem_range:=@List.mem_range
theorem cV:type_of% @List.ext_getElem?:=@List.ext_getElem?
theorem cW:type_of% @List.replicate_succ:=@List.replicate_succ
theorem cY:type_of% @List.toList_toArray:=@List.toList_toArray
theorem cZ:type_of% @List.getElem?_cons_succ:=@List.getElem?_cons_succ
theorem c8:type_of% @List.mem_append_left:=@List.mem_append_left
theorem da:type_of% @List.set_cons_succ:=@List.set_cons_succ
theorem db:type_of% @List.mem_cons_self:=@List.mem_cons_self
theorem dc:type_of% @List.pairwise_cons:=@List.pairwise_cons
theorem df:type_of% @List.not_mem_nil:=@List.not_mem_nil
theorem dg:type_of% @List.drop_length:=@List.drop_length
theorem dh:type_of% @List.length_range:=@List.length_range
end Go.TI
namespace Go.TI
noncomputable section
inductive T where
 |undef
 |bool (b:Bool)
 |int (k:ak) (n:Int)
 |str (s:List Nat)
 |jz
 |ptr (b ep i j:Nat)
 |iT (cells:List T)
 |dq (dO:List T) (full:Bool)
 |fg
 |arr (b ep o l:Nat) (full:Bool)
 |func (f:aj) (captured:List T)
 |j3
 |ka
 |iface (t:ab) (v:T)
 |iter (b:Nat)
 |map (b:Nat)
 |mL
 |agg (cells:List T)
 |tuple (vs:List T)
 deriving Inhabited
def T.cells:T->List T
 | .agg a=>a
 |v=>[v]
def T.fT:T->Bool
 | .undef| .tuple _=>false
 |_=>true
structure iE where
 sz:Nat
 ep:Nat
 ver:Nat
 exact:Bool
 it:Bool
 dO:List T
 deriving Inhabited
structure H where
 size:Nat
 low:Nat
 ec:List iE
 deriving Inhabited
inductive U where
 |int (k:ak)|bool|str|slice (e:ab)|array (n:Nat) (e:ab)|map (k e:ab)|struct (fs:List (Nat×ab))|ptr (e:ab)|func|iface|other
 deriving Inhabited
structure Ty where
 u:U
 size:Nat
 bytes:Nat
 cmp:Bool
 zero:List T
 deriving Inhabited
inductive Prim where
 |mY
 |clone (sz bytes:Nat)
 deriving Inhabited
structure Fun where
 fn:Func
 mask:Nat
 j8:Bool
 afa:aa Prim
 deriving Inhabited
structure Ctx where
 ty:ab->aa Ty
 fn:aj->aa Fun
 gl:Nat->aa (List T)
def dB{a b:Type}(d:aa a)(c:a->aa b):aa b:=Option.casesOn d none c
def fy{a:Type}(b:Bool)(c:aa a):aa a:=Bool.casesOn b none c
def two{a b c:Type}(e:a×b)(d:a->b->c):c:=Prod.casesOn e d
def kW{a:Type}(c:List a):Nat->aa a:=
 @List.rec a (λ_=>Nat->aa a) (λ_=>none) (λf _ b e=> @Nat.rec (λ_=>aa a) (some f) (λd _=>b d) e) c
def kf{a:Type}(d:List a):Nat->a->aa (List a):=
 @List.rec a (λ_=>Nat->a->aa (List a)) (λ_ _=>none)
  (λi g c f b=> @Nat.rec (λ_=>aa (List a)) (some (b::g)) (λe _=>dB (c e b) λh=>some (i::h)) f) d
def takeN{a:Type}(d:Nat):List a->aa (List a):=
 @Nat.rec (λ_=>List a->aa (List a)) (λ_=>some [])
  (λ_ b c=> @List.rec a (λ_=>aa (List a)) none (λg e _=>dB (b e) λf=>some (g::f)) c) d
def je{a:Type}(d:Nat):List a->aa (List a):=
 @Nat.rec (λ_=>List a->aa (List a)) (λb=>some b)
  (λ_ c b=> @List.rec a (λ_=>aa (List a)) none (λ_ e _=>c e) b) d
def kc{a:Type}(c:List a):Nat:= @List.rec a (λ_=>Nat) 0 (λ_ _ b=>Nat.succ b) c
def Cv{a:Type}(e f:List a):aa (List a):=
 @List.rec a (λ_=>aa (List a)) (some f) (λd _ b=>dB b λc=>some (d::c)) e
def eK{a b:Type}(c:a->aa b)(e:List a):aa (List b):=
 @List.rec a (λ_=>aa (List b)) (some []) (λg _ d=>dB (c g) λh=>dB d λf=>some (h::f)) e
def om{a:Type}(d:a)(c:Nat):List a:= @Nat.rec (λ_=>List a) [] (λ_ b=>d::b) c
def vH{a:Type}(b:a->Bool)(d:List a):Bool:= @List.rec a (λ_=>Bool) true (λe _ c=>Bool.rec false c (b e)) d
def fF(b:Nat):aa Nat:=Nat.casesOn b (some 0) (λa=>some (Nat.succ a))
def Jm(c:Int):aa Int:=
 Int.casesOn c (λa=>Nat.casesOn a (some (.ofNat 0)) (λb=>some (.ofNat (Nat.succ b)))) (λa=>Nat.casesOn a (some (.negSucc 0)) (λb=>some (.negSucc (Nat.succ b))))
def wy(a:ak)(c:Int):aa T:=dB (Jm c) λb=>some (.int a b)
def vQ(a:Bool):aa T:=Bool.casesOn a (some (.bool false)) (some (.bool true))
def kNo:ak->Nat
 | .i8=>0| .i16=>1| .i32=>2| .i64=>3| .u8=>4| .u16=>5| .u32=>6| .u64=>7
def B5(a b:ak):Bool:=Nat.beq (kNo a) (kNo b)
def Jq(d c:Int):Bool:=Int.casesOn d (λa=>Int.casesOn c (λb=>Nat.blt a b) (λ_=>false)) (λa=>Int.casesOn c (λ_=>true) (λb=>Nat.blt b a))
def Pd(d c:Int):Bool:=Int.casesOn d (λa=>Int.casesOn c (λb=>Nat.beq a b) (λ_=>false)) (λa=>Int.casesOn c (λ_=>false) (λb=>Nat.beq a b))
def IT(k:ak)(a:Int):Int:=
 match k with
 | .i64=>Int.casesOn a (λb=>Bool.casesOn (Nat.ble b 9223372036854775807) (IntKind.i64.wrap a) a) (λb=>Bool.casesOn (Nat.ble b 9223372036854775807) (IntKind.i64.wrap a) a)
 |k=>k.wrap a
def oS(a:ak)(b:Int):aa T:=wy a (IT a b)
def SW(b:List Nat):List Nat->Bool:=
 @List.rec Nat (λ_=>List Nat->Bool) (λa=>List.casesOn a true (λ_ _=>false))
  (λe _ c a=>List.casesOn a false (λf d=>Bool.rec false (c d) (Nat.beq e f))) b
def Pb(d:List Nat):List Nat->Bool:=
 @List.rec Nat (λ_=>List Nat->Bool) (λa=>List.casesOn a false (λ_ _=>true))
  (λb _ e a=>List.casesOn a false (λc f=>Bool.rec (Bool.rec false (e f) (Nat.beq b c)) true (Nat.blt b c))) d
def H.get(d:H)(a:Nat):aa iE:=
 H.casesOn d λb _ c=>fy (Nat.blt a b) (kW c (Nat.sub (Nat.sub b 1) a))
def H.new(g:Nat->T)(h:H)(i:iE):aa (T×H):=
 H.casesOn h λa d c=>dB (fF (Nat.succ a)) λe=>some (g a,⟨e,d,i::c⟩)
def H.put(f:H)(a:Nat)(x:iE):aa H:=
 H.casesOn f λb d e=>fy (Nat.blt a b)
  (dB (kf e (Nat.sub (Nat.sub b 1) a) x) λc=>Bool.casesOn (Nat.blt a d) (some ⟨b,d,c⟩) (some ⟨b,a,c⟩))
def over(a:List T)(f:List T):aa (List T):=
 @List.rec T (λ_=>List T->aa (List T)) (λa=>some a)
  (λe _ b a=>List.casesOn a none (λ_ c=>dB (b c) λd=>some (e::d))) f a
def jY(a:List T)(d:Nat)(g:List T):aa (List T):=
 @Nat.rec (λ_=>List T->aa (List T)) (λa=>over a g)
  (λ_ c a=>List.casesOn a none (λb e=>dB (c e) λf=>some (b::f))) d a
def Ty.isAgg(a:Ty):Bool:=match a.u with| .struct _| .array _ _=>true|_=>false
def ST(a:List T):T:=List.casesOn a .undef (λb _=>b)
def Ty.jI(a:Ty):T:=Bool.casesOn a.isAgg (ST a.zero) (.agg a.zero)
def jK(b:Ty)(a:List T):aa T:=
 Bool.casesOn b.isAgg (kW a 0) (dB (takeN b.size a) λc=>some (.agg c))
def H.elem(e:H)(a c i:Nat):aa T:=
 dB (e.get a) λx=>iE.casesOn x λ_ d _ _ f b=>fy (Nat.beq d c) (Bool.casesOn f (kW b i) none)
def H.load(g:H)(b:Ty)(c:T):aa T:=
 match c with
 | .ptr d f h i=>dB (g.elem d f h) λe=>dB (je i e.cells) λa=>jK b a
 | .iT a=>jK b a
 |_=>none
def lr(d:T)(a:Nat)(b:List T):aa T:=
 match d with
 | .agg c=>dB (jY c a b) λe=>some (.agg e)
 |_=>match a,b with
  |0,[f]=>some f
  |_,_=>none
def H.store(d:H)(o:Ty)(g f:T):aa H:=
 match g with
 | .ptr a j e m=>fy (Nat.beq (kc f.cells) o.size) (dB (d.get a) λr=>iE.casesOn r λn c p exact l b=>
  fy (Nat.beq c j) (Bool.casesOn l (dB (kW b e) λh=>dB (lr h m f.cells) λi=>dB (kf b e i) λk=>
   dB (fF (Nat.succ p)) λq=>d.put a ⟨n,c,q,exact,false,k⟩) none))
 |_=>none
def H.iy(f:H)(k:T):aa (List T):=
 match k with
 | .dq e _=>some e
 | .fg=>some []
 | .arr a c i h _=>dB (f.get a) λl=>iE.casesOn l λ_ d _ _ g b=>fy (Nat.beq d c) (Bool.casesOn g (dB (je i b) λj=>takeN h j) none)
 |_=>none
def fits(c:Nat)(b:List T):Bool:=List.casesOn b true (λa _=>Nat.beq (kc a.cells) c)
def kz(b:Nat)(exact:Bool)(a:List T):iE:=⟨b,0,0,exact,false,a⟩
def H.iA(g:H)(a bytes:Nat)(d e:List T):aa (T×H):=
 dB (Cv d e) λb=>dB (fF (kc b)) λc=>
 fy (Nat.ble 1 bytes)<|fy (Nat.ble (Nat.mul c bytes) 70368744177664) (fy (fits a d) (fy (fits a e) (g.new (λf=> .arr f 0 0 c false) (kz a false b))))
def H.lH(e:H)(g bytes a k o:Nat)(i:List T):aa (T×H):=
 dB (e.get a) λr=>iE.casesOn r λh b p _ n j=>
  dB (takeN o j) λl=>dB (Cv l i) λd=>dB (fF (kc d)) λf=>
  fy (Nat.ble 1 bytes)<|fy (Nat.beq b k) (fy (Nat.beq h g) (fy (Nat.ble (Nat.mul f bytes) 70368744177664) (fy (fits g i) (Bool.casesOn n
   (dB (fF (Nat.succ b)) λc=>dB (fF (Nat.succ p)) λq=>
     dB (e.put a ⟨h,c,q,false,false,d⟩) λm=>some (.arr a c 0 f false,m)) none))))
def nS:T->Bool
 | .dq _ _| .fg| .arr .. =>true
 |_=>false
def H.append(a:H)(e bytes:Nat)(d:T)(b:List T):aa (T×H):=
 List.casesOn b (fy (nS d) (some (d,a))) λ_ _=>match d with
  | .dq c f=>List.casesOn c (a.iA e bytes [] b) λ_ _=>fy f (a.iA e bytes c b)
  | .arr g h j i f=>Bool.casesOn f
   (Nat.casesOn j (a.lH e bytes g h i b) λ_=>none)
   (dB (a.iy d) λc=>a.iA e bytes c b)
  |_=>none
def freeze(m:H)(p:Nat)(h:Nat):T->aa T:=
 @Nat.rec (λ_=>T->aa T) (λ_=>none) (λ_ e f=>match f with
  | .arr b i q o l=>fy (Nat.ble p b) (dB (m.get b) λr=>iE.casesOn r λ_ j _ exact n c=>
   fy (Nat.beq j i) (Bool.casesOn n (dB (dB (je q c) λa=>takeN o a) λk=>dB (eK e k) λd=>
    List.casesOn d (List.casesOn c (Bool.casesOn exact (some .fg) (some (.dq [] false))) λ_ _=>some .fg) λ_ _=>some (.dq d l)) none))
  | .agg g=>dB (eK e g) λa=>some (.agg a)
  | .bool _| .int _ _| .str _| .jz| .dq _ _| .fg| .j3| .ka=>some f
  |_=>none) h
def iK(d:H)(c:Nat)(a:T):aa T:=
 match a with
 | .arr b _ _ _ _=>Bool.casesOn (Nat.ble c b) (some a) (freeze d c 12 a)
 | .ptr b _ _ _=>Bool.casesOn (Nat.ble c b) (some a) none
 | .map b=>Bool.casesOn (Nat.ble c b) (some a) none
 | .undef=>some a
 |_=>freeze d c 12 a
def jP(a:H)(b:Nat)(c:T):aa T:=
 match c with
 | .agg d=>dB (eK (iK a b) d) λe=>some (.agg e)
 |_=>iK a b c
def jd(a:H)(b:Nat)(c:T):aa T:=
 match c with
 | .tuple e=>dB (eK (jP a b) e) λd=>some (.tuple d)
 |_=>jP a b c
def jR(b:Nat):T->Bool
 | .arr a _ _ _ _=>Nat.blt a b
 | .ptr a _ _ _=>Nat.blt a b
 | .map a=>Nat.blt a b
 | .bool _| .int _ _| .str _| .jz| .dq _ _| .fg| .j3| .ka| .mL| .iT _=>true
 |_=>false
def below(b:Nat):T->Bool
 | .agg a=>vH (jR b) a
 | .func _ a=>vH (jR b) a
 | .tuple a=>vH (jR b) a
 |v=>jR b v
def qT(d:Nat)(b:Nat):List iE->Bool:=
 @Nat.rec (λ_=>List iE->Bool) (λ_=>true) (λ_ a c=>List.casesOn c true λf e=>Bool.casesOn (vH (below d) f.dO) false (a e)) b
def mB(c:Nat)(d:T)(f:H):aa (T×H):=
 H.casesOn f λe b a=>Bool.casesOn (Nat.blt b c) (some (d,⟨e,c,a⟩)) (some (d,⟨e,b,a⟩))
def sL(a c:Nat)(i e:T)(h:H):aa (T×H):=
 H.casesOn h λg b f=>dB (je (Nat.sub g a) f) λd=>
  Bool.casesOn (Nat.ble a b)
   (Bool.casesOn (qT a (Nat.sub a b) d) (mB c i ⟨g,b,f⟩)
     (Bool.casesOn (Nat.blt b c) (some (e,⟨a,c,d⟩)) (some (e,⟨a,b,d⟩))))
   (some (e,⟨a,c,d⟩))
def qH(e:Bool)(d c:Nat)(b:T)(a:H):aa (T×H):=
 Bool.casesOn e (Option.casesOn (jd a d b) (mB c b a) λf=>sL d c b f a) (mB c b a)
inductive eZ where
 |nil
 |cons (s:Nat) (v:T) (r:eZ)
 deriving Inhabited
structure Env where
 vars:eZ
 tmps:eZ
 deriving Inhabited
def dt(c:eZ)(d:Nat):aa T:=
 @eZ.rec (λ_=>aa T) none (λb e _ a=>Bool.rec a (some e) (Nat.beq b d)) c
def kT(e:eZ)(b:Nat)(c:T):aa eZ:=
 @eZ.rec (λ_=>aa eZ) (some (.cons b c .nil)) (λa h f d=>Bool.rec (dB d λg=>some (.cons a h g)) (some (.cons a c f)) (Nat.beq a b)) e
def jJ(a b:Nat):Bool:=Nat.beq (Nat.land (Nat.shiftRight a b) 1) 1
def Env.get(c:Nat)(b:Env)(a:Nat):aa T:=
 Env.casesOn b λe d=>Bool.casesOn (jJ c a) (dt d a) (dt e a)
def Env.set(g:Nat)(e:Env)(a:Nat)(c:T):aa Env:=
 Env.casesOn e λd b=>Bool.casesOn (jJ g a) (some ⟨d,.cons a c b⟩) (dB (kT d a c) λf=>some ⟨f,b⟩)
def Env.dst(c:Nat)(a:Env)(b:aa Tmp)(e:T):aa Env:=
 Option.casesOn b (some a) λd=>a.set c d e
def yN(b:List UInt8):aa (List Nat):=eK (λa=>fF a.toNat) b
def ml:am->aa T
 | .bool a=>some (.bool a)
 | .int b d=>some (.int b d)
 | .string e=>dB (yN e.data.toList) λc=>some (.str c)
 | .pointer none=>some .jz
 | .map none=>some .mL
 | .slice none 0 0=>some (.dq [] false)
 | .nilFunc=>some .j3
 | .nilIface=>some .ka
 |_=>none
def xo:am->aa T
 | .agg a=>dB (eK ml a.toList) λb=>some (.agg b)
 |v=>ml v
def eJ(cx:Ctx)(e:Nat)(b:Env)(f:ah):aa T:=
 Operand.casesOn f (λg=>b.get e g) (λh=>xo h) (λd=>dB (cx.gl d) λa=>some (.iT a)) (λc=>some (.func c []))
def oY(cx:Ctx)(c:Nat)(a:Env)(b:List ah):aa (List T):=eK (eJ cx c a) b
def mR:T->aa Nat
 | .int _ b=>Int.casesOn b (λa=>some a) (λ_=>none)
 |_=>none
def qP(g:U)(c a:T):aa Bool:=
 match g with
 | .int _=>(match c with| .int e d=>(match a with| .int f b=>fy (B5 e f) (some (Pd d b))|_=>none)|_=>none)
 | .bool=>(match c with| .bool d=>(match a with| .bool b=>some (Bool.casesOn d (Bool.casesOn b true false) b)|_=>none)|_=>none)
 | .str=>(match c with| .str d=>(match a with| .str b=>some (SW d b)|_=>none)|_=>none)
 | .ptr _=>(match c with
  | .jz=>(match a with| .jz=>some true| .ptr .. | .iT _=>some false|_=>none)
  | .ptr .. | .iT _=>(match a with| .jz=>some false|_=>none)
  |_=>none)
 | .func=>(match c with
  | .j3=>(match a with| .j3=>some true| .func .. =>some false|_=>none)
  | .func .. =>(match a with| .j3=>some false|_=>none)
  |_=>none)
 | .iface=>(match c with
  | .ka=>(match a with| .ka=>some true| .iface .. =>some false|_=>none)
  | .iface .. =>(match a with| .ka=>some false|_=>none)
  |_=>none)
 |_=>none
def U.plain:U->Bool
 | .int _| .bool| .str=>true
 |_=>false
def eqFields(cx:Ctx)(f:List (Nat×ab)):Nat->List T->List T->aa Bool:=
 @List.rec (Nat×ab) (λ_=>Nat->List T->List T->aa Bool) (λ_ _ _=>some true)
  (λa _ g b d e=>List.casesOn d none λk h=>List.casesOn e none λl i=>fy (Nat.beq a.1 b) (dB (cx.ty a.2) λc=>fy c.u.plain
    (dB (qP c.u k l) λj=>Bool.casesOn j (some false) (g (Nat.succ b) h i)))) f
def xG(f:U)(b:List T):List T->aa Bool:=
 @List.rec T (λ_=>List T->aa Bool) (λa=>List.casesOn a (some true) λ_ _=>none)
  (λg _ c a=>List.casesOn a none λh d=>dB (qP f g h) λe=>Bool.casesOn e (some false) (c d)) b
def Lz(cx:Ctx)(d:Ty)(e f:T):aa Bool:=
 match d.u with
 | .struct h=>(match e with
  | .agg a=>(match f with
   | .agg b=>fy d.cmp (eqFields cx h 0 a b)
   |_=>none)
  |_=>none)
 | .array i g=>(match e with
  | .agg a=>(match f with
   | .agg b=>fy d.cmp (dB (cx.ty g) λc=>fy c.u.plain (fy (Nat.beq c.size 1) (fy (Nat.beq (kc a) i) (xG c.u a b))))
   |_=>none)
  |_=>none)
 |u=>qP u e f
def vz(f g:T)(d:ak->Int->Int->aa T):aa T:=
 match f with
 | .int a b=>(match g with| .int e c=>fy (B5 a e) (d a b c)|_=>none)
 |_=>none
def x7(f g:T)(d:ak->Int->Nat->aa T):aa T:=
 match f with
 | .int a b=>(match g with| .int _ c=>Int.casesOn c (λe=>d a b (min e a.bits)) (λ_=>none)|_=>none)
 |_=>none
def IB(h c:T)(d:Int->Int->Bool)(e:List Nat->List Nat->Bool):aa T:=
 match h with
 | .int f a=>(match c with| .int g b=>fy (B5 f g) (vQ (d a b))|_=>none)
 | .str a=>(match c with| .str b=>vQ (e a b)|_=>none)
 |_=>none
def QU(d e:T):aa T:=
 match d with
 | .str a=>(match e with
  | .str b=>dB (Cv a b) λc=>fy (Nat.ble (kc c) 4294967296) (some (.str c))
  |_=>none)
 |_=>vz d e λf a b=>oS f (a+b)
def binop:BinOp->T->T->aa T
 | .add=>QU
 | .sub=>λd e=>vz d e λc a b=>oS c (a-b)
 | .mul=>λd e=>vz d e λc a b=>oS c (a*b)
 | .quo=>λd e=>vz d e λc a b=>Bool.casesOn (Pd b 0) (oS c (a.tdiv b)) none
 | .rem=>λd e=>vz d e λc a b=>Bool.casesOn (Pd b 0) (wy c (a.tmod b)) none
 | .and=>λd e=>vz d e λc a b=>wy c (c.wrap (BitVec.ofInt c.bits a&&&BitVec.ofInt c.bits b).toNat)
 | .or=>λd e=>vz d e λc a b=>wy c (c.wrap (BitVec.ofInt c.bits a|||BitVec.ofInt c.bits b).toNat)
 | .xor=>λd e=>vz d e λc a b=>wy c (c.wrap (BitVec.ofInt c.bits a^^^BitVec.ofInt c.bits b).toNat)
 | .shl=>λd e=>x7 d e λc a f=>wy c (c.wrap (a*2^f))
 | .shr=>λd e=>x7 d e λc a f=>wy c (a.fdiv (2^f))
 | .lss=>λd e=>IB d e Jq Pb
 | .leq=>λd e=>IB d e (λa b=> !Jq b a) (λa b=> !Pb b a)
 | .gtr=>λd e=>IB d e (λa b=>Jq b a) (λa b=>Pb b a)
 | .geq=>λd e=>IB d e (λa b=> !Jq a b) (λa b=> !Pb a b)
 |_=>λ_ _=>none
def unop:UnOp->T->aa T
 | .neg=>λa=>(match a with| .int c d=>oS c (0-d)|_=>none)
 | .not=>λa=>(match a with| .bool b=>Bool.casesOn b (some (.bool true)) (some (.bool false))|_=>none)
 |_=>λ_=>none
def conv(cx:Ctx)(c:ab)(a:T):aa T:=
 dB (cx.ty c) λb=>match b.u with
  | .int d=>(match a with| .int _ n=>oS d n|_=>none)
  | .str=>(match a with| .str e=>some (.str e)|_=>none)
  |_=>none
def BP(cx:Ctx)(d:ab)(i:T):aa T:=
 dB (cx.ty d) λc=>match c.u with
  | .slice e=>(match i with
   | .str a=>dB (cx.ty e) λh=>(match h.u with
    | .int g=>fy (B5 g .u8) (List.casesOn a (some .fg) λ_ _=>dB (eK (λb=>some (T.int .u8 (.ofNat b))) a) λf=>some (.dq f false))
    |_=>none)
   |_=>none)
  |_=>none
def vq(cx:Ctx)(c:ab)(a:Nat):aa (Nat×ab):=
 dB (cx.ty c) λd=>match d.u with| .struct b=>kW b a|_=>none
def lK(f:Nat->aa (Nat×Nat))(g:List (Nat×T)):List T->aa (List T):=
 @List.rec (Nat×T) (λ_=>List T->aa (List T)) (λa=>some a)
  (λb _ e a=>dB (f b.1) λc=>fy (Nat.beq (kc b.2.cells) c.2) (dB (jY a c.1 b.2.cells) λd=>e d)) g
def oE(h:Nat)(g:List (Nat×T)):List T->aa (List T):=
 @List.rec (Nat×T) (λ_=>List T->aa (List T)) (λa=>some a)
  (λf _ e a=>two f λd b=>fy (Nat.beq (kc b.cells) h) (dB (kf a d b) λc=>e c)) g
def partsOf(cx:Ctx)(e:Nat)(b:Env)(d:List (Nat×ah)):aa (List (Nat×T)):=
 eK (λg=>two g λc f=>dB (eJ cx e b f) λa=>fy a.fT (some (c,a))) d
def jm(cx:Ctx)(b:Nat)(a:Env)(f:aa ah):aa (aa Nat):=
 Option.casesOn f (some none) λd=>dB (eJ cx b a d) λe=>dB (mR e) λc=>some (some c)
def fx(c:aa Nat)(a:Nat):Nat:=Option.casesOn c a λb=>b
def Iz{b:Type}(d:List b)(a c:Nat):aa (List b):=dB (je a d) λe=>takeN (Nat.sub c a) e
def r7(c:List T)(e:Bool)(d a:Nat)(g:aa Nat):aa T:=
 fy (Nat.ble d a) (dB (Iz c d a) λb=>Option.casesOn g
  (List.casesOn b (List.casesOn c (some (.dq [] false)) λ_ _=>some .fg) λ_ _=>some (.dq b (Bool.casesOn e false (Nat.beq a (kc c)))))
  λf=>fy (Nat.beq f a) (List.casesOn b (some (.dq [] false)) λ_ _=>some (.dq b true)))
def un(b c k g:Nat)(h:Bool)(e a:Nat)(j:aa Nat):aa T:=
 fy (Nat.ble e a) (fy (Nat.ble a g) (dB (fF (Nat.add k e)) λf=>dB (fF (Nat.sub a e)) λd=>Option.casesOn j
  (Bool.casesOn h (some (.arr b c f d false)) (fy (Nat.beq a g) (some (.arr b c f d true))))
  λi=>fy (Nat.beq i a) (some (.arr b c f d true))))
def og(m:T)(b a c:aa Nat):aa T:=
 match m with
 | .str e=>Option.casesOn c (fy (Nat.ble (fx b 0) (fx a (kc e))) (dB (Iz e (fx b 0) (fx a (kc e))) λl=>some (.str l))) λ_=>none
 | .dq f d=>r7 f d (fx b 0) (fx a (kc f)) c
 | .fg=>fy (Nat.beq (fx b 0) 0) (fy (Nat.beq (fx a 0) 0) (Option.casesOn c (some .fg) λj=>fy (Nat.beq j 0) (some (.dq [] false))))
 | .arr h i k g d=>un h i k g d (fx b 0) (fx a g) c
 |_=>none
inductive kx where
 |val (v:T) (h:H)
 |call (f:aj) (args:List T)
 deriving Inhabited
def val(a:H)(c:aa T):aa kx:=dB c λb=>some (.val b a)
def iV(d:aa (T×H)):aa kx:=dB d λb=>two b λc a=>some (.val c a)
abbrev Hd:=Ctx->Nat->Env->H->aa kx
def Bk(d:ah):Hd:=λcx c a b=>val b (eJ cx c a d)
def C1(a e f:ah):Hd:=λcx c b d=>
 dB (eJ cx c b a) λa=>match a with
  | .bool g=>Bool.casesOn g (val d (eJ cx c b f)) (val d (eJ cx c b e))
  |_=>none
def vm(cx:Ctx)(d:Ty):Bool:=
 match d.u with
 | .array _ a=>Option.casesOn (cx.ty a) false λc=>(match c.u with| .int b=>B5 b .u8|_=>false)
 |_=>false
def Bo(d:ab):Hd:=λcx _ _ c=>dB (cx.ty d) λa=>Bool.casesOn (vm cx a)
 (iV (c.new (λb=> .ptr b 0 0 0) (kz a.size true [a.jI])))
 (iV (c.new (λb=> .ptr b 0 0 0) (kz 1 true a.zero)))
def K3(f:ah):Hd:=λcx e c d=>dB (eJ cx e c f) λa=>fy a.fT (iV (d.new (λb=> .ptr b 0 0 0) (kz (kc a.cells) true [a])))
def yG(m:ab)(l:af (Nat×ah)):Hd:=λcx k h e=>
 dB (cx.ty m) λc=>dB (partsOf cx k h l.toList) λf=>match c.u with
  | .struct j=>dB (lK (λb=>dB (kW j b) λd=>dB (cx.ty d.2) λn=>some (d.1,n.size)) f c.zero) λa=>val e (some (.agg a))
  | .array _ i=>dB (cx.ty i) λg=>dB (lK (λb=>some (Nat.mul b g.size,g.size)) f c.zero) λa=>val e (some (.agg a))
  |_=>none
def nl(k:ab)(b:Nat)(i:af (Nat×ah)):Hd:=λcx h d g=>
 dB (cx.ty k) λl=>match l.u with
  | .slice e=>dB (cx.ty e) λa=>dB (partsOf cx h d i.toList) λj=>
   fy (Nat.ble 1 a.size)<|fy (Nat.ble (Nat.mul b a.size) 65536) (dB (oE a.size j (om a.jI b)) λf=>
    iV (g.new (λc=> .arr c 0 0 b false) (kz a.size true f)))
  |_=>none
def F4(e:ab)(a:ah):Hd:=λcx d c b=>dB (cx.ty e) λf=>dB (eJ cx d c a) λa=>val b (b.load f a)
def Bh(g:ab)(a i:ah):Hd:=λcx c b e=>
 dB (cx.ty g) λh=>dB (eJ cx c b a) λa=>dB (eJ cx c b i) λd=>fy d.fT (dB (e.store h a d) λf=>some (.val .undef f))
def qj(e:ah):Hd:=λcx d b c=>dB (eJ cx d b e) λa=>match a with
 | .ptr .. | .iT _| .func .. =>some (.val a c)
 |_=>none
def sx(c d:ah)(a b:T):Bool:=
 match a with
 | .ka=>(match b with| .ka=>Region.isConst c||Region.isConst d|_=>true)
 |_=>true
def UD(i:Bool)(j:ab)(f g:ah):Hd:=λcx d c h=>
 dB (cx.ty j) λk=>dB (eJ cx d c f) λa=>dB (eJ cx d c g) λb=>
  fy (sx f g a b) (dB (Lz cx k a b) λe=>val h (vQ (Bool.casesOn i e (!e))))
def K4(f:BinOp)(g h:ah):Hd:=λcx b a e=>
 dB (eJ cx b a g) λc=>dB (eJ cx b a h) λd=>val e (binop f c d)
def Zs(e:UnOp)(f:ah):Hd:=λcx d b c=>dB (eJ cx d b f) λa=>val c (unop e a)
def byteOf(d:T):aa Nat:=match d with
 | .int b c=>fy (B5 b .u8) (Int.casesOn c (λa=>fy (Nat.blt a 256) (some a)) (λ_=>none))
 |_=>none
def EY(cx:Ctx)(d:H)(g:ab)(i:T):aa T:=
 dB (cx.ty g) λf=>match f.u with
  | .slice b=>dB (cx.ty b) λh=>(match h.u with
   | .int e=>fy (B5 e .u8) (dB (d.iy i) λc=>dB (eK byteOf c) λa=>fy (Nat.ble (kc a) 4294967296) (some (.str a)))
   |_=>none)
  |_=>none
def Ju(d c:ab)(h:ah):Hd:=λcx g f b=>dB (cx.ty d) λ_=>dB (eJ cx g f h) λa=>
 dB (cx.ty c) λe=>match e.u with
  | .slice _=>val b (BP cx c a)
  | .str=>(match a with
   | .str _=>val b (conv cx c a)
   |_=>val b (EY cx b d a))
  |_=>val b (conv cx c a)
def yD(b:ab)(g:ah):Hd:=λcx e c d=>dB (cx.ty b) λf=>match f.u with
 | .iface=>none
 |_=>dB (eJ cx e c g) λa=>fy a.fT (val d (some (.iface b a)))
def Bl(e:Fn)(first a:af ah):Hd:=λcx g c f=>match e with
 | .func d=>(match first.toList with
  | []=>dB (oY cx g c a.toList) λb=>val f (some (.func d b))
  |_=>none)
 |_=>none
def ox(i:ab)(a b:ah):Hd:=λcx e d h=>dB (cx.ty i) λj=>match j.u with
 | .slice g=>dB (cx.ty g) λc=>dB (eJ cx e d a) λa=>dB (eJ cx e d b) λb=>dB (mR a) λa=>dB (mR b) λb=>
  fy (Nat.ble 1 c.size)<|fy (Nat.ble 1 c.bytes)<|fy (Nat.ble a b) (fy (Nat.ble (Nat.mul b c.bytes) 70368744177664) (iV (h.new (λf=> .arr f 0 0 a false) (kz c.size (Nat.beq a b) (om c.jI a)))))
 |_=>none
def xp(a b:aa Nat):Bool:=Option.casesOn b true λ_=>Option.casesOn a false λ_=>true
def iQ(cx:Ctx)(f:H)(p:U)(e:T):Bool:=
 match p with
 | .str=>(match e with| .str _=>true|_=>false)
 | .slice d=>Option.casesOn (cx.ty d) false λa=>(match e with
  | .dq j _=>fits a.size j
  | .fg=>true
  | .arr b _ _ _ _=>Option.casesOn (f.get b) false λc=>Nat.beq c.sz a.size
  |_=>false)
 | .array n d=>Option.casesOn (cx.ty d) false λa=>(match e with
  | .ptr b h k m=>Option.casesOn (f.get b) false λc=>iE.casesOn c λo i _ exact l g=>
   Nat.beq o a.size&&Nat.beq i h&&Nat.beq k 0&&Nat.beq m 0&&exact&& !l&&Nat.beq (kc g) n
  |_=>false)
 |_=>false
def asSlice(e:U)(a:T):T:=match e with
 | .array d _=>(match a with| .ptr b c _ _=> .arr b c 0 d false|_=>a)
 |_=>a
def Bi(i:ab)(e:ah)(f b d:aa ah):Hd:=λcx c a g=>dB (cx.ty i) λh=>
 dB (eJ cx c a e) λe=>fy (iQ cx g h.u e)<|dB (jm cx c a f) λf=>dB (jm cx c a b) λb=>dB (jm cx c a d) λd=>fy (xp b d) (val g (og (asSlice h.u e) f b d))
def oz(n:ab)(a:ah)(i:Nat):Hd:=λcx m g c=>dB (vq cx n i) λb=>dB (eJ cx m g a) λa=>match a with
 | .ptr d h j k=>dB (fF (Nat.add k b.1)) λl=>some (.val (.ptr d h j l) c)
 | .iT e=>dB (je b.1 e) λf=>some (.val (.iT f) c)
 |_=>none
def yF(i:ab)(a:ah)(e:Nat):Hd:=λcx g d f=>
 dB (vq cx i e) λb=>dB (cx.ty b.2) λj=>dB (eJ cx g d a) λa=>match a with
  | .agg c=>dB (je b.1 c) λh=>val f (jK j h)
  |_=>none
def kG(a:H)(f:Ty)(l:T)(b:Nat):aa kx:=
 match l with
 | .dq h _=>dB (kW h b) λg=>fy (Nat.beq (kc g.cells) f.size) (some (.val (.iT g.cells) a))
 | .arr c e k j _=>fy (Nat.blt b j) (dB (a.get c) λd=>fy (Nat.beq d.sz f.size)<|fy (Nat.beq d.ep e) (dB (fF (Nat.add k b)) λi=>some (.val (.ptr c e i 0) a)))
 |_=>none
def nT(a:H)(m:Nat)(d:Ty)(n:T)(b:Nat):aa kx:=
 fy (Nat.blt b m) (match n with
  | .ptr c e f g=>dB (a.get c) λh=>Bool.casesOn (Nat.beq h.sz d.size)
   (dB (fF (Nat.add g (Nat.mul b d.size))) λl=>some (.val (.ptr c e f l) a))
   (fy (Nat.beq g 0) (dB (fF (Nat.add f b)) λk=>some (.val (.ptr c e k 0) a)))
  | .iT i=>dB (je (Nat.mul b d.size) i) λj=>some (.val (.iT j) a)
  |_=>none)
def oy(j:ab)(a c:ah):Hd:=λcx h e f=>
 dB (cx.ty j) λk=>dB (eJ cx h e a) λa=>dB (eJ cx h e c) λc=>dB (mR c) λg=>match k.u with
  | .slice b=>dB (cx.ty b) λd=>kG f d a g
  | .array i b=>dB (cx.ty b) λd=>nT f i d a g
  |_=>none
def yC(n:ab)(a c:ah):Hd:=λcx f d e=>
 dB (cx.ty n) λo=>dB (eJ cx f d a) λa=>dB (eJ cx f d c) λc=>dB (mR c) λb=>match o.u with
  | .str=>(match a with| .str m=>dB (kW m b) λh=>val e (some (.int .u8 (.ofNat h)))|_=>none)
  | .array k j=>(match a with
   | .agg i=>dB (cx.ty j) λg=>fy (Nat.blt b k) (dB (je (Nat.mul b g.size) i) λl=>val e (jK g l))
   |_=>none)
  |_=>none
def sS(g:ah)(c:Nat):Hd:=λcx d a b=>dB (eJ cx d a g) λe=>match e with| .tuple f=>val b (kW f c)|_=>none
def Bj(g:ah):Hd:=λcx d b c=>dB (eJ cx d b g) λf=>match f with
 | .str e=>iV (c.new (λa=> .iter a) ⟨1,0,0,true,true,[.str e,.int .i64 0]⟩)
 |_=>none
def xw(d:ab)(f:ah):Hd:=λcx c a b=>dB (cx.ty d) λe=>match e.u with
 | .str=>Bj f cx c a b
 |_=>none
def uy(c:List Nat)(b:Nat):aa (Nat×Nat):=dB (kW c b) λa=>Bool.casesOn (Nat.blt a 128) (Bool.casesOn (Nat.blt a 256) (some (65533,1)) (some (Utf8.decode ⟨(c.map UInt8.ofNat).toArray⟩ b))) (some (a,1))
def uF(i:ah):Hd:=λcx j g c=>(dB (eJ cx j g i) λm=>match m with
 | .iter e=>dB (c.get e) λa=>fy a.it (match a.dO with
  | [.str d,.int _ (.ofNat b)]=>Bool.casesOn (Nat.blt b (kc d)) (some (.val (.tuple [.bool false]) c))
   (dB (uy d b) λl=>two l λf wd=>dB (fF (Nat.add b wd)) λk=>dB (fF (Nat.succ a.ver)) λn=>
     dB (c.put e ⟨a.sz,a.ep,n,a.exact,true,[.str d,.int .i64 (.ofNat k)]⟩) λh=>
      some (.val (.tuple [.bool true,.int .i64 (.ofNat b),.int .i32 (.ofNat f)]) h))
  |_=>none)
 |_=>none)
def F2(d:ah)(c:Bool):Hd:=λcx e a b=>Bool.casesOn c none (uF d cx e a b)
def Lm(cx:Ctx)(a:H)(h:List ab)(c:T):aa kx:=
 dB (kW h 0) λg=>dB (cx.ty g) λi=>match i.u with
  | .str=>(match c with
   | .str f=>val a (dB (fF (kc f)) λb=>some (.int .i64 (.ofNat b)))
   |_=>none)
  | .slice _=>(match c with
   | .dq d _=>val a (dB (fF (kc d)) λb=>some (.int .i64 (.ofNat b)))
   | .fg=>val a (some (.int .i64 0))
   | .arr _ _ _ e _=>val a (some (.int .i64 (.ofNat e)))
   |_=>none)
  | .array b _=>val a (some (.int .i64 (.ofNat b)))
  |_=>none
def oF(cx:Ctx)(b:ab):aa Ty:=
 dB (cx.ty b) λc=>match c.u with| .slice a=>cx.ty a|_=>none
def mf(cx:Ctx)(d:H)(e:ab)(a:T):aa (List T):=
 dB (cx.ty e) λf=>match f.u with
  | .str=>(match a with| .str b=>eK (λc=>some (T.int .u8 (.ofNat c))) b|_=>none)
  | .slice _=>d.iy a
  |_=>none
def iu(cx:Ctx)(b:H)(e f:ab)(d g:T):aa kx:=
 dB (oF cx e) λa=>dB (mf cx b f g) λc=>fy (fits a.size c) (iV (b.append a.size a.bytes d c))
def BS(cx:Ctx)(a:H)(n:ab)(q:T):aa kx:=
 dB (oF cx n) λg=>match q with
  | .dq b _=>List.casesOn b (some (.val .undef a)) λ_ _=>none
  | .fg=>some (.val .undef a)
  | .arr c j m e _=>Nat.casesOn e (some (.val .undef a)) λ_=>dB (a.get c) λh=>iE.casesOn h λf d o exact l i=>
   fy (Nat.beq d j)<|fy (Nat.beq f g.size) (Bool.casesOn l
    (dB (jY i m (om g.jI e)) λb=>dB (fF (Nat.succ o)) λp=>
      dB (a.put c ⟨f,d,p,exact,false,b⟩) λk=>some (.val .undef k)) none)
  |_=>none
def kH:Builtin->Ctx->H->List ab->List T->aa kx
 | .clear=>λcx b f a=>(match a with| [c]=>(match f with| [h]=>BS cx b h c|_=>none)|_=>none)
 | .len=>λcx b f a=>(match a with| [c]=>Lm cx b f c|_=>none)
 | .append=>λcx b f a=>(match a with| [j,c]=>(match f with| [h,k]=>iu cx b h k j c|_=>none)|_=>none)
 | .min=>λ_ b _ a=>(match a with| [c,i]=>val b (vz c i λg d e=>wy g (Bool.casesOn (Jq e d) d e))|_=>none)
 | .max=>λ_ b _ a=>(match a with| [c,i]=>val b (vz c i λg d e=>wy g (Bool.casesOn (Jq d e) d e))|_=>none)
 |_=>λ_ _ _ _=>none
def Bn(a:Call):Hd:=λcx e d h=>dB (oY cx e d a.args.toList) λc=>match a.callee with
 | .builtin f=>kH f cx h a.argTypes.toList c
 | .value b=>dB (eJ cx e d b) λj=>(match j with
  | .func b g=>dB (Cv c g) λi=>some (.call b i)
  |_=>none)
 |_=>none
def iO:Op->Hd
 | .move a=>Bk a
 | .assign a=>Bk a
 | .pick d c g=>C1 d c g
 | .alloc b=>Bo b
 | .box _ a=>K3 a
 | .build b i=>yG b i
 | .buildSlice b q i=>nl b q i
 | .load b c=>F4 b c
 | .store b c a=>Bh b c a
 | .nilCheck a=>qj a
 | .binOp f b a j _=>(match f with| .eql=>UD false b a j| .neq=>UD true b a j|_=>K4 f a j)
 | .unOp f _ a=>Zs f a
 | .convert s k a=>Ju s k a
 | .makeInterface b a=>yD b a
 | .makeFunc l c g=>Bl l c g
 | .makeSlice b n d=>ox b n d
 | .slice b a o m p=>Bi b a o m p
 | .fieldAddr b a h=>oz b a h
 | .field b a h=>yF b a h
 | .indexAddr b a e=>oy b a e
 | .index b a e=>yC b a e
 | .extract a e=>sS a e
 | .makeMap .. =>λ_ _ _ _=>none
 | .lookup .. =>λ_ _ _ _=>none
 | .mapUpdate .. =>λ_ _ _ _=>none
 | .range b a=>xw b a
 | .next it r=>F2 it r
 | .entry _=>λ_ _ _ _=>none
 | .call d=>Bn d
 |_=>λ_ _ _ _=>none
def zq(e:ai):TypeDesc->aa U
 | .int c=>some (.int c)
 | .bool=>some .bool
 | .string=>some .str
 | .slice a=>some (.slice a)
 | .array g a=>some (.array g a)
 | .struct d=>if d.toList.all (λb=>(e.info? b.type).any λf=> !(f.size==0))then some (.struct (d.toList.map λb=>(b.offset,b.type)))else none
 | .pointer a=>some (.ptr a)
 | .map c a=>some (.map c a)
 | .func _ _ _=>some .func
 | .interface _=>some .iface
 |_=>some .other
def rS(a:TypeDesc)(b:am):Bool:=
 match a,b with
 | .struct _,.agg _| .array _ _,.agg _=>true
 | .struct _,_| .array _ _,_|_,.agg _=>false
 |_,_=>true
def Jo:TypeDesc->Bool
 | .struct b=>b.toList.all λa=>a.name != "_"
 |_=>true
def Tq(a:ai)(c:ab)(e:Bool):aa Ty:=
 dB (a.info? c) λb=>dB (a.underlying c) λd=>dB b.zero λf=>dB (eK ml f.cells.toList) λg=>dB (zq a d) λh=>
  fy (rS d f) (fy (Nat.beq (kc g) b.size) (fy (Bool.casesOn e true (!a.stoodInHeld c&& !a.eqGuardType a.depth c&&Jo d)) (some ⟨h,b.size,b.bytes,e,g⟩)))
abbrev ir:=aj->List T->H->aa (T×H)
def jU(i:af Oper)(g:Nat)(d:Env)(e:aa (Nat×Bool)):aa Bool:=
 Option.casesOn e (some true) λj=>two j λf a=>dB (dB (dB (kW i.toList f) λh=>h.dst) λc=>d.get g c) λk=>
  match k with
  | .bool b=>some (Bool.casesOn b (Bool.casesOn a true false) a)
  |_=>some false
def kK(cx:Ctx)(call:ir)(c:Nat)(k:af Oper)(a:Env)(e:H)(d:Oper):aa (Env×H):=
 dB (jU k c a d.guard) λm=>Bool.casesOn m
  (dB (a.dst c d.dst .undef) λb=>some (b,e))
  (dB (iO d.op cx c a e) λi=>kx.casesOn i
    (λg f=>dB (a.dst c d.dst g) λb=>some (b,f))
    (λj h=>dB (call j h e) λl=>two l λg f=>dB (a.dst c d.dst g) λb=>some (b,f)))
def j2(cx:Ctx)(call:ir)(g:Nat)(i:af Oper)(f:List Oper):Env->H->aa (Env×H):=
 @List.rec Oper (λ_=>Env->H->aa (Env×H)) (λa b=>some (a,b))
  (λh _ e a b=>dB (kK cx call g i a b h) λj=>two j λc d=>e c d) f
def dE:T->aa Nat
 | .ptr a _ _ _=>some a
 | .arr a _ _ _ _=>some a
 | .map a=>some a
 |_=>none
def fk(cx:Ctx)(d:Nat)(b:Env)(c:H)(e:Op):aa Nat:=
 match e with
 | .load _ a=>dB (eJ cx d b a) dE
 | .indexAddr _ a _=>dB (eJ cx d b a) dE
 | .slice _ a _ _ _=>dB (eJ cx d b a) dE
 | .convert _ _ a=>dB (eJ cx d b a) dE
 | .lookup _ a _ _=>dB (eJ cx d b a) dE
 | .makeMap _ _=>some c.size
 | .alloc _=>some c.size
 | .box _ _=>some c.size
 | .buildSlice _ _ _=>some c.size
 | .makeSlice _ _ _=>some c.size
 |_=>none
def fZ:Op->Bool
 | .store .. =>true
 | .call b=>(match b.callee with
  | .builtin a=>(match a with| .len| .min| .max=>false|_=>true)
  |_=>true)
 | .next .. =>true
 | .range .. =>true
 | .entry .. =>true
 | .mapUpdate .. =>true
 |_=>false
structure Seen where
 ly:List (Nat×Nat)
 kt:List (Nat×H×H)
def vy(c:List Nat)(d:List Edge):Nat:=
 d.foldr (λa b=>Bool.casesOn (Region.binds .any a) b (Nat.lor b (Nat.lor (Nat.shiftLeft 1 a.on) (c.getD a.on 0)))) 0
def IJ:List Oper->List Nat->List Nat
 | [],a=>a
 |o::b,a=>IJ b (a++[vy a o.after.toList])
def jg(c:af Oper)(a b:Nat):Bool:=((IJ c.toList []).getD b 0).testBit a
def dY(b c:H)(a:Nat):Bool:=
 Option.casesOn (b.get a) true λd=>Option.casesOn (c.get a) false λe=>Nat.beq d.ver e.ver
def nh(e:af Oper)(c b:Nat)(d:List (Nat×H×H)):Bool:=
 vH (λa=>Bool.casesOn (dY a.2.1 a.2.2 b) (jg e a.1 c) true) d
def v8(f:af Oper)(d:Nat)(b c:H)(e:List (Nat×Nat)):Bool:=
 vH (λa=>Bool.casesOn (dY b c a.2) (jg f a.1 d) true) e
def pR(cx:Ctx)(e:Nat)(g:af Oper)(c:Nat)(b:Env)(d:List (Nat×H×H))(f:Op):Bool:=
 match f with
 | .store _ h _=>Option.casesOn (dB (eJ cx e b h) dE) true λa=>nh g c a d
 |_=>true
def jx(cx:Ctx)(call:ir)(j:Nat)(g:af Oper)(l:List Oper):Nat->Seen->Env->H->aa (Env×H):=
 @List.rec Oper (λ_=>Nat->Seen->Env->H->aa (Env×H)) (λ_ _ c d=>some (c,d))
  (λf _ i a b c d=>dB (kK cx call j g c d f) λm=>two m λh e=>
    dB (jU g j c f.guard) λn=>Bool.casesOn n (i (Nat.succ a) b h e)
     (Bool.casesOn (fZ f.op)
       (Option.casesOn (fk cx j c d f.op) (i (Nat.succ a) b h e)
         λk=>fy (nh g a k b.kt) (i (Nat.succ a) ⟨(a,k)::b.ly,b.kt⟩ h e))
       (fy (v8 g a d e b.ly) (fy (pR cx j g a c b.kt f.op) (i (Nat.succ a) ⟨b.ly,(a,d,e)::b.kt⟩ h e))))) l
inductive Ex where
 |normal|exit (id:Nat)|ret
 deriving Inhabited
abbrev Out:=aa (Ex×Env×H)
def three{a:Type}(e:Ex×Env×H)(c:Ex->Env->H->a):a:=Prod.casesOn e λg f=>Prod.casesOn f λb d=>c g b d
def ni(c:Env->H->Out)(h:Nat):Env->H->Out:=
 @Nat.rec (λ_=>Env->H->Out) (λ_ _=>none)
  (λ_ g d e=>dB (c d e) λi=>three i λj a b=>Ex.casesOn j (g a b) (λf=>some (.exit f,a,b)) (some (.ret,a,b))) h
def Ja(cx:Ctx)(call:ir)(g:Nat)(a:af Oper)(i:Bool)(j:Env)(f:H):Out:=
 Env.casesOn j λh _=>Bool.casesOn i
  (dB (j2 cx call g a a.toList ⟨h,.nil⟩ f) λd=>two d λb c=>some (.normal,Env.casesOn b λe _=>⟨e,.nil⟩,c))
  (dB (jx cx call g a a.toList 0 ⟨[],[]⟩ ⟨h,.nil⟩ f) λd=>two d λb c=>some (.normal,Env.casesOn b λe _=>⟨e,.nil⟩,c))
def AF(c d:Env->H->Out)(e:Env)(f:H):Out:=
 dB (c e f) λh=>three h λi a b=>Ex.casesOn i (d a b) (λg=>some (.exit g,a,b)) (some (.ret,a,b))
def Gy(cx:Ctx)(f:Nat)(e:ah)(c d:Env->H->Out)(a:Env)(b:H):Out:=
 dB (eJ cx f a e) λh=>match h with
  | .bool g=>Bool.casesOn g (d a b) (c a b)
  |_=>none
def wV(id:Nat)(d:Env->H->Out)(e:Env)(f:H):Out:=
 dB (d e f) λg=>three g λh a b=>Ex.casesOn h (some (.normal,a,b)) (λc=>Bool.casesOn (Nat.beq c id) (some (.exit c,a,b)) (some (.normal,a,b))) (some (.ret,a,b))
def jy(cx:Ctx)(call:ir)(c a:Nat):Code->Env->H->Out
 | .skip=>λd e=>some (.normal,d,e)
 | .region _ i h=>Ja cx call a i h
 | .seq f b=>AF (jy cx call c a f) (jy cx call c a b)
 | .cond g f b=>Gy cx a g (jy cx call c a f) (jy cx call c a b)
 | .block id b=>wV id (jy cx call c a b)
 | .loop b=>ni (jy cx call c a b) c
 | .exit id=>λd e=>some (.exit id,d,e)
 | .ret=>λd e=>some (.ret,d,e)
 |_=>λ_ _=>none
def lz(g:Nat)(h:Nat):Nat->List T->aa eZ:=
 @Nat.rec (λ_=>Nat->List T->aa eZ) (λ_ _=>some .nil)
  (λ_ c a f=>dB (fF (Nat.succ a)) λb=>List.casesOn f
    (Bool.casesOn (jJ g a) (c b []) (dB (c b []) λd=>some (.cons a .undef d)))
    λe i=>dB (c b i) λd=>some (.cons a e d)) h
def kq(cx:Ctx)(c:Nat)(b:Env)(e:H)(f:List ResultVar):aa (List T):=
 eK (λh=>ResultVar.casesOn h (λa=>b.get c a) (λd a=>dB (b.get c d) λg=>dB (cx.ty a) λi=>e.load i g)) f
def uJ(b:Nat)(e:List Nat):Nat->aa Int:=
 @List.rec Nat (λ_=>Nat->aa Int) (λ_=>some (.negSucc 0))
  (λf _ d a=>Bool.casesOn (Nat.beq f b) (dB (fF (Nat.succ a)) λc=>d c) (some (.ofNat a))) e
def AP(f:Prim)(b:List T)(a:H):aa (T×H):=
 match f with
 | .mY=>(match b with
  | [.str g,.int .u8 (.ofNat c)]=>fy (Nat.blt c 256) (dB (uJ c g 0) λe=>some (.int .i64 e,a))
  |_=>none)
 | .clone h bytes=>(match b with
  | [i]=>dB (a.iy i) λd=>List.casesOn d (some (.dq [] false,a)) λ_ _=>a.iA h bytes [] d
  |_=>none)
def hU(a:List T):T:=match a with| [b]=>b|_=> .tuple a
def rG(cx:Ctx)(call:ir)(l:Nat)(a:Func)(c:Nat)(g:Bool)(i:List T)(m:H):aa (T×H):=
 Option.casesOn a.body none λj=>H.casesOn m λd h k=>
  dB (lz c a.ntmps 0 i) λo=>
  dB (jy cx call l c j ⟨o,.nil⟩ ⟨d,d,k⟩) λn=>three n λp f b=>Ex.casesOn p
   (dB (kq cx c f b a.results.toList) λe=>qH g d h (hU e) b)
   (λ_=>none)
   (dB (kq cx c f b a.results.toList) λe=>qH g d h (hU e) b)
end
end Go.TI
