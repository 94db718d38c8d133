/- Texts TiDefs to TiDefs. -/
import GoSem.Step
set_option linter.all false
namespace Go.TI
theorem dq{p:Prop}(h:p:=by omega):p:=h
theorem dt{p:Prop}(h:p:=by simp):p:=h
theorem du{p:Prop}(h:p:=by (simp;omega)):p:=h
theorem dw{p:Prop}(h:p:=by (simp only;omega)):p:=h
theorem dx{p:Prop}(h:p:=by decide):p:=h
end Go.TI
namespace Go.TI
abbrev aa:=@Option
abbrev ab:=@TypeId
abbrev af:=@Array
abbrev ah:=@Operand
abbrev ai:=@Program
abbrev aj:=@FuncId
abbrev ak:=@IntKind
abbrev am:=@Value
theorem ao:type_of% @if_neg:=@if_neg
theorem aq:type_of% @if_pos:=@if_pos
theorem ar:type_of% @Option.some.injEq:=@Option.some.injEq
theorem au:type_of% @Nat.le_refl:=@Nat.le_refl
theorem aw:type_of% @Nat.zero_le:=@Nat.zero_le
theorem ax:type_of% @List.mem_of_getElem?:=@List.mem_of_getElem?
theorem ay:type_of% @Prod.mk.injEq:=@Prod.mk.injEq
theorem az:type_of% @List.getElem?_eq_getElem:=@List.getElem?_eq_getElem
theorem aB:type_of% @Bool.and_eq_true:=@Bool.and_eq_true
theorem aC:type_of% @Nat.eq_of_beq_eq_true:=@Nat.eq_of_beq_eq_true
theorem aD:type_of% @Nat.lt_or_ge:=@Nat.lt_or_ge
theorem aF:type_of% @List.getElem_mem:=@List.getElem_mem
theorem aG:type_of% @Nat.blt_eq:=@Nat.blt_eq
theorem aH:type_of% @List.length_map:=@List.length_map
theorem aI:type_of% @List.drop_eq_getElem_cons:=@List.drop_eq_getElem_cons
theorem aJ:type_of% @List.cons.injEq:=@List.cons.injEq
theorem aK:type_of% @List.getElem?_eq_none:=@List.getElem?_eq_none
theorem aL:type_of% @List.take_length:=@List.take_length
theorem aM:type_of% @decide_eq_false:=@decide_eq_false
theorem aO:type_of% @decide_eq_true_eq:=@decide_eq_true_eq
theorem aP:type_of% @Prod.ext:=@Prod.ext
theorem aQ:type_of% @List.getElem?_map:=@List.getElem?_map
theorem aR:type_of% @List.map_cons:=@List.map_cons
theorem aS:type_of% @Nat.le_trans:=@Nat.le_trans
theorem aT:type_of% @decide_eq_true:=@decide_eq_true
theorem aU:type_of% @List.take_succ_eq_append_getElem:=@List.take_succ_eq_append_getElem
theorem aV:type_of% @Array.getD_eq_getD_getElem?:=@Array.getD_eq_getD_getElem?
theorem aW:type_of% @Nat.mul_le_mul_right:=@Nat.mul_le_mul_right
theorem aY:type_of% @List.eq_nil_of_length_eq_zero:=@List.eq_nil_of_length_eq_zero
theorem aZ:type_of% @List.length_cons:=@List.length_cons
theorem bg:type_of% @Ne.symm:=@Ne.symm
theorem bh:type_of% @List.length_append:=@List.length_append
theorem bj:type_of% @decide_eq_false_iff_not:=@decide_eq_false_iff_not
theorem bm:type_of% @Nat.le_of_ble_eq_true:=@Nat.le_of_ble_eq_true
theorem bo:type_of% @if_true:=@if_true
theorem bp:type_of% @Nat.le_of_lt:=@Nat.le_of_lt
theorem br:type_of% @if_false:=@if_false
theorem bw:type_of% @List.mem_of_mem_take:=@List.mem_of_mem_take
theorem bA:type_of% @List.mem_of_mem_drop:=@List.mem_of_mem_drop
theorem bD:type_of% @Bool.eq_iff_iff:=@Bool.eq_iff_iff
theorem bE:type_of% @Nat.lt_of_lt_of_le:=@Nat.lt_of_lt_of_le
theorem bF:type_of% @List.take_of_length_le:=@List.take_of_length_le
theorem bG:type_of% @List.getElem?_drop:=@List.getElem?_drop
theorem bI:type_of% @Bool.or_eq_false_iff:=@Bool.or_eq_false_iff
theorem bJ:type_of% @List.getElem?_take:=@List.getElem?_take
theorem bK:type_of% @Bool.true_and:=@Bool.true_and
theorem bL:type_of% @Bool.not_eq_true':=@Bool.not_eq_true'
theorem bM:type_of% @congrArg:=@congrArg
theorem bO:type_of% @List.eq_of_mem_replicate:=@List.eq_of_mem_replicate
theorem bP:type_of% @Bool.or_eq_true:=@Bool.or_eq_true
theorem bQ:type_of% @List.getElem?_set:=@List.getElem?_set
theorem bR:type_of% @List.map_set:=@List.map_set
theorem bU:type_of% @Bool.not_eq_false':=@Bool.not_eq_false'
theorem bV:type_of% @List.mem_or_eq_of_mem_set:=@List.mem_or_eq_of_mem_set
theorem bW:type_of% @Nat.ble_eq_true_of_le:=@Nat.ble_eq_true_of_le
theorem bX:type_of% @Nat.succ_mul:=@Nat.succ_mul
theorem bY:type_of% @Nat.add_mul:=@Nat.add_mul
theorem bZ:type_of% @Array.length_toList:=@Array.length_toList
theorem cd:type_of% @Bool.false_eq_true:=@Bool.false_eq_true
theorem cg:type_of% @List.append_nil:=@List.append_nil
theorem ci:type_of% @List.mem_cons:=@List.mem_cons
theorem cj:type_of% @Bool.eq_false_iff:=@Bool.eq_false_iff
theorem cm:type_of% @List.map_nil:=@List.map_nil
theorem co:type_of% @List.getElem?_append_left:=@List.getElem?_append_left
theorem cq:type_of% @Array.ext':=@Array.ext'
theorem cr:type_of% @List.append_assoc:=@List.append_assoc
theorem cu:type_of% @List.getElem?_append_right:=@List.getElem?_append_right
theorem cw:type_of% @Nat.min_eq_left:=@Nat.min_eq_left
theorem cz:type_of% @List.mem_cons_of_mem:=@List.mem_cons_of_mem
theorem cA:type_of% @List.all_cons:=@List.all_cons
theorem cB:type_of% @Nat.add_assoc:=@Nat.add_assoc
theorem cC:type_of% @List.getElem?_set_ne:=@List.getElem?_set_ne
theorem cD:type_of% @List.flatMap_cons:=@List.flatMap_cons
theorem cE:type_of% @Int.toNat_natCast:=@Int.toNat_natCast
theorem cF:type_of% @List.all_eq_true:=@List.all_eq_true
theorem cG:type_of% @List.cons_append:=@List.cons_append
theorem cH:type_of% @List.map_map:=@List.map_map
theorem cI:type_of% @Bool.not_true:=@Bool.not_true
theorem cJ:type_of% @Option.map_some:=@Option.map_some
theorem cK:type_of% @Nat.ne_of_beq_eq_false:=@Nat.ne_of_beq_eq_false
theorem cM:type_of% @List.set_cons_zero:=@List.set_cons_zero
theorem cN:type_of% @List.take_append_drop:=@List.take_append_drop
theorem cO:type_of% @List.length_set:=@List.length_set
theorem cP:type_of% @List.getElem?_of_mem:=@List.getElem?_of_mem
theorem cQ:type_of% @Array.getElem?_eq_none:=@Array.getElem?_eq_none
theorem cR:type_of% @Nat.lt_trichotomy:=@Nat.lt_trichotomy
theorem cS:type_of% @List.drop_drop:=@List.drop_drop
theorem cT:type_of% @List.length_nil:=@List.length_nil
theorem cU:type_of% @List.ext_getElem?:=@List.ext_getElem?
theorem cV:type_of% @List.take_append_of_le_length:=@List.take_append_of_le_length
theorem cW:type_of% @List.mem_append_left:=@List.mem_append_left
theorem cX:type_of% @List.set_cons_succ:=@List.set_cons_succ
theorem cY:type_of% @Nat.lt_succ_self:=@Nat.lt_succ_self
theorem cZ:type_of% @List.flatMap_nil:=@List.flatMap_nil
theorem c8:type_of% @List.not_mem_nil:=@List.not_mem_nil
theorem da:type_of% @List.replicate_succ:=@List.replicate_succ
theorem db:type_of% @List.toList_toArray:=@List.toList_toArray
theorem dc:type_of% @List.getElem?_cons_succ:=@List.getElem?_cons_succ
theorem df:type_of% @List.mem_cons_self:=@List.mem_cons_self
theorem dg:type_of% @List.pairwise_cons:=@List.pairwise_cons
theorem dh:type_of% @List.drop_length:=@List.drop_length
theorem dj:type_of% @List.getElem?_set_self:=@List.getElem?_set_self
theorem dp:type_of% @List.mem_append_right:=@List.mem_append_right
end Go.TI
namespace Go.TI
noncomputable section
inductive T where
 |undef
 |bool (b:Bool)
 |int (k:ak) (n:Int)
 |str (s:List Nat)
 |ka
 |ptr (b ep i j:Nat)
 |ji (cells:List T)
 |dF (em:List T) (full:Bool)
 |fR
 |arr (b ep o l:Nat) (full:Bool)
 |func (f:aj) (captured:List T)
 |kv
 |ku
 |iface (t:ab) (v:T)
 |iter (b:Nat)
 |map (b:Nat)
 |nh
 |agg (cells:List T)
 |tuple (vs:List T)
 deriving Inhabited
def T.cells:T->List T
 | .agg a=>a
 |v=>[v]
def T.gJ:T->Bool
 | .undef| .tuple _=>false
 |_=>true
structure iN where
 sz:Nat
 ep:Nat
 ver:Nat
 exact:Bool
 it:Bool
 em:List T
 deriving Inhabited
structure H where
 size:Nat
 low:Nat
 fc:List iN
 deriving Inhabited
inductive U where
 |int (k:ak)|bool|str|slice (e:ab)|array (n:Nat) (e:ab)|map (k e:ab)|struct (fs:List (Nat×ab))|ptr (e:ab)|func|iface|other
 deriving Inhabited
structure Ty where
 u:U
 size:Nat
 bytes:Nat
 cmp:Bool
 zero:List T
 deriving Inhabited
inductive Prim where
 |nl
 |clone (sz bytes:Nat)
 deriving Inhabited
structure Fun where
 fn:Func
 mask:Nat
 kE:Bool
 adU:aa Prim
 deriving Inhabited
structure Ctx where
 ty:ab->aa Ty
 fn:aj->aa Fun
 gl:Nat->aa (List T)
def dM{a b:Type}(d:aa a)(c:a->aa b):aa b:=Option.casesOn d none c
def fT{a:Type}(b:Bool)(c:aa a):aa a:=Bool.casesOn b none c
def two{a b c:Type}(e:a×b)(d:a->b->c):c:=Prod.casesOn e d
def lM{a:Type}(c:List a):Nat->aa a:=
 @List.rec a (λ_=>Nat->aa a) (λ_=>none) (λf _ b e=> @Nat.rec (λ_=>aa a) (some f) (λd _=>b d) e) c
def kr{a:Type}(d:List a):Nat->a->aa (List a):=
 @List.rec a (λ_=>Nat->a->aa (List a)) (λ_ _=>none)
  (λi g c f b=> @Nat.rec (λ_=>aa (List a)) (some (b::g)) (λe _=>dM (c e b) λh=>some (i::h)) f) d
def takeN{a:Type}(d:Nat):List a->aa (List a):=
 @Nat.rec (λ_=>List a->aa (List a)) (λ_=>some [])
  (λ_ b c=> @List.rec a (λ_=>aa (List a)) none (λg e _=>dM (b e) λf=>some (g::f)) c) d
def jJ{a:Type}(d:Nat):List a->aa (List a):=
 @Nat.rec (λ_=>List a->aa (List a)) (λb=>some b)
  (λ_ c b=> @List.rec a (λ_=>aa (List a)) none (λ_ e _=>c e) b) d
def kC{a:Type}(c:List a):Nat:= @List.rec a (λ_=>Nat) 0 (λ_ _ b=>Nat.succ b) c
def Db{a:Type}(e f:List a):aa (List a):=
 @List.rec a (λ_=>aa (List a)) (some f) (λd _ b=>dM b λc=>some (d::c)) e
def fD{a b:Type}(c:a->aa b)(e:List a):aa (List b):=
 @List.rec a (λ_=>aa (List b)) (some []) (λg _ d=>dM (c g) λh=>dM d λf=>some (h::f)) e
def oI{a:Type}(d:a)(c:Nat):List a:= @Nat.rec (λ_=>List a) [] (λ_ b=>d::b) c
def wt{a:Type}(b:a->Bool)(d:List a):Bool:= @List.rec a (λ_=>Bool) true (λe _ c=>Bool.rec false c (b e)) d
def gh(b:Nat):aa Nat:=Nat.casesOn b (some 0) (λa=>some (Nat.succ a))
def JZ(c:Int):aa Int:=
 Int.casesOn c (λa=>Nat.casesOn a (some (.ofNat 0)) (λb=>some (.ofNat (Nat.succ b)))) (λa=>Nat.casesOn a (some (.negSucc 0)) (λb=>some (.negSucc (Nat.succ b))))
def wZ(a:ak)(c:Int):aa T:=dM (JZ c) λb=>some (.int a b)
def wz(a:Bool):aa T:=Bool.casesOn a (some (.bool false)) (some (.bool true))
def kNo:ak->Nat
 | .i8=>0| .i16=>1| .i32=>2| .i64=>3| .u8=>4| .u16=>5| .u32=>6| .u64=>7
def CM(a b:ak):Bool:=Nat.beq (kNo a) (kNo b)
def J7(d c:Int):Bool:=Int.casesOn d (λa=>Int.casesOn c (λb=>Nat.blt a b) (λ_=>false)) (λa=>Int.casesOn c (λ_=>true) (λb=>Nat.blt b a))
def Qg(d c:Int):Bool:=Int.casesOn d (λa=>Int.casesOn c (λb=>Nat.beq a b) (λ_=>false)) (λa=>Int.casesOn c (λ_=>false) (λb=>Nat.beq a b))
def Jx(k:ak)(a:Int):Int:=
 match k with
 | .i64=>Int.casesOn a (λb=>Bool.casesOn (Nat.ble b 9223372036854775807) (IntKind.i64.wrap a) a) (λb=>Bool.casesOn (Nat.ble b 9223372036854775807) (IntKind.i64.wrap a) a)
 |k=>k.wrap a
def pi(a:ak)(b:Int):aa T:=wZ a (Jx a b)
def Tr(b:List Nat):List Nat->Bool:=
 @List.rec Nat (λ_=>List Nat->Bool) (λa=>List.casesOn a true (λ_ _=>false))
  (λe _ c a=>List.casesOn a false (λf d=>Bool.rec false (c d) (Nat.beq e f))) b
def Qe(d:List Nat):List Nat->Bool:=
 @List.rec Nat (λ_=>List Nat->Bool) (λa=>List.casesOn a false (λ_ _=>true))
  (λb _ e a=>List.casesOn a false (λc f=>Bool.rec (Bool.rec false (e f) (Nat.beq b c)) true (Nat.blt b c))) d
def H.get(d:H)(a:Nat):aa iN:=
 H.casesOn d λb _ c=>fT (Nat.blt a b) (lM c (Nat.sub (Nat.sub b 1) a))
def H.new(g:Nat->T)(c:H)(h:iN):aa (T×H):=
 H.casesOn c λa d b=>dM (gh (Nat.succ a)) λe=>some (g a,⟨e,d,h::b⟩)
def H.put(g:H)(a:Nat)(x:iN):aa H:=
 H.casesOn g λb e f=>fT (Nat.blt a b)
  (dM (kr f (Nat.sub (Nat.sub b 1) a) x) λd=>Bool.casesOn (Nat.blt a e) (some ⟨b,e,d⟩) (some ⟨b,a,d⟩))
def over(a:List T)(f:List T):aa (List T):=
 @List.rec T (λ_=>List T->aa (List T)) (λa=>some a)
  (λe _ b a=>List.casesOn a none (λ_ c=>dM (b c) λd=>some (e::d))) f a
def kx(a:List T)(d:Nat)(g:List T):aa (List T):=
 @Nat.rec (λ_=>List T->aa (List T)) (λa=>over a g)
  (λ_ c a=>List.casesOn a none (λb e=>dM (c e) λf=>some (b::f))) d a
def Ty.isAgg(a:Ty):Bool:=match a.u with| .struct _| .array _ _=>true|_=>false
def To(a:List T):T:=List.casesOn a .undef (λb _=>b)
def Ty.j1(a:Ty):T:=Bool.casesOn a.isAgg (To a.zero) (.agg a.zero)
def j2(b:Ty)(a:List T):aa T:=
 Bool.casesOn b.isAgg (lM a 0) (dM (takeN b.size a) λc=>some (.agg c))
def H.elem(e:H)(a c i:Nat):aa T:=
 dM (e.get a) λx=>iN.casesOn x λ_ d _ _ f b=>fT (Nat.beq d c) (Bool.casesOn f (lM b i) none)
def H.load(g:H)(b:Ty)(c:T):aa T:=
 match c with
 | .ptr d f h i=>dM (g.elem d f h) λe=>dM (jJ i e.cells) λa=>j2 b a
 | .ji a=>j2 b a
 |_=>none
def mz(d:T)(a:Nat)(b:List T):aa T:=
 match d with
 | .agg c=>dM (kx c a b) λe=>some (.agg e)
 |_=>match a,b with
  |0,[f]=>some f
  |_,_=>none
def H.store(d:H)(o:Ty)(g f:T):aa H:=
 match g with
 | .ptr a j e m=>fT (Nat.beq (kC f.cells) o.size) (dM (d.get a) λr=>iN.casesOn r λn c p exact l b=>
  fT (Nat.beq c j) (Bool.casesOn l (dM (lM b e) λh=>dM (mz h m f.cells) λi=>dM (kr b e i) λk=>
   dM (gh (Nat.succ p)) λq=>d.put a ⟨n,c,q,exact,false,k⟩) none))
 |_=>none
def H.jg(f:H)(k:T):aa (List T):=
 match k with
 | .dF e _=>some e
 | .fR=>some []
 | .arr a c i h _=>dM (f.get a) λl=>iN.casesOn l λ_ d _ _ g b=>fT (Nat.beq d c) (Bool.casesOn g (dM (jJ i b) λj=>takeN h j) none)
 |_=>none
def fits(c:Nat)(b:List T):Bool:=List.casesOn b true (λa _=>Nat.beq (kC a.cells) c)
def kX(b:Nat)(exact:Bool)(a:List T):iN:=⟨b,0,0,exact,false,a⟩
def H.iY(g:H)(a bytes:Nat)(d e:List T):aa (T×H):=
 dM (Db d e) λb=>dM (gh (kC b)) λc=>
 fT (Nat.ble 1 bytes)<|fT (Nat.ble (Nat.mul c bytes) 70368744177664) (fT (fits a d) (fT (fits a e) (g.new (λf=> .arr f 0 0 c false) (kX a false b))))
def H.ma(e:H)(g bytes a k o:Nat)(i:List T):aa (T×H):=
 dM (e.get a) λr=>iN.casesOn r λh b p _ n j=>
  dM (takeN o j) λl=>dM (Db l i) λd=>dM (gh (kC d)) λf=>
  fT (Nat.ble 1 bytes)<|fT (Nat.beq b k) (fT (Nat.beq h g) (fT (Nat.ble (Nat.mul f bytes) 70368744177664) (fT (fits g i) (Bool.casesOn n
   (dM (gh (Nat.succ b)) λc=>dM (gh (Nat.succ p)) λq=>
     dM (e.put a ⟨h,c,q,false,false,d⟩) λm=>some (.arr a c 0 f false,m)) none))))
def og:T->Bool
 | .dF _ _| .fR| .arr .. =>true
 |_=>false
def H.append(a:H)(e bytes:Nat)(d:T)(b:List T):aa (T×H):=
 List.casesOn b (fT (og d) (some (d,a))) λ_ _=>match d with
  | .dF c f=>List.casesOn c (a.iY e bytes [] b) λ_ _=>fT f (a.iY e bytes c b)
  | .arr g h j i f=>Bool.casesOn f
   (Nat.casesOn j (a.ma e bytes g h i b) λ_=>none)
   (dM (a.jg d) λc=>a.iY e bytes c b)
  |_=>none
def freeze(m:H)(p:Nat)(h:Nat):T->aa T:=
 @Nat.rec (λ_=>T->aa T) (λ_=>none) (λ_ e f=>match f with
  | .arr b i q o l=>fT (Nat.ble p b) (dM (m.get b) λr=>iN.casesOn r λ_ j _ exact n c=>
   fT (Nat.beq j i) (Bool.casesOn n (dM (dM (jJ q c) λa=>takeN o a) λk=>dM (fD e k) λd=>
    List.casesOn d (List.casesOn c (Bool.casesOn exact (some .fR) (some (.dF [] false))) λ_ _=>some .fR) λ_ _=>some (.dF d l)) none))
  | .agg g=>dM (fD e g) λa=>some (.agg a)
  | .bool _| .int _ _| .str _| .ka| .dF _ _| .fR| .kv| .ku=>some f
  |_=>none) h
def iy(d:H)(c:Nat)(a:T):aa T:=
 match a with
 | .arr b _ _ _ _=>Bool.casesOn (Nat.ble c b) (some a) (freeze d c 12 a)
 | .ptr b _ _ _=>Bool.casesOn (Nat.ble c b) (some a) none
 | .map b=>Bool.casesOn (Nat.ble c b) (some a) none
 | .undef=>some a
 |_=>freeze d c 12 a
def j3(a:H)(b:Nat)(c:T):aa T:=
 match c with
 | .agg d=>dM (fD (iy a b) d) λe=>some (.agg e)
 |_=>iy a b c
def iX(a:H)(b:Nat)(c:T):aa T:=
 match c with
 | .tuple e=>dM (fD (j3 a b) e) λd=>some (.tuple d)
 |_=>j3 a b c
def j4(b:Nat):T->Bool
 | .arr a _ _ _ _=>Nat.blt a b
 | .ptr a _ _ _=>Nat.blt a b
 | .map a=>Nat.blt a b
 | .bool _| .int _ _| .str _| .ka| .dF _ _| .fR| .kv| .ku| .nh| .ji _=>true
 |_=>false
def below(b:Nat):T->Bool
 | .agg a=>wt (j4 b) a
 | .func _ a=>wt (j4 b) a
 | .tuple a=>wt (j4 b) a
 |v=>j4 b v
def rm(d:Nat)(b:Nat):List iN->Bool:=
 @Nat.rec (λ_=>List iN->Bool) (λ_=>true) (λ_ a c=>List.casesOn c true λf e=>Bool.casesOn (wt (below d) f.em) false (a e)) b
def mO(c:Nat)(d:T)(f:H):aa (T×H):=
 H.casesOn f λe b a=>Bool.casesOn (Nat.blt b c) (some (d,⟨e,c,a⟩)) (some (d,⟨e,b,a⟩))
def tI(a c:Nat)(i e:T)(h:H):aa (T×H):=
 H.casesOn h λg b f=>dM (jJ (Nat.sub g a) f) λd=>
  Bool.casesOn (Nat.ble a b)
   (Bool.casesOn (rm a (Nat.sub a b) d) (mO c i ⟨g,b,f⟩)
     (Bool.casesOn (Nat.blt b c) (some (e,⟨a,c,d⟩)) (some (e,⟨a,b,d⟩))))
   (some (e,⟨a,c,d⟩))
def BR(e:Bool)(d c:Nat)(b:T)(a:H):aa (T×H):=
 Bool.casesOn e (Option.casesOn (iX a d b) (mO c b a) λf=>tI d c b f a) (mO c b a)
inductive fN where
 |nil
 |cons (s:Nat) (v:T) (r:fN)
 deriving Inhabited
structure Env where
 vars:fN
 tmps:fN
 deriving Inhabited
def dH(c:fN)(d:Nat):aa T:=
 @fN.rec (λ_=>aa T) none (λb e _ a=>Bool.rec a (some e) (Nat.beq b d)) c
def lr(e:fN)(b:Nat)(c:T):aa fN:=
 @fN.rec (λ_=>aa fN) (some (.cons b c .nil)) (λa h f d=>Bool.rec (dM d λg=>some (.cons a h g)) (some (.cons a c f)) (Nat.beq a b)) e
def jW(a b:Nat):Bool:=Nat.beq (Nat.land (Nat.shiftRight a b) 1) 1
def Env.get(c:Nat)(b:Env)(a:Nat):aa T:=
 Env.casesOn b λe d=>Bool.casesOn (jW c a) (dH d a) (dH e a)
def Env.set(g:Nat)(e:Env)(a:Nat)(c:T):aa Env:=
 Env.casesOn e λd b=>Bool.casesOn (jW g a) (some ⟨d,.cons a c b⟩) (dM (lr d a c) λf=>some ⟨f,b⟩)
def Env.dst(c:Nat)(a:Env)(b:aa Tmp)(e:T):aa Env:=
 Option.casesOn b (some a) λd=>a.set c d e
def zH(b:List UInt8):aa (List Nat):=fD (λa=>gh a.toNat) b
def nD:am->aa T
 | .bool a=>some (.bool a)
 | .int b d=>some (.int b d)
 | .string e=>dM (zH e.data.toList) λc=>some (.str c)
 | .pointer none=>some .ka
 | .map none=>some .nh
 | .slice none 0 0=>some (.dF [] false)
 | .nilFunc=>some .kv
 | .nilIface=>some .ku
 |_=>none
def xZ:am->aa T
 | .agg a=>dM (fD nD a.toList) λb=>some (.agg b)
 |v=>nD v
def fG(cx:Ctx)(e:Nat)(b:Env)(f:ah):aa T:=
 Operand.casesOn f (λg=>b.get e g) (λh=>xZ h) (λd=>dM (cx.gl d) λa=>some (.ji a)) (λc=>some (.func c []))
def pq(cx:Ctx)(c:Nat)(a:Env)(b:List ah):aa (List T):=fD (fG cx c a) b
def o9:T->aa Nat
 | .int _ b=>Int.casesOn b (λa=>some a) (λ_=>none)
 |_=>none
def rg(g:U)(c a:T):aa Bool:=
 match g with
 | .int _=>(match c with| .int e d=>(match a with| .int f b=>fT (CM e f) (some (Qg d b))|_=>none)|_=>none)
 | .bool=>(match c with| .bool d=>(match a with| .bool b=>some (Bool.casesOn d (Bool.casesOn b true false) b)|_=>none)|_=>none)
 | .str=>(match c with| .str d=>(match a with| .str b=>some (Tr d b)|_=>none)|_=>none)
 | .ptr _=>(match c with
  | .ka=>(match a with| .ka=>some true| .ptr .. | .ji _=>some false|_=>none)
  | .ptr .. | .ji _=>(match a with| .ka=>some false|_=>none)
  |_=>none)
 | .func=>(match c with
  | .kv=>(match a with| .kv=>some true| .func .. =>some false|_=>none)
  | .func .. =>(match a with| .kv=>some false|_=>none)
  |_=>none)
 | .iface=>(match c with
  | .ku=>(match a with| .ku=>some true| .iface .. =>some false|_=>none)
  | .iface .. =>(match a with| .ku=>some false|_=>none)
  |_=>none)
 |_=>none
def U.plain:U->Bool
 | .int _| .bool| .str=>true
 |_=>false
def eqFields(cx:Ctx)(f:List (Nat×ab)):Nat->List T->List T->aa Bool:=
 @List.rec (Nat×ab) (λ_=>Nat->List T->List T->aa Bool) (λ_ _ _=>some true)
  (λa _ g b d e=>List.casesOn d none λk h=>List.casesOn e none λl i=>fT (Nat.beq a.1 b) (dM (cx.ty a.2) λc=>fT c.u.plain
    (dM (rg c.u k l) λj=>Bool.casesOn j (some false) (g (Nat.succ b) h i)))) f
def yl(f:U)(b:List T):List T->aa Bool:=
 @List.rec T (λ_=>List T->aa Bool) (λa=>List.casesOn a (some true) λ_ _=>none)
  (λg _ c a=>List.casesOn a none λh d=>dM (rg f g h) λe=>Bool.casesOn e (some false) (c d)) b
def Mo(cx:Ctx)(d:Ty)(e f:T):aa Bool:=
 match d.u with
 | .struct h=>(match e with
  | .agg a=>(match f with
   | .agg b=>fT d.cmp (eqFields cx h 0 a b)
   |_=>none)
  |_=>none)
 | .array i g=>(match e with
  | .agg a=>(match f with
   | .agg b=>fT d.cmp (dM (cx.ty g) λc=>fT c.u.plain (fT (Nat.beq c.size 1) (fT (Nat.beq (kC a) i) (yl c.u a b))))
   |_=>none)
  |_=>none)
 |u=>rg u e f
def wq(f g:T)(d:ak->Int->Int->aa T):aa T:=
 match f with
 | .int a b=>(match g with| .int e c=>fT (CM a e) (d a b c)|_=>none)
 |_=>none
def yO(f g:T)(d:ak->Int->Nat->aa T):aa T:=
 match f with
 | .int a b=>(match g with| .int _ c=>Int.casesOn c (λe=>d a b (min e a.bits)) (λ_=>none)|_=>none)
 |_=>none
def Jd(h c:T)(d:Int->Int->Bool)(e:List Nat->List Nat->Bool):aa T:=
 match h with
 | .int f a=>(match c with| .int g b=>fT (CM f g) (wz (d a b))|_=>none)
 | .str a=>(match c with| .str b=>wz (e a b)|_=>none)
 |_=>none
def RW(d e:T):aa T:=
 match d with
 | .str a=>(match e with
  | .str b=>dM (Db a b) λc=>fT (Nat.ble (kC c) 4294967296) (some (.str c))
  |_=>none)
 |_=>wq d e λf a b=>pi f (a+b)
def binop:BinOp->T->T->aa T
 | .add=>RW
 | .sub=>λd e=>wq d e λc a b=>pi c (a-b)
 | .mul=>λd e=>wq d e λc a b=>pi c (a*b)
 | .quo=>λd e=>wq d e λc a b=>Bool.casesOn (Qg b 0) (pi c (a.tdiv b)) none
 | .rem=>λd e=>wq d e λc a b=>Bool.casesOn (Qg b 0) (wZ c (a.tmod b)) none
 | .and=>λd e=>wq d e λc a b=>wZ c (c.wrap (BitVec.ofInt c.bits a&&&BitVec.ofInt c.bits b).toNat)
 | .or=>λd e=>wq d e λc a b=>wZ c (c.wrap (BitVec.ofInt c.bits a|||BitVec.ofInt c.bits b).toNat)
 | .xor=>λd e=>wq d e λc a b=>wZ c (c.wrap (BitVec.ofInt c.bits a^^^BitVec.ofInt c.bits b).toNat)
 | .shl=>λd e=>yO d e λc a f=>wZ c (c.wrap (a*2^f))
 | .shr=>λd e=>yO d e λc a f=>wZ c (a.fdiv (2^f))
 | .lss=>λd e=>Jd d e J7 Qe
 | .leq=>λd e=>Jd d e (λa b=> !J7 b a) (λa b=> !Qe b a)
 | .gtr=>λd e=>Jd d e (λa b=>J7 b a) (λa b=>Qe b a)
 | .geq=>λd e=>Jd d e (λa b=> !J7 a b) (λa b=> !Qe a b)
 |_=>λ_ _=>none
def unop:UnOp->T->aa T
 | .neg=>λa=>(match a with| .int c d=>pi c (0-d)|_=>none)
 | .not=>λa=>(match a with| .bool b=>Bool.casesOn b (some (.bool true)) (some (.bool false))|_=>none)
 |_=>λ_=>none
def conv(cx:Ctx)(c:ab)(a:T):aa T:=
 dM (cx.ty c) λb=>match b.u with
  | .int d=>(match a with| .int _ n=>pi d n|_=>none)
  | .str=>(match a with| .str e=>some (.str e)|_=>none)
  |_=>none
def Cx(cx:Ctx)(d:ab)(i:T):aa T:=
 dM (cx.ty d) λc=>match c.u with
  | .slice e=>(match i with
   | .str a=>dM (cx.ty e) λh=>(match h.u with
    | .int g=>fT (CM g .u8) (List.casesOn a (some .fR) λ_ _=>dM (fD (λb=>some (T.int .u8 (.ofNat b))) a) λf=>some (.dF f false))
    |_=>none)
   |_=>none)
  |_=>none
def wg(cx:Ctx)(c:ab)(a:Nat):aa (Nat×ab):=
 dM (cx.ty c) λd=>match d.u with| .struct b=>lM b a|_=>none
def mf(f:Nat->aa (Nat×Nat))(g:List (Nat×T)):List T->aa (List T):=
 @List.rec (Nat×T) (λ_=>List T->aa (List T)) (λa=>some a)
  (λb _ e a=>dM (f b.1) λc=>fT (Nat.beq (kC b.2.cells) c.2) (dM (kx a c.1 b.2.cells) λd=>e d)) g
def oR(h:Nat)(g:List (Nat×T)):List T->aa (List T):=
 @List.rec (Nat×T) (λ_=>List T->aa (List T)) (λa=>some a)
  (λf _ e a=>two f λd b=>fT (Nat.beq (kC b.cells) h) (dM (kr a d b) λc=>e c)) g
def partsOf(cx:Ctx)(e:Nat)(b:Env)(d:List (Nat×ah)):aa (List (Nat×T)):=
 fD (λg=>two g λc f=>dM (fG cx e b f) λa=>fT a.gJ (some (c,a))) d
def jB(cx:Ctx)(b:Nat)(a:Env)(f:aa ah):aa (aa Nat):=
 Option.casesOn f (some none) λd=>dM (fG cx b a d) λe=>dM (o9 e) λc=>some (some c)
def fQ(c:aa Nat)(a:Nat):Nat:=Option.casesOn c a λb=>b
def Jb{b:Type}(d:List b)(a c:Nat):aa (List b):=dM (jJ a d) λe=>takeN (Nat.sub c a) e
def sO(c:List T)(e:Bool)(d a:Nat)(g:aa Nat):aa T:=
 fT (Nat.ble d a) (dM (Jb c d a) λb=>Option.casesOn g
  (List.casesOn b (List.casesOn c (some (.dF [] false)) λ_ _=>some .fR) λ_ _=>some (.dF b (Bool.casesOn e false (Nat.beq a (kC c)))))
  λf=>fT (Nat.beq f a) (List.casesOn b (some (.dF [] false)) λ_ _=>some (.dF b true)))
def uO(b c k g:Nat)(h:Bool)(e a:Nat)(j:aa Nat):aa T:=
 fT (Nat.ble e a) (fT (Nat.ble a g) (dM (gh (Nat.add k e)) λf=>dM (gh (Nat.sub a e)) λd=>Option.casesOn j
  (Bool.casesOn h (some (.arr b c f d false)) (fT (Nat.beq a g) (some (.arr b c f d true))))
  λi=>fT (Nat.beq i a) (some (.arr b c f d true))))
def oF(m:T)(b a c:aa Nat):aa T:=
 match m with
 | .str e=>Option.casesOn c (fT (Nat.ble (fQ b 0) (fQ a (kC e))) (dM (Jb e (fQ b 0) (fQ a (kC e))) λl=>some (.str l))) λ_=>none
 | .dF f d=>sO f d (fQ b 0) (fQ a (kC f)) c
 | .fR=>fT (Nat.beq (fQ b 0) 0) (fT (Nat.beq (fQ a 0) 0) (Option.casesOn c (some .fR) λj=>fT (Nat.beq j 0) (some (.dF [] false))))
 | .arr h i k g d=>uO h i k g d (fQ b 0) (fQ a g) c
 |_=>none
inductive lh where
 |val (v:T) (h:H)
 |call (f:aj) (args:List T)
 deriving Inhabited
def val(a:H)(c:aa T):aa lh:=dM c λb=>some (.val b a)
def jp(d:aa (T×H)):aa lh:=dM d λb=>two b λc a=>some (.val c a)
abbrev Hd:=Ctx->Nat->Env->H->aa lh
def B1(d:ah):Hd:=λcx c a b=>val b (fG cx c a d)
def DQ(a e f:ah):Hd:=λcx c b d=>
 dM (fG cx c b a) λa=>match a with
  | .bool g=>Bool.casesOn g (val d (fG cx c b f)) (val d (fG cx c b e))
  |_=>none
def wc(cx:Ctx)(d:Ty):Bool:=
 match d.u with
 | .array _ a=>Option.casesOn (cx.ty a) false λc=>(match c.u with| .int b=>CM b .u8|_=>false)
 |_=>false
def B5(d:ab):Hd:=λcx _ _ c=>dM (cx.ty d) λa=>Bool.casesOn (wc cx a)
 (jp (c.new (λb=> .ptr b 0 0 0) (kX a.size true [a.j1])))
 (jp (c.new (λb=> .ptr b 0 0 0) (kX 1 true a.zero)))
def LP(f:ah):Hd:=λcx e c d=>dM (fG cx e c f) λa=>fT a.gJ (jp (d.new (λb=> .ptr b 0 0 0) (kX (kC a.cells) true [a])))
def zu(m:ab)(l:af (Nat×ah)):Hd:=λcx k h e=>
 dM (cx.ty m) λc=>dM (partsOf cx k h l.toList) λf=>match c.u with
  | .struct j=>dM (mf (λb=>dM (lM j b) λd=>dM (cx.ty d.2) λn=>some (d.1,n.size)) f c.zero) λa=>val e (some (.agg a))
  | .array _ i=>dM (cx.ty i) λg=>dM (mf (λb=>some (Nat.mul b g.size,g.size)) f c.zero) λa=>val e (some (.agg a))
  |_=>none
def nN(k:ab)(b:Nat)(i:af (Nat×ah)):Hd:=λcx h d g=>
 dM (cx.ty k) λl=>match l.u with
  | .slice e=>dM (cx.ty e) λa=>dM (partsOf cx h d i.toList) λj=>
   fT (Nat.ble 1 a.size)<|fT (Nat.ble (Nat.mul b a.size) 65536) (dM (oR a.size j (oI a.j1 b)) λf=>
    jp (g.new (λc=> .arr c 0 0 b false) (kX a.size true f)))
  |_=>none
def GV(e:ab)(a:ah):Hd:=λcx d c b=>dM (cx.ty e) λf=>dM (fG cx d c a) λa=>val b (b.load f a)
def BY(g:ab)(a i:ah):Hd:=λcx c b e=>
 dM (cx.ty g) λh=>dM (fG cx c b a) λa=>dM (fG cx c b i) λd=>fT d.gJ (dM (e.store h a d) λf=>some (.val .undef f))
def qA(e:ah):Hd:=λcx d b c=>dM (fG cx d b e) λa=>match a with
 | .ptr .. | .ji _| .func .. =>some (.val a c)
 |_=>none
def Ai(c d:ah)(a b:T):Bool:=
 match a with
 | .ku=>(match b with| .ku=>Region.isConst c||Region.isConst d|_=>true)
 |_=>true
def UV(i:Bool)(j:ab)(f g:ah):Hd:=λcx d c h=>
 dM (cx.ty j) λk=>dM (fG cx d c f) λa=>dM (fG cx d c g) λb=>
  fT (Ai f g a b) (dM (Mo cx k a b) λe=>val h (wz (Bool.casesOn i e (!e))))
def LQ(f:BinOp)(g h:ah):Hd:=λcx b a e=>
 dM (fG cx b a g) λc=>dM (fG cx b a h) λd=>val e (binop f c d)
def ZE(e:UnOp)(f:ah):Hd:=λcx d b c=>dM (fG cx d b f) λa=>val c (unop e a)
def byteOf(d:T):aa Nat:=match d with
 | .int b c=>fT (CM b .u8) (Int.casesOn c (λa=>fT (Nat.blt a 256) (some a)) (λ_=>none))
 |_=>none
def FN(cx:Ctx)(d:H)(g:ab)(i:T):aa T:=
 dM (cx.ty g) λf=>match f.u with
  | .slice b=>dM (cx.ty b) λh=>(match h.u with
   | .int e=>fT (CM e .u8) (dM (d.jg i) λc=>dM (fD byteOf c) λa=>fT (Nat.ble (kC a) 4294967296) (some (.str a)))
   |_=>none)
  |_=>none
def Ka(d c:ab)(h:ah):Hd:=λcx g f b=>dM (cx.ty d) λ_=>dM (fG cx g f h) λa=>
 dM (cx.ty c) λe=>match e.u with
  | .slice _=>val b (Cx cx c a)
  | .str=>(match a with
   | .str _=>val b (conv cx c a)
   |_=>val b (FN cx b d a))
  |_=>val b (conv cx c a)
def zq(b:ab)(g:ah):Hd:=λcx e c d=>dM (cx.ty b) λf=>match f.u with
 | .iface=>none
 |_=>dM (fG cx e c g) λa=>fT a.gJ (val d (some (.iface b a)))
def B2(e:Fn)(first a:af ah):Hd:=λcx g c f=>match e with
 | .func d=>(match first.toList with
  | []=>dM (pq cx g c a.toList) λb=>val f (some (.func d b))
  |_=>none)
 |_=>none
def oN(i:ab)(a b:ah):Hd:=λcx e d h=>dM (cx.ty i) λj=>match j.u with
 | .slice g=>dM (cx.ty g) λc=>dM (fG cx e d a) λa=>dM (fG cx e d b) λb=>dM (o9 a) λa=>dM (o9 b) λb=>
  fT (Nat.ble 1 c.size)<|fT (Nat.ble 1 c.bytes)<|fT (Nat.ble a b) (fT (Nat.ble (Nat.mul b c.bytes) 70368744177664) (jp (h.new (λf=> .arr f 0 0 a false) (kX c.size (Nat.beq a b) (oI c.j1 a)))))
 |_=>none
def zg(a b:aa Nat):Bool:=Option.casesOn b true λ_=>Option.casesOn a false λ_=>true
def jl(cx:Ctx)(f:H)(p:U)(e:T):Bool:=
 match p with
 | .str=>(match e with| .str _=>true|_=>false)
 | .slice d=>Option.casesOn (cx.ty d) false λa=>(match e with
  | .dF j _=>fits a.size j
  | .fR=>true
  | .arr b _ _ _ _=>Option.casesOn (f.get b) false λc=>Nat.beq c.sz a.size
  |_=>false)
 | .array n d=>Option.casesOn (cx.ty d) false λa=>(match e with
  | .ptr b h k m=>Option.casesOn (f.get b) false λc=>iN.casesOn c λo i _ exact l g=>
   Nat.beq o a.size&&Nat.beq i h&&Nat.beq k 0&&Nat.beq m 0&&exact&& !l&&Nat.beq (kC g) n
  |_=>false)
 |_=>false
def asSlice(e:U)(a:T):T:=match e with
 | .array d _=>(match a with| .ptr b c _ _=> .arr b c 0 d false|_=>a)
 |_=>a
def BZ(i:ab)(e:ah)(f b d:aa ah):Hd:=λcx c a g=>dM (cx.ty i) λh=>
 dM (fG cx c a e) λe=>fT (jl cx g h.u e)<|dM (jB cx c a f) λf=>dM (jB cx c a b) λb=>dM (jB cx c a d) λd=>fT (zg b d) (val g (oF (asSlice h.u e) f b d))
def oP(n:ab)(a:ah)(i:Nat):Hd:=λcx m g c=>dM (wg cx n i) λb=>dM (fG cx m g a) λa=>match a with
 | .ptr d h j k=>dM (gh (Nat.add k b.1)) λl=>some (.val (.ptr d h j l) c)
 | .ji e=>dM (jJ b.1 e) λf=>some (.val (.ji f) c)
 |_=>none
def zt(i:ab)(a:ah)(e:Nat):Hd:=λcx g d f=>
 dM (wg cx i e) λb=>dM (cx.ty b.2) λj=>dM (fG cx g d a) λa=>match a with
  | .agg c=>dM (jJ b.1 c) λh=>val f (j2 j h)
  |_=>none
def km(a:H)(f:Ty)(l:T)(b:Nat):aa lh:=
 match l with
 | .dF h _=>dM (lM h b) λg=>fT (Nat.beq (kC g.cells) f.size) (some (.val (.ji g.cells) a))
 | .arr c e k j _=>fT (Nat.blt b j) (dM (a.get c) λd=>fT (Nat.beq d.sz f.size)<|fT (Nat.beq d.ep e) (dM (gh (Nat.add k b)) λi=>some (.val (.ptr c e i 0) a)))
 |_=>none
def oh(a:H)(m:Nat)(d:Ty)(n:T)(b:Nat):aa lh:=
 fT (Nat.blt b m) (match n with
  | .ptr c e f g=>dM (a.get c) λh=>Bool.casesOn (Nat.beq h.sz d.size)
   (dM (gh (Nat.add g (Nat.mul b d.size))) λl=>some (.val (.ptr c e f l) a))
   (fT (Nat.beq g 0) (dM (gh (Nat.add f b)) λk=>some (.val (.ptr c e k 0) a)))
  | .ji i=>dM (jJ (Nat.mul b d.size) i) λj=>some (.val (.ji j) a)
  |_=>none)
def oO(j:ab)(a c:ah):Hd:=λcx h e f=>
 dM (cx.ty j) λk=>dM (fG cx h e a) λa=>dM (fG cx h e c) λc=>dM (o9 c) λg=>match k.u with
  | .slice b=>dM (cx.ty b) λd=>km f d a g
  | .array i b=>dM (cx.ty b) λd=>oh f i d a g
  |_=>none
def zp(n:ab)(a c:ah):Hd:=λcx f d e=>
 dM (cx.ty n) λo=>dM (fG cx f d a) λa=>dM (fG cx f d c) λc=>dM (o9 c) λb=>match o.u with
  | .str=>(match a with| .str m=>dM (lM m b) λh=>val e (some (.int .u8 (.ofNat h)))|_=>none)
  | .array k j=>(match a with
   | .agg i=>dM (cx.ty j) λg=>fT (Nat.blt b k) (dM (jJ (Nat.mul b g.size) i) λl=>val e (j2 g l))
   |_=>none)
  |_=>none
def tO(g:ah)(c:Nat):Hd:=λcx d a b=>dM (fG cx d a g) λe=>match e with| .tuple f=>val b (lM f c)|_=>none
def B0(g:ah):Hd:=λcx d b c=>dM (fG cx d b g) λf=>match f with
 | .str e=>jp (c.new (λa=> .iter a) ⟨1,0,0,true,true,[.str e,.int .i64 0]⟩)
 |_=>none
def yf(d:ab)(f:ah):Hd:=λcx c a b=>dM (cx.ty d) λe=>match e.u with
 | .str=>B0 f cx c a b
 |_=>none
def x7(c:List Nat)(b:Nat):aa (Nat×Nat):=dM (lM c b) λa=>Bool.casesOn (Nat.blt a 128) (Bool.casesOn (Nat.blt a 256) (some (65533,1)) (some (Utf8.decode ⟨(c.map UInt8.ofNat).toArray⟩ b))) (some (a,1))
def zl(i:ah):Hd:=λcx j g c=>(dM (fG cx j g i) λm=>match m with
 | .iter e=>dM (c.get e) λa=>fT a.it (match a.em with
  | [.str d,.int _ (.ofNat b)]=>Bool.casesOn (Nat.blt b (kC d)) (some (.val (.tuple [.bool false]) c))
   (dM (x7 d b) λl=>two l λf wd=>dM (gh (Nat.add b wd)) λk=>dM (gh (Nat.succ a.ver)) λn=>
     dM (c.put e ⟨a.sz,a.ep,n,a.exact,true,[.str d,.int .i64 (.ofNat k)]⟩) λh=>
      some (.val (.tuple [.bool true,.int .i64 (.ofNat b),.int .i32 (.ofNat f)]) h))
  |_=>none)
 |_=>none)
def GT(d:ah)(c:Bool):Hd:=λcx e a b=>Bool.casesOn c none (zl d cx e a b)
def L8(cx:Ctx)(a:H)(h:List ab)(c:T):aa lh:=
 dM (lM h 0) λg=>dM (cx.ty g) λi=>match i.u with
  | .str=>(match c with
   | .str f=>val a (dM (gh (kC f)) λb=>some (.int .i64 (.ofNat b)))
   |_=>none)
  | .slice _=>(match c with
   | .dF d _=>val a (dM (gh (kC d)) λb=>some (.int .i64 (.ofNat b)))
   | .fR=>val a (some (.int .i64 0))
   | .arr _ _ _ e _=>val a (some (.int .i64 (.ofNat e)))
   |_=>none)
  | .array b _=>val a (some (.int .i64 (.ofNat b)))
  |_=>none
def pR(cx:Ctx)(b:ab):aa Ty:=
 dM (cx.ty b) λc=>match c.u with| .slice a=>cx.ty a|_=>none
def nc(cx:Ctx)(d:H)(e:ab)(a:T):aa (List T):=
 dM (cx.ty e) λf=>match f.u with
  | .str=>(match a with| .str b=>fD (λc=>some (T.int .u8 (.ofNat c))) b|_=>none)
  | .slice _=>d.jg a
  |_=>none
def iO(cx:Ctx)(b:H)(e f:ab)(d g:T):aa lh:=
 dM (pR cx e) λa=>dM (nc cx b f g) λc=>fT (fits a.size c) (jp (b.append a.size a.bytes d c))
def CA(cx:Ctx)(a:H)(n:ab)(q:T):aa lh:=
 dM (pR cx n) λg=>match q with
  | .dF b _=>List.casesOn b (some (.val .undef a)) λ_ _=>none
  | .fR=>some (.val .undef a)
  | .arr c j m e _=>Nat.casesOn e (some (.val .undef a)) λ_=>dM (a.get c) λh=>iN.casesOn h λf d o exact l i=>
   fT (Nat.beq d j)<|fT (Nat.beq f g.size) (Bool.casesOn l
    (dM (kx i m (oI g.j1 e)) λb=>dM (gh (Nat.succ o)) λp=>
      dM (a.put c ⟨f,d,p,exact,false,b⟩) λk=>some (.val .undef k)) none)
  |_=>none
def kR:Builtin->Ctx->H->List ab->List T->aa lh
 | .clear=>λcx b f a=>(match a with| [c]=>(match f with| [h]=>CA cx b h c|_=>none)|_=>none)
 | .len=>λcx b f a=>(match a with| [c]=>L8 cx b f c|_=>none)
 | .append=>λcx b f a=>(match a with| [j,c]=>(match f with| [h,k]=>iO cx b h k j c|_=>none)|_=>none)
 | .min=>λ_ b _ a=>(match a with| [c,i]=>val b (wq c i λg d e=>wZ g (Bool.casesOn (J7 e d) d e))|_=>none)
 | .max=>λ_ b _ a=>(match a with| [c,i]=>val b (wq c i λg d e=>wZ g (Bool.casesOn (J7 d e) d e))|_=>none)
 |_=>λ_ _ _ _=>none
def B4(a:Call):Hd:=λcx e d h=>dM (pq cx e d a.args.toList) λc=>match a.callee with
 | .builtin f=>kR f cx h a.argTypes.toList c
 | .value b=>dM (fG cx e d b) λj=>(match j with
  | .func b g=>dM (Db c g) λi=>some (.call b i)
  |_=>none)
 |_=>none
def ja:Op->Hd
 | .move a=>B1 a
 | .assign a=>B1 a
 | .pick d c g=>DQ d c g
 | .alloc b=>B5 b
 | .box _ a=>LP a
 | .build b i=>zu b i
 | .buildSlice b q i=>nN b q i
 | .load b c=>GV b c
 | .store b c a=>BY b c a
 | .nilCheck a=>qA a
 | .binOp f b a j _=>(match f with| .eql=>UV false b a j| .neq=>UV true b a j|_=>LQ f a j)
 | .unOp f _ a=>ZE f a
 | .convert s k a=>Ka s k a
 | .makeInterface b a=>zq b a
 | .makeFunc l c g=>B2 l c g
 | .makeSlice b n d=>oN b n d
 | .slice b a o m p=>BZ b a o m p
 | .fieldAddr b a h=>oP b a h
 | .field b a h=>zt b a h
 | .indexAddr b a e=>oO b a e
 | .index b a e=>zp b a e
 | .extract a e=>tO a e
 | .makeMap .. =>λ_ _ _ _=>none
 | .lookup .. =>λ_ _ _ _=>none
 | .mapUpdate .. =>λ_ _ _ _=>none
 | .range b a=>yf b a
 | .next it r=>GT it r
 | .entry _=>λ_ _ _ _=>none
 | .call d=>B4 d
 |_=>λ_ _ _ _=>none
def Ax(e:ai):TypeDesc->aa U
 | .int c=>some (.int c)
 | .bool=>some .bool
 | .string=>some .str
 | .slice a=>some (.slice a)
 | .array g a=>some (.array g a)
 | .struct d=>if d.toList.all (λb=>(e.info? b.type).any λf=> !(f.size==0))then some (.struct (d.toList.map λb=>(b.offset,b.type)))else none
 | .pointer a=>some (.ptr a)
 | .map c a=>some (.map c a)
 | .func _ _ _=>some .func
 | .interface _=>some .iface
 |_=>some .other
def sI(a:TypeDesc)(b:am):Bool:=
 match a,b with
 | .struct _,.agg _| .array _ _,.agg _=>true
 | .struct _,_| .array _ _,_|_,.agg _=>false
 |_,_=>true
def J5:TypeDesc->Bool
 | .struct b=>b.toList.all λa=>a.name != "_"
 |_=>true
def TV(a:ai)(c:ab)(e:Bool):aa Ty:=
 dM (a.info? c) λb=>dM (a.underlying c) λd=>dM b.zero λf=>dM (fD nD f.cells.toList) λg=>dM (Ax a d) λh=>
  fT (sI d f) (fT (Nat.beq (kC g) b.size) (fT (Bool.casesOn e true (!a.stoodInHeld c&& !a.eqGuardType a.depth c&&J5 d)) (some ⟨h,b.size,b.bytes,e,g⟩)))
abbrev iL:=aj->List T->H->aa (T×H)
def j9(i:af Oper)(g:Nat)(d:Env)(e:aa (Nat×Bool)):aa Bool:=
 Option.casesOn e (some true) λj=>two j λf a=>dM (dM (dM (lM i.toList f) λh=>h.dst) λc=>d.get g c) λk=>
  match k with
  | .bool b=>some (Bool.casesOn b (Bool.casesOn a true false) a)
  |_=>some false
def kV(cx:Ctx)(call:iL)(c:Nat)(k:af Oper)(a:Env)(e:H)(d:Oper):aa (Env×H):=
 dM (j9 k c a d.guard) λm=>Bool.casesOn m
  (dM (a.dst c d.dst .undef) λb=>some (b,e))
  (dM (ja d.op cx c a e) λi=>lh.casesOn i
    (λg f=>dM (a.dst c d.dst g) λb=>some (b,f))
    (λj h=>dM (call j h e) λl=>two l λg f=>dM (a.dst c d.dst g) λb=>some (b,f)))
def ke(cx:Ctx)(call:iL)(g:Nat)(i:af Oper)(f:List Oper):Env->H->aa (Env×H):=
 @List.rec Oper (λ_=>Env->H->aa (Env×H)) (λa b=>some (a,b))
  (λh _ e a b=>dM (kV cx call g i a b h) λj=>two j λc d=>e c d) f
def dO:T->aa Nat
 | .ptr a _ _ _=>some a
 | .arr a _ _ _ _=>some a
 | .map a=>some a
 |_=>none
def fU(cx:Ctx)(d:Nat)(b:Env)(c:H)(e:Op):aa Nat:=
 match e with
 | .load _ a=>dM (fG cx d b a) dO
 | .indexAddr _ a _=>dM (fG cx d b a) dO
 | .slice _ a _ _ _=>dM (fG cx d b a) dO
 | .convert _ _ a=>dM (fG cx d b a) dO
 | .lookup _ a _ _=>dM (fG cx d b a) dO
 | .makeMap _ _=>some c.size
 | .alloc _=>some c.size
 | .box _ _=>some c.size
 | .buildSlice _ _ _=>some c.size
 | .makeSlice _ _ _=>some c.size
 |_=>none
def ik:Op->Bool
 | .store .. =>true
 | .call b=>(match b.callee with
  | .builtin a=>(match a with| .len| .min| .max=>false|_=>true)
  |_=>true)
 | .next .. =>true
 | .range .. =>true
 | .entry .. =>true
 | .mapUpdate .. =>true
 |_=>false
structure Seen where
 lU:List (Nat×Nat)
 kF:List (Nat×H×H)
def wm(c:List Nat)(d:List Edge):Nat:=
 d.foldr (λa b=>Bool.casesOn (Region.binds .any a) b (Nat.lor b (Nat.lor (Nat.shiftLeft 1 a.on) (c.getD a.on 0)))) 0
def Jn:List Oper->List Nat->List Nat
 | [],a=>a
 |o::b,a=>Jn b (a++[wm a o.after.toList])
def jx(c:af Oper)(a b:Nat):Bool:=((Jn c.toList []).getD b 0).testBit a
def eJ(b c:H)(a:Nat):Bool:=
 Option.casesOn (b.get a) true λd=>Option.casesOn (c.get a) false λe=>Nat.beq d.ver e.ver
def nI(e:af Oper)(c b:Nat)(d:List (Nat×H×H)):Bool:=
 wt (λa=>Bool.casesOn (eJ a.2.1 a.2.2 b) (jx e a.1 c) true) d
def wI(f:af Oper)(d:Nat)(b c:H)(e:List (Nat×Nat)):Bool:=
 wt (λa=>Bool.casesOn (eJ b c a.2) (jx f a.1 d) true) e
def p9(cx:Ctx)(e:Nat)(g:af Oper)(c:Nat)(b:Env)(d:List (Nat×H×H))(f:Op):Bool:=
 match f with
 | .store _ h _=>Option.casesOn (dM (fG cx e b h) dO) true λa=>nI g c a d
 |_=>true
def jN(cx:Ctx)(call:iL)(j:Nat)(g:af Oper)(l:List Oper):Nat->Seen->Env->H->aa (Env×H):=
 @List.rec Oper (λ_=>Nat->Seen->Env->H->aa (Env×H)) (λ_ _ c d=>some (c,d))
  (λf _ i a b c d=>dM (kV cx call j g c d f) λm=>two m λh e=>
    dM (j9 g j c f.guard) λn=>Bool.casesOn n (i (Nat.succ a) b h e)
     (Bool.casesOn (ik f.op)
       (Option.casesOn (fU cx j c d f.op) (i (Nat.succ a) b h e)
         λk=>fT (nI g a k b.kF) (i (Nat.succ a) ⟨(a,k)::b.lU,b.kF⟩ h e))
       (fT (wI g a d e b.lU) (fT (p9 cx j g a c b.kF f.op) (i (Nat.succ a) ⟨b.lU,(a,d,e)::b.kF⟩ h e))))) l
inductive Ex where
 |normal|exit (id:Nat)|ret
 deriving Inhabited
abbrev Out:=aa (Ex×Env×H)
def three{a:Type}(e:Ex×Env×H)(c:Ex->Env->H->a):a:=Prod.casesOn e λg f=>Prod.casesOn f λb d=>c g b d
def nL(c:Env->H->Out)(h:Nat):Env->H->Out:=
 @Nat.rec (λ_=>Env->H->Out) (λ_ _=>none)
  (λ_ g d e=>dM (c d e) λi=>three i λj a b=>Ex.casesOn j (g a b) (λf=>some (.exit f,a,b)) (some (.ret,a,b))) h
def JM(cx:Ctx)(call:iL)(g:Nat)(a:af Oper)(i:Bool)(j:Env)(f:H):Out:=
 Env.casesOn j λh _=>Bool.casesOn i
  (dM (ke cx call g a a.toList ⟨h,.nil⟩ f) λd=>two d λb c=>some (.normal,Env.casesOn b λe _=>⟨e,.nil⟩,c))
  (dM (jN cx call g a a.toList 0 ⟨[],[]⟩ ⟨h,.nil⟩ f) λd=>two d λb c=>some (.normal,Env.casesOn b λe _=>⟨e,.nil⟩,c))
def Bj(c d:Env->H->Out)(e:Env)(f:H):Out:=
 dM (c e f) λh=>three h λi a b=>Ex.casesOn i (d a b) (λg=>some (.exit g,a,b)) (some (.ret,a,b))
def Ho(cx:Ctx)(f:Nat)(e:ah)(c d:Env->H->Out)(a:Env)(b:H):Out:=
 dM (fG cx f a e) λh=>match h with
  | .bool g=>Bool.casesOn g (d a b) (c a b)
  |_=>none
def xx(id:Nat)(d:Env->H->Out)(e:Env)(f:H):Out:=
 dM (d e f) λg=>three g λh a b=>Ex.casesOn h (some (.normal,a,b)) (λc=>Bool.casesOn (Nat.beq c id) (some (.exit c,a,b)) (some (.normal,a,b))) (some (.ret,a,b))
def jP(cx:Ctx)(call:iL)(c a:Nat):Code->Env->H->Out
 | .skip=>λd e=>some (.normal,d,e)
 | .region _ i h=>JM cx call a i h
 | .seq f b=>Bj (jP cx call c a f) (jP cx call c a b)
 | .cond g f b=>Ho cx a g (jP cx call c a f) (jP cx call c a b)
 | .block id b=>xx id (jP cx call c a b)
 | .loop b=>nL (jP cx call c a b) c
 | .exit id=>λd e=>some (.exit id,d,e)
 | .ret=>λd e=>some (.ret,d,e)
 |_=>λ_ _=>none
def lV(g:Nat)(h:Nat):Nat->List T->aa fN:=
 @Nat.rec (λ_=>Nat->List T->aa fN) (λ_ _=>some .nil)
  (λ_ c a f=>dM (gh (Nat.succ a)) λb=>List.casesOn f
    (Bool.casesOn (jW g a) (c b []) (dM (c b []) λd=>some (.cons a .undef d)))
    λe i=>dM (c b i) λd=>some (.cons a e d)) h
def mD(cx:Ctx)(c:Nat)(b:Env)(e:H)(f:List ResultVar):aa (List T):=
 fD (λh=>ResultVar.casesOn h (λa=>b.get c a) (λd a=>dM (b.get c d) λg=>dM (cx.ty a) λi=>e.load i g)) f
def vf(b:Nat)(e:List Nat):Nat->aa Int:=
 @List.rec Nat (λ_=>Nat->aa Int) (λ_=>some (.negSucc 0))
  (λf _ d a=>Bool.casesOn (Nat.beq f b) (dM (gh (Nat.succ a)) λc=>d c) (some (.ofNat a))) e
def Bw(f:Prim)(b:List T)(a:H):aa (T×H):=
 match f with
 | .nl=>(match b with
  | [.str g,.int .u8 (.ofNat c)]=>fT (Nat.blt c 256) (dM (vf c g 0) λe=>some (.int .i64 e,a))
  |_=>none)
 | .clone h bytes=>(match b with
  | [i]=>dM (a.jg i) λd=>List.casesOn d (some (.dF [] false,a)) λ_ _=>a.iY h bytes [] d
  |_=>none)
def jv(a:List T):T:=match a with| [b]=>b|_=> .tuple a
def rZ(cx:Ctx)(call:iL)(l:Nat)(a:Func)(c:Nat)(g:Bool)(i:List T)(m:H):aa (T×H):=
 Option.casesOn a.body none λj=>H.casesOn m λd h k=>
  dM (lV c a.ntmps 0 i) λo=>
  dM (jP cx call l c j ⟨o,.nil⟩ ⟨d,d,k⟩) λn=>three n λp f b=>Ex.casesOn p
   (dM (mD cx c f b a.results.toList) λe=>BR g d h (jv e) b)
   (λ_=>none)
   (dM (mD cx c f b a.results.toList) λe=>BR g d h (jv e) b)
end
end Go.TI
