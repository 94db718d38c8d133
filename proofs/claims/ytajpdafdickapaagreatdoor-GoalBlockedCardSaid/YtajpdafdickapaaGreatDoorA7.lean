/- TiOut -/
import Derived.Test.YtajpdafdickapaaGreatDoorA6
import Derived.KernelRfl
set_option linter.all false
set_option maxRecDepth 100000
set_option maxHeartbeats 8000000
namespace Go.TI
theorem dG{p:Prop}(h:p:=by kernel_rfl):p:=h
end Go.TI
namespace Go.TI
noncomputable section
section
structure Fr(lo:Nat)(h h':H):Prop where
 size:h.size<=h'.size
 hp:Hp h->Hp h'
 get:∀c,c<lo->h'.get c=h.get c
 low:lo<=h.low->lo<=h'.low
def Fr.refl(a:Nat)(h:H):Fr a h h:=⟨aw _,id,λ_ _=>rfl,id⟩
def Fr.trans{d:Nat}{h g i:H}(a:Fr d h g)(b:Fr d g i):Fr d h i:=⟨aT a.size b.size,λc=>b.hp (a.hp c),λf j=>(b.get f j).trans (a.get f j),λc=>b.low (a.low c)⟩
theorem Fr.cons{lo:Nat}{h:H}(hl:lo<=h.size)(a:iY):Fr lo h (h.cons a):=⟨dy,dy,λb c=>by simp;omega,id⟩
def Pd(h:H)(b:Nat)(i:iY)(c:Nat)(k:c<=h.low)(n:c<=b):c<=(dZ h b i).low:=by
 unfold dZ;cases a:h.put b i with
 |none=>exact k
 |some j=>
  obtain⟨d,g,l⟩:=h;have a:(gJ (Nat.blt b d) (dV (kO l (Nat.sub (Nat.sub d 1) b) i) λf=> @Bool.rec (λ_=>aa H) (some ⟨d,g,f⟩) (some ⟨d,b,f⟩) (Nat.blt b g)))=some j:=a;have⟨_,a⟩:=dQ.1 a;have⟨f,_,a⟩:=dI.1 a;show c<=j.low;cases m:Nat.blt b g<;>rw[m]at a<;>simp only[au]at a<;>subst a
  ·exact k
  omega
theorem Fr.put{b:Nat}{h:H}{a:Nat}{x:iY}(g:h.get a=some x)(f:b<=a)(d:iY):Fr b h (dZ h a d):=⟨dy,dy,λc j=>by rw[dN g,aq J],λi=>Pd h a d b i f⟩
def sR(h:H)(g:Nat)(d:T)(i:Nat)(b:List T):Prop:=
 (d= .dK [] false/\b=[])\/∃a c j f,g<=a/\d= .arr a c 0 b.length false/\h.get a=some ⟨i,c,j,f,false,b⟩
theorem sR.nil(h:H)(a b:Nat):sR h a (.dK [] false) b []:= .inl ⟨rfl,rfl⟩
theorem sR.cons{h:H}{lo:Nat}{f:T}{d:Nat}{b:List T}(a:sR h lo f d b)(n:iY):sR (h.cons n) lo f d b:=by
 rcases a with a|⟨g,i,m,j,k,l,c⟩
 ·exact .inl a
 ·have:=H.fh c;exact .inr ⟨g,i,m,j,k,l,by rw[dS,aq J];exact c⟩
theorem sR.iy{h:H}{d:Nat}{a:T}{f:Nat}{b:List T}(c:sR h d a f b):a.iy=true:=by
 rcases c with⟨rfl,_⟩|⟨g,i,m,j,k,rfl,l⟩<;>rfl
theorem sR.cells{h:H}{d:Nat}{a:T}{f:Nat}{b:List T}(c:sR h d a f b):a.cells=[a]:=by
 rcases c with⟨rfl,_⟩|⟨g,i,m,j,k,rfl,l⟩<;>rfl
def sR.fz{h:H}{g:Nat}{d:T}{i:Nat}{b a:List T}(f:sR h g d i b)(c:fQ (xS h 11) b=some a):TI.fz h d=some (sl a):=by
 rcases f with⟨rfl,rfl⟩|⟨j,k,o,l,m,rfl,n⟩
 ·have c:some []=some a:=c;simp_all
 simp_all[ig,wK]
def sR.rS{h:H}{i:Nat}{d:T}{j:Nat}{a b:List T}(c:sR h i d j a)(g:fQ (xS h 11) a=some b):TI.rS h d=some (sl b):=by
 rw[<-c.fz g];rcases c with⟨rfl,_⟩|⟨k,l,p,m,n,rfl,o⟩<;>rfl
@[simp]theorem YS {cx:Ctx} {mask:Nat} {e:Env} {h:H} (a:List ah) (b c:ab):jr (.call ⟨.builtin .append,a.toArray,#[b,c]⟩) cx mask e h=dV (fQ (fO cx mask e) a) λd=>(match d with| [f,g]=>iU cx h b c f g|_=>none):=rfl
def nq{b:Nat}{a:List T}(c:∀e∈a,e.cells.length=b):fits b a=true:=by
 cases a with
 |nil=>rfl
 |cons e a=>
  show Nat.beq (kY e.cells) b=true;rw[jW,c e dy];simp
def pq{h:H}{b bytes:Nat}{a:List T}(c:∀e∈a,e.cells.length=b)(d:1<=bytes)(f:a.length*bytes<=70368744177664):
 h.jo b bytes [] a=some (.arr h.size 0 0 a.length false,h.cons ⟨b,0,0,false,false,a⟩):=by
 unfold H.jo;rw[rL,ed,jW,iO,ed,nq c,nq dy];simp_all
def wW{h:H}{f bytes c d i:Nat}{j:Bool}{a b:List T}(g:h.get c=some ⟨f,d,i,j,false,a⟩)(k:∀e∈b,e.cells.length=f)(l:1<=bytes)(m:(a.length+b.length)*bytes<=70368744177664):
 h.mN f bytes c d a.length b=some (.arr c (d+1) 0 (a++b).length false,dZ h c ⟨f,d+1,i+1,false,false,a++b⟩):=by
 unfold H.mN;rw[g];simp only[ed,nY,aw,bA,aK,rL,jW,iO,nq k,zd g];simp_all
def sR.app{cx:Ctx}{h:H}{k:Nat}{c:T}{a:Nat}{d:List T}(w:sR h k c a d)(v:k<=h.size){q r l:ab}{A B b:Ty}(E:cx.ty q=some A)(F:A.u= .slice l)(G:cx.ty l=some b)(I:cx.ty r=some B)(K:B.u= .slice l)(y:b.size=a)(t:1<=b.bytes)
 {x:T} {xs:List T} (N:h.jw x=some xs) (o:∀e∈xs,e.cells.length=a) (M:(d.length+xs.length)*b.bytes<=70368744177664):
 ∃C m,iU cx h q r c x=some (.val C m)/\sR m k C a (d++xs)/\Fr k h m:=by
 have L:iU cx h q r c x=jI (h.append b.size b.bytes c xs):=by
  unfold iU pX nc;rw[E,ed,I,ed];simp only[F,G,K,N,ed];rw[y,nq o,iH]
 rw[L,y];cases xs with
 |nil=>
  refine⟨c,h,?_,by grind,Fr.refl _ _⟩;show jI (gJ (o9 c) (some (c,h)))=_;rcases w with⟨rfl,_⟩|⟨i,j,s,D,_,rfl,_⟩<;>rfl
 |cons f g=>
  rcases w with⟨rfl,rfl⟩|⟨i,j,s,D,z,rfl,p⟩
  ·refine⟨.arr h.size 0 0 (f::g).length false,h.cons ⟨a,0,0,false,false,f::g⟩,?_,.inr ⟨h.size,0,0,false,v,rfl,dy⟩,Fr.cons v _⟩;show jI (h.jo a b.bytes [] (f::g))=_;rw[pq o t (by grind)];rfl
  ·refine⟨.arr i (j+1) 0 (d++f::g).length false,dZ h i ⟨a,j+1,s+1,false,false,d++f::g⟩,?_,.inr ⟨i,j+1,s+1,false,z,rfl,by rw[dN p,ar rfl]⟩,Fr.put p z _⟩;show jI (h.mN a b.bytes i j d.length (f::g))=_;rw[wW p o t M];rfl
def sR.mn{cx:Ctx}{h:H}{c:Nat}{o:T}{a:Nat}{i:List T}(s:sR h c o a i)(r:c<=h.size){j k:ab}{n d:Ty}(l:cx.ty j=some n)(m:n.u= .slice k)(p:cx.ty k=some d)(t:d.size=a)(q:1<=d.bytes)
 {e:T} (z:e.cells.length=a) (A:(i.length+1)*d.bytes<=70368744177664):
 ∃g b,iU cx (h.cons ⟨a,0,0,true,false,[e]⟩) j j o (.arr h.size 0 0 1 false)=some (.val g b)/\sR b c g a (i++[e])/\Fr c h b:=by
 have⟨g,b,v,w,y⟩:=(s.cons ⟨a,0,0,true,false,[e]⟩).app (x:= .arr h.size 0 0 1 false) (xs:=[e]) dz l m p l m t q (by rw[ig];simp) (by grind) J;exact⟨g,b,v,w,(Fr.cons r _).trans y⟩
@[simp]def QQ (h:H) (a:iY):(h.cons a).low=h.low:=id rfl
@[simp]theorem H3 (h:H) (f c:iY) (g:Nat) (j:g=h.size) (hl:h.low<=h.size):dZ (h.cons f) g c=h.cons c:=by
 subst j;obtain⟨a,b,d⟩:=h;unfold dZ;have:(H.cons ⟨a,b,d⟩ f).put a c=some (H.cons ⟨a,b,d⟩ c):=by
  show(gJ (Nat.blt a (a+1)) (dV (kO (f::d) (Nat.sub (Nat.sub (a+1) 1) a) c) λi=> @Bool.rec (λ_=>aa H) (some ⟨a+1,b,i⟩) (some ⟨a+1,a,i⟩) (Nat.blt a b)))=some ⟨a+1,b,c::d⟩;rw[show Nat.blt a (a+1)=true by rw[aJ];omega,iH,kQ,show Nat.sub (Nat.sub (a+1) 1) a=0 by simp];simp only[aU,Nat.zero_lt_succ,bA,cq,ed];rw[show Nat.blt a b=false by rw[dh];intro k;rw[aJ]at k;grind]
 rw[this];rfl
@[simp]def ac4 (h:H) (i d:iY) (a:Nat) (j:a<h.size):dZ (h.cons i) a d=(dZ h a d).cons i:=by
 obtain⟨b,c,f⟩:=h;have j:a<b:=j;have k:(H.cons ⟨b,c,f⟩ i).put a d=gJ (Nat.blt a (b+1)) (dV (kO (i::f) (Nat.sub (Nat.sub (b+1) 1) a) d) λg=> @Bool.rec (λ_=>aa H) (some ⟨b+1,c,g⟩) (some ⟨b+1,a,g⟩) (Nat.blt a c)):=rfl;have l:(⟨b,c,f⟩:H).put a d=gJ (Nat.blt a b) (dV (kO f (Nat.sub (Nat.sub b 1) a) d) λg=> @Bool.rec (λ_=>aa H) (some ⟨b,c,g⟩) (some ⟨b,a,g⟩) (Nat.blt a c)):=rfl;unfold dZ;rw[k,l,show Nat.blt a (b+1)=true by rw[aJ];omega,show Nat.blt a b=true by rw[aJ];exact j,iH,iH,kQ,kQ,
  show Nat.sub (Nat.sub (b+1) 1) a=Nat.sub (Nat.sub b 1) a+1 by grind]
 by_cases hl:Nat.sub (Nat.sub b 1) a<f.length
 ·rw[ar (by grind),ar hl,ed,ed];cases Nat.blt a c<;>rfl
 simp_all[aq]
def dX(a:List T)(b:Nat)(c:List T):mG (.agg a) b c=dV (kX a b c) λd=>some (.agg d):=rfl
attribute [simp] dX
@[simp]def YK (b:ak) (c:Int) (a:T):mG (.int b c) 0 [a]=some a:=id rfl
@[simp]def Wl (b:Bool) (a:T):mG (.bool b) 0 [a]=some a:=id rfl
@[simp]def XA (a:Nat):lL [] a=false:=id rfl
@[simp]theorem VE (b d a:Nat) (c:List (Nat×Nat)):lL ((b,d)::c) a=(decide (b=a)||lL c a):=by
 unfold lL;rw[List.any_cons];rfl
@[simp]def abW (a b:Nat):AK [] a b=false:=id rfl
@[simp]theorem Y7 (c d a b:Nat) (f:List (Nat×Nat)):AK ((c,d)::f) a b=((decide (c=a)&&decide (d=b))||AK f a b):=by
 unfold AK;rw[List.any_cons];rfl
@[simp]def KL (a:List (Nat×Nat)) (b:Nat) (h:H) (c:List (Nat×Nat)):wN a b h h c=True:=by unfold wN;simp
@[simp]def abC {f:Type} (a b:Nat) (d:f) (c:List (Nat×f)):List.lookup a ((b,d)::c)=if a=b then some d else List.lookup a c:=by
 rw[List.lookup_cons]
 grind
def L9(a:T):Nat:=a.cells.length
@[simp]def adR (a:ak) (b:Int):L9 (.int a b)=1:=id rfl
@[simp]def acn (a:Bool):L9 (.bool a)=1:=id rfl
@[simp]def adQ (a:List Nat):L9 (.str a)=1:=id rfl
def Ol(cx:Ctx)(h:H)(c:Ty)(d:T)(f a b:aa Nat):aa lP:=gJ (jG cx h c.u d) (gJ (AG a b) (val h (pH (asSlice c.u d) f a b)))
def YQ(cx:Ctx)(mask:Nat)(e:Env)(a:aa ah):aa (aa Nat):=jT cx mask e a
section
variable {cx:Ctx}{mask:Nat}{e:Env}{h:H}
@[simp]def abl:YQ cx mask e none=some none:=id rfl
@[simp]def abk (a:ah):YQ cx mask e (some a)=dV (fO cx mask e a) λc=>dV (qn c) λb=>some (some b):=id rfl
@[simp]def abn (g:ab) (a:ah) (d b c:aa ah):jr (.slice g a d b c) cx mask e h=dV (cx.ty g) λf=>dV (fO cx mask e a) λa=>dV (YQ cx mask e d) λd=>dV (YQ cx mask e b) λb=>dV (YQ cx mask e c) λc=>Ol cx h f a d b c:=by
 show(dV (cx.ty g) λf=>dV (fO cx mask e a) λa=>gJ (jG cx h f.u a)<|dV (jT cx mask e d) λd=>dV (jT cx mask e b) λb=>dV (jT cx mask e c) λc=>gJ (AG b c) (val h (pH (asSlice f.u a) d b c)))=_;unfold YQ Ol;congr 1;funext f;congr 1;funext a;cases jG cx h f.u a with
 |true=>rfl
 |false=>
  simp only[NZ];cases jT cx mask e d<;>simp;cases jT cx mask e b<;>simp;cases jT cx mask e c<;>simp
def T1{d:Type}(c:List d)(b a:Nat)(g:b<=a)(f:a<=c.length):KS c b a=some ((c.drop b).take (a-b)):=by
 unfold KS;rw[mh,ar J,ed,nY];rw[ar (by grind)];rfl
def OO(d:List T)(a b:Nat)(o:a<=b)(n:b<=d.length)(f c:aa Nat)(k:gH f 0=a)(g:gH c d.length=b):pH (sl d) f c none=some (sl ((d.drop a).take (b-a))):=by
 cases d with
 |nil=>
  have l:b=0:=by grind
  subst l;have m:a=0:=J;subst m;show(gJ (Nat.beq (gH f 0) 0) (gJ (Nat.beq (gH c 0) 0) (some T.gX)))=_;have g:gH c 0=0:=g;rw[k,g];rfl
 |cons j i=>
  show ue (j::i) false (gH f 0) (gH c (kY (j::i))) none=_;rw[jW,k,g];unfold ue;rw[T1 _ _ _ o n,ed,show Nat.ble a b=true by simp_all,iH];cases (List.take (b-a) (List.drop a (j::i)))<;>rfl
def JM{d i:Ty}{f:ab}(g:d.u= .slice f)(ht:cx.ty f=some i){a:List T}(l:∀j∈a,j.cells.length=i.size){c b:aa Nat}(n:gH c 0<=gH b a.length)(m:gH b a.length<=a.length):
 Ol cx h d (sl a) c b none=some (.val (sl ((a.drop (gH c 0)).take (gH b a.length-gH c 0))) h):=by
 unfold Ol;have k:jG cx h d.u (sl a)=true:=by
  rw[g];unfold jG;simp only[ht];cases a with
  |nil=>rfl
  |cons j o=>exact nq l
 rw[k,iH,show AG b none=true from rfl,iH,show asSlice d.u (sl a)=sl a by rw[g];rfl,OO a _ _ n m c b rfl rfl];rfl
@[simp]def aeo {j:Type} (i d:Ty) (g:ab) (a:j->T) (b:List j) (c:Nat) (l:i.u= .slice g) (ht:cx.ty g=some d) (k:∀m,L9 (a m)=d.size) (n:c<=b.length):Ol cx h i (sl (b.map a)) none (some c) none=some (.val (sl ((b.take c).map a)) h):=by
 rw[JM l ht (by simpa using λf _=>show(a f).cells.length=d.size from k f) (by simp[gH]) (by grind [gH])];simp[gH,List.map_take]
@[simp]def aaL {j:Type} (i d:Ty) (g:ab) (a:j->T) (b:List j) (c:Nat) (l:i.u= .slice g) (ht:cx.ty g=some d) (k:∀m,L9 (a m)=d.size) (n:c<=b.length):Ol cx h i (sl (b.map a)) (some c) none none=some (.val (sl ((b.drop c).map a)) h):=by
 rw[JM l ht (by simpa using λf _=>show(a f).cells.length=d.size from k f) (by grind [gH]) (by simp[gH])];simp only[gH,aH,<-List.map_drop];rw[bJ dy]
@[simp]def ac3 {k:Type} (j f:Ty) (i:ab) (a:k->T) (d:List k) (c b:Nat) (m:j.u= .slice i) (ht:cx.ty i=some f) (l:∀n,L9 (a n)=f.size) (p:c<=b) (o:b<=d.length):Ol cx h j (sl (d.map a)) (some c) (some b) none=some (.val (sl (((d.drop c).take (b-c)).map a)) h):=by
 rw[JM m ht (by simpa using λg _=>show(a g).cells.length=f.size from l g) (by grind [gH]) (by grind [gH])];simp[gH,List.map_take,List.map_drop]
@[simp]def Lq (g k:Ty) (i:ab) (a c f d b:Nat) (q:Bool) (l:iY) (j:g.u= .slice i) (ht:cx.ty i=some k) (r:h.get a=some l) (s:l.sz=k.size) (n:b<=d):Ol cx h g (.arr a c f d false) none (some b) none=some (.val (.arr a c f b false) h):=by
 unfold Ol;have m:jG cx h g.u (.arr a c f d false)=true:=by
  rw[j];unfold jG;simp_all
 rw[m,iH,show AG (some b) none=true from rfl,iH,show asSlice g.u (.arr a c f d false)= .arr a c f d false by rw[j];rfl];show val h (gJ (Nat.ble 0 b) (gJ (Nat.ble b d) (dV (ir (Nat.add f 0)) λp=>dV (ir (Nat.sub b 0)) λo=>some (T.arr a c p o false))))=_;simp[n]
def Zg(cx:Ctx)(h:H)(d b:ab)(c:Ty)(a:T):aa lP:=match c.u with
 | .slice _=>val h (Et cx b a)
 | .str=>(match a with
  | .str _=>val h (conv cx b a)
  |_=>val h (HL cx h d a))
 |_=>val h (conv cx b a)
@[simp]theorem WZ (b a:ab) (c:ah):jr (.convert b a c) cx mask e h=dV (cx.ty b) λ_=>dV (fO cx mask e c) λd=>dV (cx.ty a) λf=>Zg cx h b a f d:=rfl
def Hc{k d:ab}{b:Ty}{c g:ak}{a:Int}(i:cx.ty d=some b)(f:b.u= .int c)(j:Lf c a=a):Zg cx h k d b (.int g a)=some (.val (.int c a) h):=by
 unfold Zg;rw[f];show val h (dV (cx.ty d) λb=>match b.u with
  | .int c=>(match(T.int g a)with| .int _ a=>qr c a|_=>none)
  | .str=>_
  |_=>none)=_
 rw[i,ed,f];simp[qr,j]
@[simp]def adP (k c:ab) (b:Ty) (j:ak) (a:Int) (g:cx.ty c=some b) (i:b.u= .int .i64) (d: -9223372036854775808<=a) (f:a<9223372036854775808):Zg cx h k c b (.int j a)=some (.val (.int .i64 a) h):=Hc g i (jH d f)
@[simp]def To (f:ab) (a b:ah):jr (.makeSlice f a b) cx mask e h=dV (cx.ty f) λd=>(match d.u with
 | .slice g=>dV (cx.ty g) λc=>dV (fO cx mask e a) λa=>dV (fO cx mask e b) λb=>dV (qn a) λa=>dV (qn b) λb=>
  gJ (decide (1<=c.size))<|gJ (decide (1<=c.bytes))<|gJ (decide (a<=b)) (gJ (decide (b*c.bytes<=70368744177664)) (some (.val (.arr h.size 0 0 a false) (h.cons ⟨c.size,0,0,decide (a=b),false,List.replicate a c.ku⟩))))
 |_=>none):=by
 show(dV (cx.ty f) λd=>_)=_;congr 1;funext d;cases d.u<;>first|rfl|skip
 simp
@[simp]def Vv (b:aj) (a:List ah):jr (.makeFunc (.func b) #[] a.toArray) cx mask e h=dV (fQ (fO cx mask e) a) λc=>some (.val (.func b c) h):=by
 show(dV (qz cx mask e a) λa=>val h (some (T.func b a)))=_;simp
end
def sR.Uq{cx:Ctx}{h:H}{d:Nat}{q:T}{b:Nat}{k:Type}{a:k->T}{g:List k}(w:sR h d q b (g.map a))(v:d<=h.size){i m:ab}{p f:Ty}(n:cx.ty i=some p)(o:p.u= .slice m)(r:cx.ty m=some f)(y:f.size=b)(s:1<=f.bytes)
 (t:∀x,L9 (a x)=b) (xs:List k) (z:(g.length+xs.length)*f.bytes<=70368744177664):
 ∃j c,iU cx h i i q (sl (xs.map a))=some (.val j c)/\sR c d j b ((g++xs).map a)/\Fr d h c:=by
 have⟨j,c,A,B,C⟩:=w.app (x:=sl (xs.map a)) (xs:=xs.map a) v n o r n o y s dy (by simpa using λl _=>show(a l).cells.length=b from t l) (by grind)
 grind
def sR.RP{cx:Ctx}{h:H}{f:Nat}{o:T}{c:Nat}{l:Type}{b:l->T}{i:List l}(w:sR h f o c (i.map b))(v:f<=h.size){j m:ab}{n g:Ty}(p:cx.ty j=some n)(q:n.u= .slice m)(r:cx.ty m=some g)(x:g.size=c)(s:1<=g.bytes)
 (t:∀a,L9 (b a)=c) (a:l) (y:(i.length+1)*g.bytes<=70368744177664):
 ∃k d,iU cx (h.cons ⟨c,0,0,true,false,[b a]⟩) j j o (.arr h.size 0 0 1 false)=some (.val k d)/\sR d f k c ((i++[a]).map b)/\Fr f h d:=by
 have⟨k,d,z,A,B⟩:=w.mn v p q r x s (e:=b a) (t a) (by grind)
 grind
def sR.fzM{h:H}{j:Nat}{b:T}{k:Nat}{d:Type}{f:d->T}{a:List d}(i:sR h j b k (a.map f))(g:∀c,xS h 11 (f c)=some (f c)):TI.rS h b=some (sl (a.map f)):=i.rS (Iu _ _ _ g)
def A6{c:ai}{cx:Ctx}{tb:fJ}{b:gG}(l:c.follows .mixedOrders=true)(jq:jg c cx){g:aj}{d:Func}{mask:Nat}{f:DL}(o:EI c cx g d mask f)(i:b.α->Nat)(hl:∀a,mp (b.A a)=true)(m:∀a,(b.A a).length<=d.ntmps)
 (n:∀a,b.pre a->∀j,mV j 0 (b.A a)->W (jy cx (qZ c cx tb) (i a) mask f (d.body.getD .skip) ⟨j,.nil⟩ hE) (zu cx mask d.results.toList λp h=>Le h p (b.R a))):b.Ok c cx g:=
 λa k=>ZC l jq o (Ep c cx tb) (hl a) (m a) (i a) (n a k)
attribute [simp] Rp
end
abbrev qP(a:T)(c:List T)(g:Nat):Prop:=a.cells=c/\L9 a=g/\(∀d e,mG a d e=dV (kX c d e) λh=>some (.agg h))/\a.iy=true/\cn a=a/\(∀b,rS b a=some a)/\(∀b f,xS b (f+2) a=some a)/\j2 a=true/\ni a=true
def m8{a b:List Nat}:T.str a=T.str b->a=b:=dy 
def io{c:ak}{a b:Int}:T.int c a=T.int c b->a=b:=dy 
def pk{a b:Bool}:T.bool a=T.bool b->a=b:=dy 
def iz{f:Type}{a:f->T}(h:∀d e,a d=a e->d=e)(b c:List f)(g:sl (b.map a)=sl (c.map a)):b=c:=jx h g
def CO(b:U)(a:Nat)(c:T):Ty:=⟨b,1,a,false,[c]⟩
def tR(d:List (Nat×Nat))(c a:Nat)(b:Bool)(e:List T):Ty:=⟨.struct d,c,a,b,e⟩
def Sx(d c e a:Nat)(b:Bool)(f:List T):Ty:=⟨.array d c,e,a,b,f⟩
@[simp]def afR (b:U) (a:Nat) (c:T):(CO b a c).size=1/\(CO b a c).bytes=a/\(CO b a c).u=b:=⟨rfl,rfl,rfl⟩
@[simp]def afV (d:List (Nat×Nat)) (a c:Nat) (e:Bool) (b:List T):(tR d a c e b).size=a/\(tR d a c e b).bytes=c/\(tR d a c e b).u= .struct d/\(tR d a c e b).ku= .agg b/\(tR d a c e b).zero=b/\∀f,kw (tR d a c e b) f=dV (takeN a f) λg=>some (.agg g):=⟨rfl,rfl,rfl,rfl,rfl,λ_=>rfl⟩
abbrev Oj(a:ak)(b:Nat):Ty:=CO (.int a) b (.int a 0)
abbrev tyB:Ty:=CO .bool 1 (.bool false)
abbrev tyZ:Ty:=CO .str 16 (.str [])
abbrev A8(a:Nat):Ty:=CO (.slice a) 24 (.dK [] false)
abbrev Oi(a:Nat):Ty:=CO (.ptr a) 8 .kH
@[simp]def afT (d:ak) (c:Nat) (b:T):(CO (.int d) c b).ku=b/\∀a,kw (CO (.int d) c b) a=a[0]? :=⟨rfl,λa=>kP a 0⟩
@[simp]def afU (c:Nat) (b:T):(CO .bool c b).ku=b/\∀a,kw (CO .bool c b) a=a[0]? :=⟨rfl,λa=>kP a 0⟩
@[simp]def afP (c:Nat) (b:T):(CO .str c b).ku=b/\∀a,kw (CO .str c b) a=a[0]? :=⟨rfl,λa=>kP a 0⟩
@[simp]def afQ (d c:Nat) (b:T):(CO (.slice d) c b).ku=b/\∀a,kw (CO (.slice d) c b) a=a[0]? :=⟨rfl,λa=>kP a 0⟩
@[simp]def afS (d c:Nat) (b:T):(CO (.ptr d) c b).ku=b/\∀a,kw (CO (.ptr d) c b) a=a[0]? :=⟨rfl,λa=>kP a 0⟩
def iX{b:ai}{cx:Ctx}{d:aj}{a:Func}(e:Nat)(c:DL)(f:b.funcs[d]? =some a)(g:xQ ⟨a,e,false,none⟩=true:=by kernel_rfl)(h:mX c (a.body.getD .skip)=true:=by kernel_rfl):EI b cx d a e c:=⟨f,g,h⟩
def gq(cx:Ctx)(c:Func)(f:Nat)(e:Bool):qN:=λb g a d=>tL cx b g c f e a d
def afh{a:ai}{cx:Ctx}(g:a.follows .mixedOrders=true)(jq:jg a cx){e:aj}{b:Func}{d:Nat}{c:Bool}(f:a.funcs[e]? =some b)(h:xQ ⟨b,d,c,none⟩=true:=by kernel_rfl):mE a cx e (gq cx b d c):=pM (F:=⟨b,d,c,none⟩) g jq f h
end
end Go.TI
namespace Go.Proofs.YtajpdafdickapaaGreatDoor
noncomputable section
open Go Go.TI
abbrev HA:Ty:=Oj .i64 8
abbrev EM:Ty:=Oj .i64 8
abbrev V7:Ty:=tyB
abbrev ty5:Ty:=Oj .u8 1
abbrev ty9:Ty:=tyZ
abbrev aeh:Ty:=Oj .i32 4
abbrev aaw:Ty:=A8 5
abbrev aat:Ty:=tR [(0,22),(1,22),(2,22),(3,5),(4,5)] 5 80 false [dD,dD,dD,.int .u8 0,.int .u8 0]
abbrev aas:Ty:=Oj .u16 2
abbrev aaq:Ty:=A8 150
abbrev aap:Ty:=A8 152
abbrev aan:Ty:=A8 145
abbrev SA:Ty:=A8 9
abbrev aal:Ty:=A8 154
abbrev aaj:Ty:=tR [(0,26),(1,27),(2,28),(3,29),(4,29),(5,30)] 6 144 false [dD,dD,dD,dD,dD,dD]
abbrev dC:Ty:=A8 143
abbrev dx:Ty:=A8 4
abbrev Oz:Ty:=A8 87
abbrev V8:Ty:=tR [(0,33),(1,3),(2,34),(3,35)] 4 80 false [dD,Z 0,dD,dD]
abbrev Sz:Ty:=A8 2
abbrev qm:Ty:=A8 3
abbrev ZU:Ty:=tR [(0,37),(4,38),(5,38),(6,39)] 7 152 false [dD,Z 0,dD,dD,dD,dD,dD]
abbrev V6:Ty:=A8 76
abbrev ZT:Ty:=tR [(0,32),(6,3),(7,41),(14,42)] 15 328 false [dD,dD,dD,dD,dD,dD,Z 0,dD,Z 0,dD,dD,dD,dD,dD,dD]
abbrev ZS:Ty:=A8 57
abbrev V5:Ty:=A8 82
abbrev ZR:Ty:=A8 121
abbrev ZQ:Ty:=tR [(0,37),(4,49),(5,49),(6,39),(7,34),(8,39)] 9 200 false [dD,Z 0,dD,dD,dD,dD,dD,dD,dD]
abbrev ZP:Ty:=tR [(0,3),(1,3),(2,3),(3,3),(4,3),(5,39)] 6 64 false [Z 0,Z 0,Z 0,Z 0,Z 0,dD]
abbrev ZO:Ty:=tR [(0,32),(6,42)] 7 168 false [dD,dD,dD,dD,dD,dD,dD]
abbrev ZN:Ty:=A8 44
abbrev ZM:Ty:=Oj .i64 8
abbrev Oy:Ty:=A8 39
abbrev ZL:Ty:=tR [(0,3),(1,3),(2,3),(3,2),(4,3),(5,39),(6,39)] 7 88 false [Z 0,Z 0,Z 0,Z 0,Z 0,dD,dD]
abbrev Sy:Ty:=tR [(0,3),(1,3)] 2 16 false [Z 0,Z 0]
abbrev HG:Ty:=tR [(0,3),(1,3),(2,4)] 3 24 false [Z 0,Z 0,.bool false]
abbrev ZK:Ty:=A8 37
abbrev ZJ:Ty:=tR [(0,44),(15,91)] 16 352 false [dD,dD,dD,dD,dD,dD,Z 0,dD,Z 0,dD,dD,dD,dD,dD,dD,dD]
abbrev ZI:Ty:=Oi 99
abbrev ZH:Ty:=tR [(0,22),(1,3)] 2 32 false [dD,Z 0]
abbrev U5:Ty:=A8 221
abbrev U4:Ty:=tR [(0,37),(4,38),(5,38),(6,105)] 7 152 false [dD,Z 0,dD,dD,dD,dD,dD]
abbrev U3:Ty:=A8 197
abbrev U2:Ty:=tR [(0,32),(6,110)] 7 168 false [dD,dD,dD,dD,dD,dD,dD]
abbrev Ff:Ty:=tR [(0,2),(1,4)] 2 16 false [Z 0,.bool false]
abbrev U1:Ty:=A8 242
abbrev U0:Ty:=A8 188
abbrev UZ:Ty:=tR [(0,129),(1,130)] 2 48 false [dD,dD]
abbrev aaD:Ty:=CO (.func) 8 (.kS)
abbrev HJ:Ty:=tR [(0,3),(1,39)] 2 32 false [Z 0,dD]
abbrev UY:Ty:=tR [(0,9),(1,3)] 2 24 false [.str [],Z 0]
abbrev UX:Ty:=tR [(0,9),(1,3),(2,3),(3,4),(4,2)] 5 48 false [.str [],Z 0,Z 0,.bool false,Z 0]
abbrev UW:Ty:=tR [(0,9),(1,4)] 2 24 false [.str [],.bool false]
abbrev UV:Ty:=tR [(0,3),(1,3),(2,3)] 3 24 false [Z 0,Z 0,Z 0]
abbrev aaC:Ty:=A8 237
abbrev aaB:Ty:=Oi 178
abbrev aaA:Ty:=tR [(0,173),(1,3)] 2 32 false [dD,Z 0]
abbrev aaz:Ty:=Oi 191
abbrev HI:Ty:=A8 230
abbrev UU:Ty:=tR [(0,9),(1,3),(2,29),(3,186)] 4 72 false [.str [],Z 0,dD,dD]
abbrev UT:Ty:=A8 195
abbrev US:Ty:=tR [(0,32),(6,29),(7,189),(8,3),(9,3)] 10 208 false [dD,dD,dD,dD,dD,dD,dD,dD,Z 0,Z 0]
abbrev UR:Ty:=tR [(0,3),(1,3),(2,3),(3,3),(4,2),(5,3)] 6 48 false [Z 0,Z 0,Z 0,Z 0,Z 0,Z 0]
abbrev UQ:Ty:=tR [(0,3),(1,189)] 2 32 false [Z 0,dD]
abbrev aay:Ty:=CO (.func) 8 (.kS)
abbrev aax:Ty:=CO (.func) 8 (.kS)
abbrev Ln:Ty:=tR [(0,3),(1,38),(2,73),(3,3)] 4 64 false [Z 0,dD,dD,Z 0]
abbrev aav:Ty:=Oi 224
abbrev UP:Ty:=tR [(0,97),(1,3),(2,3),(3,4),(4,4),(5,4),(6,4),(7,29)] 8 56 false [.kH,Z 0,Z 0,.bool false,.bool false,.bool false,.bool false,dD]
abbrev UO:Ty:=A8 228
abbrev UN:Ty:=tR [(0,3),(1,2),(2,9),(3,226)] 4 56 false [Z 0,Z 0,.str [],dD]
abbrev HH:Ty:=tR [(0,3),(1,3),(2,9),(3,9),(4,226),(5,228),(9,186),(10,186)] 11 176 false [Z 0,Z 0,.str [],.str [],dD,Z 0,Z 0,.str [],dD,dD,dD]
abbrev aau:Ty:=tR [(0,3),(1,9),(2,3)] 3 32 false [Z 0,.str [],Z 0]
abbrev UM:Ty:=tR [(0,3),(1,3),(2,9),(3,3),(4,2),(5,9)] 6 64 false [Z 0,Z 0,.str [],Z 0,Z 0,.str []]
abbrev aar:Ty:=Oi 252
abbrev UL:Ty:=tR [(0,132),(2,3),(3,186),(4,29),(5,29)] 6 128 false [dD,dD,Z 0,dD,dD,dD]
abbrev OB:Ty:=Oj .u64 8
abbrev aao:Ty:=Oi 242
abbrev aam:Ty:=Oj .i64 8
abbrev aak:Ty:=Oj .u32 4
abbrev UK:Ty:=Oj .u64 8
abbrev aai:Ty:=Oj .u64 8
abbrev aah:Ty:=Oi 3
abbrev aaf:Ty:=Sx 22 9 22 352 false (List.replicate 22 (T.str []))
abbrev aae:Ty:=Sx 256 4 256 256 false (List.replicate 256 (T.bool false))
abbrev aad:Ty:=Oi 335
abbrev aab:Ty:=CO (.iface) 16 (.kR)
abbrev aaa:Ty:=Oi 230
abbrev Z9:Ty:=CO (.func) 8 (.kS)
abbrev Z8:Ty:=Oj .i64 8
abbrev Z7:Ty:=Oi 379
abbrev Z6:Ty:=Sx 256 5 256 256 false (List.replicate 256 (T.int .u8 0))
abbrev Z5:Ty:=tR [(0,5),(1,5)] 2 2 false [.int .u8 0,.int .u8 0]
abbrev Z4:Ty:=Sx 16 372 32 32 false (List.replicate 32 (T.int .u8 0))
abbrev Z3:Ty:=tR [(0,9),(1,9),(2,341)] 3 48 false [.str [],.str [],.kR]
abbrev Z2:Ty:=Oi 5
abbrev Z1:Ty:=Oi 385
abbrev Z0:Ty:=tR [(0,9)] 1 16 false [.str []]
abbrev ZZ:Ty:=Sx 24 5 24 24 false (List.replicate 24 (T.int .u8 0))
abbrev ZY:Ty:=Sx 20 302 20 160 false (List.replicate 20 (T.int .u64 0))
abbrev ZX:Ty:=Sx 65 5 65 65 false (List.replicate 65 (T.int .u8 0))
abbrev ZW:Ty:=Sx 32 5 32 32 false (List.replicate 32 (T.int .u8 0))
abbrev ZV:Ty:=Sx 64 5 64 64 false (List.replicate 64 (T.int .u8 0))
def jq:Tree Ty:=(.node (.node (.node (.node (.node (.node (.node .nil 2 (HA) .nil) 3 (EM) (.node .nil 4 (V7) .nil)) 5 (ty5) (.node (.node .nil 9 (ty9) .nil) 21 (aeh) .nil)) 22 (aaw) (.node (.node (.node .nil 24 (aat) .nil) 25 (aas) .nil) 26 (aaq) (.node (.node .nil 27 (aap) .nil) 28 (aan) .nil))) 29 (SA) (.node (.node (.node (.node .nil 30 (aal) .nil) 32 (aaj) (.node .nil 33 (dC) .nil)) 34 (dx) (.node (.node .nil 35 (Oz) .nil) 37 (V8) .nil)) 38 (Sz) (.node (.node (.node .nil 39 (qm) .nil) 41 (ZU) .nil) 42 (V6) (.node (.node .nil 44 (ZT) .nil) 46 (ZS) .nil)))) 48 (V5) (.node (.node (.node (.node (.node .nil 49 (ZR) .nil) 51 (ZQ) (.node .nil 57 (ZP) .nil)) 66 (ZO) (.node (.node .nil 68 (ZN) .nil) 69 (ZM) .nil)) 73 (Oy) (.node (.node (.node .nil 76 (ZL) .nil) 82 (Sy) .nil) 87 (HG) (.node (.node .nil 91 (ZK) .nil) 93 (ZJ) .nil))) 97 (ZI) (.node (.node (.node (.node .nil 99 (ZH) .nil) 105 (U5) (.node .nil 107 (U4) .nil)) 110 (U3) (.node (.node .nil 112 (U2) .nil) 121 (Ff) .nil)) 129 (U1) (.node (.node (.node .nil 130 (U0) .nil) 132 (UZ) .nil) 137 (aaD) (.node (.node .nil 143 (HJ) .nil) 145 (UY) .nil))))) 150 (UX) (.node (.node (.node (.node (.node (.node .nil 152 (UW) .nil) 154 (UV) (.node .nil 173 (aaC) .nil)) 176 (aaB) (.node (.node .nil 178 (aaA) .nil) 185 (aaz) .nil)) 186 (HI) (.node (.node (.node .nil 188 (UU) .nil) 189 (UT) .nil) 191 (US) (.node (.node .nil 195 (UR) .nil) 197 (UQ) .nil))) 200 (aay) (.node (.node (.node (.node .nil 204 (aax) .nil) 221 (Ln) (.node .nil 222 (aav) .nil)) 224 (UP) (.node (.node .nil 226 (UO) .nil) 228 (UN) .nil)) 230 (HH) (.node (.node (.node .nil 237 (aau) .nil) 242 (UM) .nil) 250 (aar) (.node (.node .nil 252 (UL) .nil) 264 (OB) .nil)))) 279 (aao) (.node (.node (.node (.node (.node .nil 292 (aam) .nil) 300 (aak) (.node .nil 302 (UK) .nil)) 323 (aai) (.node (.node .nil 327 (aah) .nil) 332 (aaf) .nil)) 335 (aae) (.node (.node (.node .nil 339 (aad) .nil) 341 (aab) .nil) 345 (aaa) (.node (.node .nil 346 (Z9) .nil) 363 (Z8) .nil))) 366 (Z7) (.node (.node (.node (.node .nil 370 (Z6) .nil) 372 (Z5) (.node .nil 373 (Z4) .nil)) 379 (Z3) (.node (.node .nil 382 (Z2) .nil) 383 (Z1) .nil)) 385 (Z0) (.node (.node (.node .nil 388 (ZZ) .nil) 393 (ZY) .nil) 394 (ZX) (.node (.node .nil 395 (ZW) .nil) 396 (ZV) .nil))))))
def gl0:List T:=[T.str [118,97,114],T.str [118,111,108,97,116,105,108,101],T.str [109,117,116,101,120],T.str [114,119,108,111,99,107],T.str [99,111,110,100],T.str [102,117,116,117,114,101],T.str [116,104,114,101,97,100],T.str [105,102],T.str [101,108,115,101],T.str [119,104,105,108,101],T.str [108,111,99,107],T.str [114,101,97,100],T.str [119,114,105,116,101],T.str [116,114,97,110,115,97,99,116,105,111,110],T.str [97,116,111,109,105,99],T.str [119,97,105,116],T.str [110,111,116,105,102,121],T.str [110,111,116,105,102,121,97,108,108],T.str [115,112,97,119,110],T.str [106,111,105,110],T.str [115,101,116],T.str [103,101,116]]
def gl6:List T:=[T.int .u64 1,T.int .u64 10,T.int .u64 100,T.int .u64 1000,T.int .u64 10000,T.int .u64 100000,T.int .u64 1000000,T.int .u64 10000000,T.int .u64 100000000,T.int .u64 1000000000,T.int .u64 10000000000,T.int .u64 100000000000,T.int .u64 1000000000000,T.int .u64 10000000000000,T.int .u64 100000000000000,T.int .u64 1000000000000000,T.int .u64 10000000000000000,T.int .u64 100000000000000000,T.int .u64 1000000000000000000,T.int .u64 10000000000000000000]
def gl7:List T:=[T.int .u8 0,T.int .u8 1,T.int .u8 28,T.int .u8 2,T.int .u8 29,T.int .u8 14,T.int .u8 24,T.int .u8 3,T.int .u8 30,T.int .u8 22,T.int .u8 20,T.int .u8 15,T.int .u8 25,T.int .u8 17,T.int .u8 4,T.int .u8 8,T.int .u8 31,T.int .u8 27,T.int .u8 13,T.int .u8 23,T.int .u8 21,T.int .u8 19,T.int .u8 16,T.int .u8 7,T.int .u8 26,T.int .u8 12,T.int .u8 18,T.int .u8 6,T.int .u8 11,T.int .u8 5,T.int .u8 10,T.int .u8 9]
def gl8:List T:=[T.int .u8 0,T.int .u8 1,T.int .u8 56,T.int .u8 2,T.int .u8 57,T.int .u8 49,T.int .u8 28,T.int .u8 3,T.int .u8 61,T.int .u8 58,T.int .u8 42,T.int .u8 50,T.int .u8 38,T.int .u8 29,T.int .u8 17,T.int .u8 4,T.int .u8 62,T.int .u8 47,T.int .u8 59,T.int .u8 36,T.int .u8 45,T.int .u8 43,T.int .u8 51,T.int .u8 22,T.int .u8 53,T.int .u8 39,T.int .u8 33,T.int .u8 30,T.int .u8 24,T.int .u8 18,T.int .u8 12,T.int .u8 5,T.int .u8 63,T.int .u8 55,T.int .u8 48,T.int .u8 27,T.int .u8 60,T.int .u8 41,T.int .u8 37,T.int .u8 16,T.int .u8 46,T.int .u8 35,T.int .u8 44,T.int .u8 21,T.int .u8 52,T.int .u8 32,T.int .u8 23,T.int .u8 11,T.int .u8 54,T.int .u8 26,T.int .u8 40,T.int .u8 15,T.int .u8 34,T.int .u8 20,T.int .u8 31,T.int .u8 10,T.int .u8 25,T.int .u8 14,T.int .u8 19,T.int .u8 9,T.int .u8 13,T.int .u8 8,T.int .u8 7,T.int .u8 6]
def gls:Tree (List T):=(.node (.node (.node .nil 0 (gl0) .nil) 6 (gl6) .nil) 7 (gl7) (.node .nil 8 (gl8) .nil))
def cx:Ctx:={ty:=λb=>jq.find b,fn:=λ_=>none,gl:=λa=>gls.find a}
@[simp]def zR:cx.ty 2=some HA:=dG
@[simp]def mY:cx.ty 3=some EM:=dG
@[simp]def L4:cx.ty 4=some V7:=dG
@[simp]def Q9:cx.ty 5=some ty5:=dG
@[simp]def wO:cx.ty 9=some ty9:=dG
@[simp]def Re:cx.ty 22=some aaw:=dG
@[simp]def Rc:cx.ty 24=some aat:=dG
@[simp]def afz:cx.ty 25=some aas:=dG
@[simp]def XR:cx.ty 26=some aaq:=dG
@[simp]def Rb:cx.ty 27=some aap:=dG
@[simp]def XQ:cx.ty 28=some aan:=dG
@[simp]def qY:cx.ty 29=some SA:=dG
@[simp]def XP:cx.ty 30=some aal:=dG
@[simp]def afy:cx.ty 32=some aaj:=dG
@[simp]def KR:cx.ty 33=some dC:=dG
@[simp]def AZ:cx.ty 34=some dx:=dG
@[simp]def Em:cx.ty 35=some Oz:=dG
@[simp]def XO:cx.ty 37=some V8:=dG
@[simp]def pi:cx.ty 38=some Sz:=dG
@[simp]def j9:cx.ty 39=some qm:=dG
@[simp]def afx:cx.ty 41=some ZU:=dG
@[simp]def Ra:cx.ty 42=some V6:=dG
@[simp]def XN:cx.ty 44=some ZT:=dG
@[simp]def afw:cx.ty 46=some ZS:=dG
@[simp]def KQ:cx.ty 48=some V5:=dG
@[simp]def AY:cx.ty 49=some ZR:=dG
@[simp]def afv:cx.ty 51=some ZQ:=dG
@[simp]def afu:cx.ty 57=some ZP:=dG
@[simp]def afs:cx.ty 66=some ZO:=dG
@[simp]def XM:cx.ty 68=some ZN:=dG
@[simp]def afr:cx.ty 69=some ZM:=dG
@[simp]def XL:cx.ty 73=some Oy:=dG
@[simp]def Q8:cx.ty 76=some ZL:=dG
@[simp]def KP:cx.ty 82=some Sy:=dG
@[simp]def Ha:cx.ty 87=some HG:=dG
@[simp]def XJ:cx.ty 91=some ZK:=dG
@[simp]def afq:cx.ty 93=some ZJ:=dG
@[simp]def afp:cx.ty 97=some ZI:=dG
@[simp]def afo:cx.ty 99=some ZH:=dG
@[simp]def L8:cx.ty 105=some U5:=dG
@[simp]def adO:cx.ty 107=some U4:=dG
@[simp]def T0:cx.ty 110=some U3:=dG
@[simp]def adN:cx.ty 112=some U2:=dG
@[simp]def Cw:cx.ty 121=some Ff:=dG
@[simp]def adM:cx.ty 129=some U1:=dG
@[simp]def TZ:cx.ty 130=some U0:=dG
@[simp]def adL:cx.ty 132=some UZ:=dG
@[simp]def Hb:cx.ty 143=some HJ:=dG
@[simp]def TY:cx.ty 145=some UY:=dG
@[simp]def TX:cx.ty 150=some UX:=dG
@[simp]def L7:cx.ty 152=some UW:=dG
@[simp]def TW:cx.ty 154=some UV:=dG
@[simp]def zU:cx.ty 186=some HI:=dG
@[simp]def TV:cx.ty 188=some UU:=dG
@[simp]def L6:cx.ty 189=some UT:=dG
@[simp]def adK:cx.ty 191=some US:=dG
@[simp]def TU:cx.ty 195=some UR:=dG
@[simp]def TT:cx.ty 197=some UQ:=dG
@[simp]def L5:cx.ty 221=some Ln:=dG
@[simp]def adJ:cx.ty 224=some UP:=dG
@[simp]def adI:cx.ty 226=some UO:=dG
@[simp]def adH:cx.ty 228=some UN:=dG
@[simp]def zQ:cx.ty 230=some HH:=dG
@[simp]def adG:cx.ty 242=some UM:=dG
@[simp]def adF:cx.ty 252=some UL:=dG
@[simp]def TS:cx.ty 264=some OB:=dG
@[simp]def adE:cx.ty 302=some UK:=dG
