/- TiOut -/
import Derived.Test.YtajpdafdickapaaGreatDoorA6
import Derived.KernelRfl
set_option linter.all false
set_option maxRecDepth 100000
set_option maxHeartbeats 8000000
namespace Go.TI
theorem dG{p:Prop}(h:p:=by kernel_rfl):p:=h
end Go.TI
namespace Go.TI
noncomputable section
section
structure Fr(lo:Nat)(h h':H):Prop where
 size:h.size<=h'.size
 hp:Hp h->Hp h'
 get:∀c,c<lo->h'.get c=h.get c
 low:lo<=h.low->lo<=h'.low
def Fr.refl(a:Nat)(h:H):Fr a h h:=⟨au _,id,λ_ _=>rfl,id⟩
def Fr.trans{d:Nat}{h g i:H}(a:Fr d h g)(b:Fr d g i):Fr d h i:=⟨aO a.size b.size,λc=>b.hp (a.hp c),λf j=>(b.get f j).trans (a.get f j),λc=>b.low (a.low c)⟩
theorem Fr.cons{lo:Nat}{h:H}(hl:lo<=h.size)(a:iX):Fr lo h (h.cons a):=⟨dy,dy,λb c=>by simp;omega,id⟩
def PR(h:H)(b:Nat)(i:iX)(c:Nat)(k:c<=h.low)(n:c<=b):c<=(dY h b i).low:=by
 unfold dY;cases a:h.put b i with
 |none=>exact k
 |some j=>
  obtain⟨d,g,l⟩:=h;have a:(gX (Nat.blt b d) (dW (kO l (Nat.sub (Nat.sub d 1) b) i) λf=> @Bool.rec (λ_=>aa H) (some ⟨d,g,f⟩) (some ⟨d,b,f⟩) (Nat.blt b g)))=some j:=a;have⟨_,a⟩:=dQ.1 a;have⟨f,_,a⟩:=dI.1 a;show c<=j.low;cases m:Nat.blt b g<;>rw[m]at a<;>simp only[ar]at a<;>subst a
  ·exact k
  omega
theorem Fr.put{b:Nat}{h:H}{a:Nat}{x:iX}(g:h.get a=some x)(f:b<=a)(d:iX):Fr b h (dY h a d):=⟨dy,dy,λc j=>by rw[dN g,ao J],λi=>PR h a d b i f⟩
def sP(h:H)(g:Nat)(d:T)(i:Nat)(b:List T):Prop:=
 (d= .dK [] false/\b=[])\/∃a c j f,g<=a/\d= .arr a c 0 b.length false/\h.get a=some ⟨i,c,j,f,false,b⟩
theorem sP.nil(h:H)(a b:Nat):sP h a (.dK [] false) b []:= .inl ⟨rfl,rfl⟩
theorem sP.cons{h:H}{lo:Nat}{f:T}{d:Nat}{b:List T}(a:sP h lo f d b)(n:iX):sP (h.cons n) lo f d b:=by
 rcases a with a|⟨g,i,m,j,k,l,c⟩
 ·exact .inl a
 ·have:=H.fa c;exact .inr ⟨g,i,m,j,k,l,by rw[dT,ao J];exact c⟩
theorem sP.ir{h:H}{d:Nat}{a:T}{f:Nat}{b:List T}(c:sP h d a f b):a.ir=true:=by
 rcases c with⟨rfl,_⟩|⟨g,i,m,j,k,rfl,l⟩<;>rfl
theorem sP.cells{h:H}{d:Nat}{a:T}{f:Nat}{b:List T}(c:sP h d a f b):a.cells=[a]:=by
 rcases c with⟨rfl,_⟩|⟨g,i,m,j,k,rfl,l⟩<;>rfl
def sP.fz{h:H}{g:Nat}{d:T}{i:Nat}{b a:List T}(f:sP h g d i b)(c:fQ (ye h 11) b=some a):TI.fz h d=some (sl a):=by
 rcases f with⟨rfl,rfl⟩|⟨j,k,o,l,m,rfl,n⟩
 ·have c:some []=some a:=c;simp_all
 simp_all[ik,wQ]
def sP.qP{h:H}{i:Nat}{d:T}{j:Nat}{a b:List T}(c:sP h i d j a)(g:fQ (ye h 11) a=some b):TI.qP h d=some (sl b):=by
 rw[<-c.fz g];rcases c with⟨rfl,_⟩|⟨k,l,p,m,n,rfl,o⟩<;>rfl
@[simp]theorem ZK {cx:Ctx} {mask:Nat} {e:Env} {h:H} (a:List ah) (b c:ab):jr (.call ⟨.builtin .append,a.toArray,#[b,c]⟩) cx mask e h=dW (fQ (fN cx mask e) a) λd=>(match d with| [f,g]=>jc cx h b c f g|_=>none):=rfl
def ot{b:Nat}{a:List T}(c:∀e∈a,e.cells.length=b):fits b a=true:=by
 cases a with
 |nil=>rfl
 |cons e a=>
  show Nat.beq (kY e.cells) b=true;rw[j2,c e dy];simp
def pI{h:H}{b bytes:Nat}{a:List T}(c:∀e∈a,e.cells.length=b)(d:1<=bytes)(f:a.length*bytes<=70368744177664):
 h.jo b bytes [] a=some (.arr h.size 0 0 a.length false,h.cons ⟨b,0,0,false,false,a⟩):=by
 unfold H.jo;rw[rN,ed,j2,iM,ed,ot c,ot dy];simp_all
def w9{h:H}{f bytes c d i:Nat}{j:Bool}{a b:List T}(g:h.get c=some ⟨f,d,i,j,false,a⟩)(k:∀e∈b,e.cells.length=f)(l:1<=bytes)(m:(a.length+b.length)*bytes<=70368744177664):
 h.mR f bytes c d a.length b=some (.arr c (d+1) 0 (a++b).length false,dY h c ⟨f,d+1,i+1,false,false,a++b⟩):=by
 unfold H.mR;rw[g];simp only[ed,oh,au,bF,aK,rN,j2,iM,ot k,zu g];simp_all
def sP.app{cx:Ctx}{h:H}{k:Nat}{c:T}{a:Nat}{d:List T}(w:sP h k c a d)(v:k<=h.size){q r l:ab}{A B b:Ty}(E:cx.ty q=some A)(F:A.u= .slice l)(G:cx.ty l=some b)(I:cx.ty r=some B)(K:B.u= .slice l)(y:b.size=a)(t:1<=b.bytes)
 {x:T} {xs:List T} (N:h.jw x=some xs) (o:∀e∈xs,e.cells.length=a) (M:(d.length+xs.length)*b.bytes<=70368744177664):
 ∃C m,jc cx h q r c x=some (.val C m)/\sP m k C a (d++xs)/\Fr k h m:=by
 have L:jc cx h q r c x=jL (h.append b.size b.bytes c xs):=by
  unfold jc rm om;rw[E,ed,I,ed];simp only[F,G,K,N,ed];rw[y,ot o,iH]
 rw[L,y];cases xs with
 |nil=>
  refine⟨c,h,?_,by grind,Fr.refl _ _⟩;show jL (gX (pz c) (some (c,h)))=_;rcases w with⟨rfl,_⟩|⟨i,j,s,D,_,rfl,_⟩<;>rfl
 |cons f g=>
  rcases w with⟨rfl,rfl⟩|⟨i,j,s,D,z,rfl,p⟩
  ·refine⟨.arr h.size 0 0 (f::g).length false,h.cons ⟨a,0,0,false,false,f::g⟩,?_,.inr ⟨h.size,0,0,false,v,rfl,dy⟩,Fr.cons v _⟩;show jL (h.jo a b.bytes [] (f::g))=_;rw[pI o t (by grind)];rfl
  ·refine⟨.arr i (j+1) 0 (d++f::g).length false,dY h i ⟨a,j+1,s+1,false,false,d++f::g⟩,?_,.inr ⟨i,j+1,s+1,false,z,rfl,by rw[dN p,aq rfl]⟩,Fr.put p z _⟩;show jL (h.mR a b.bytes i j d.length (f::g))=_;rw[w9 p o t M];rfl
def sP.lP{cx:Ctx}{h:H}{c:Nat}{o:T}{a:Nat}{i:List T}(s:sP h c o a i)(r:c<=h.size){j k:ab}{n d:Ty}(l:cx.ty j=some n)(m:n.u= .slice k)(p:cx.ty k=some d)(t:d.size=a)(q:1<=d.bytes)
 {e:T} (z:e.cells.length=a) (A:(i.length+1)*d.bytes<=70368744177664):
 ∃g b,jc cx (h.cons ⟨a,0,0,true,false,[e]⟩) j j o (.arr h.size 0 0 1 false)=some (.val g b)/\sP b c g a (i++[e])/\Fr c h b:=by
 have⟨g,b,v,w,y⟩:=(s.cons ⟨a,0,0,true,false,[e]⟩).app (x:= .arr h.size 0 0 1 false) (xs:=[e]) dz l m p l m t q (by rw[ik];simp) (by grind) J;exact⟨g,b,v,w,(Fr.cons r _).trans y⟩
@[simp]def Rw (h:H) (a:iX):(h.cons a).low=h.low:=id rfl
@[simp]theorem Ir (h:H) (f c:iX) (g:Nat) (j:g=h.size) (hl:h.low<=h.size):dY (h.cons f) g c=h.cons c:=by
 subst j;obtain⟨a,b,d⟩:=h;unfold dY;have:(H.cons ⟨a,b,d⟩ f).put a c=some (H.cons ⟨a,b,d⟩ c):=by
  show(gX (Nat.blt a (a+1)) (dW (kO (f::d) (Nat.sub (Nat.sub (a+1) 1) a) c) λi=> @Bool.rec (λ_=>aa H) (some ⟨a+1,b,i⟩) (some ⟨a+1,a,i⟩) (Nat.blt a b)))=some ⟨a+1,b,c::d⟩;rw[show Nat.blt a (a+1)=true by rw[aJ];omega,iH,kR,show Nat.sub (Nat.sub (a+1) 1) a=0 by simp];simp only[aT,Nat.zero_lt_succ,bF,cB,ed];rw[show Nat.blt a b=false by rw[cC];intro k;rw[aJ]at k;grind]
 rw[this];rfl
@[simp]def adW (h:H) (i d:iX) (a:Nat) (j:a<h.size):dY (h.cons i) a d=(dY h a d).cons i:=by
 obtain⟨b,c,f⟩:=h;have j:a<b:=j;have k:(H.cons ⟨b,c,f⟩ i).put a d=gX (Nat.blt a (b+1)) (dW (kO (i::f) (Nat.sub (Nat.sub (b+1) 1) a) d) λg=> @Bool.rec (λ_=>aa H) (some ⟨b+1,c,g⟩) (some ⟨b+1,a,g⟩) (Nat.blt a c)):=rfl;have l:(⟨b,c,f⟩:H).put a d=gX (Nat.blt a b) (dW (kO f (Nat.sub (Nat.sub b 1) a) d) λg=> @Bool.rec (λ_=>aa H) (some ⟨b,c,g⟩) (some ⟨b,a,g⟩) (Nat.blt a c)):=rfl;unfold dY;rw[k,l,show Nat.blt a (b+1)=true by rw[aJ];omega,show Nat.blt a b=true by rw[aJ];exact j,iH,iH,kR,kR,
  show Nat.sub (Nat.sub (b+1) 1) a=Nat.sub (Nat.sub b 1) a+1 by grind]
 by_cases hl:Nat.sub (Nat.sub b 1) a<f.length
 ·rw[aq (by grind),aq hl,ed,ed];cases Nat.blt a c<;>rfl
 simp_all[ao]
def dX(a:List T)(b:Nat)(c:List T):mK (.agg a) b c=dW (kV a b c) λd=>some (.agg d):=rfl
attribute [simp] dX
@[simp]def ZC (b:ak) (c:Int) (a:T):mK (.int b c) 0 [a]=some a:=id rfl
@[simp]def Xu (b:Bool) (a:T):mK (.bool b) 0 [a]=some a:=id rfl
@[simp]def Yw (a:Nat):lM [] a=false:=id rfl
@[simp]theorem WA (b d a:Nat) (c:List (Nat×Nat)):lM ((b,d)::c) a=(decide (b=a)||lM c a):=by
 unfold lM;rw[List.any_cons];rfl
@[simp]def acK (a b:Nat):A2 [] a b=false:=id rfl
@[simp]theorem ZY (c d a b:Nat) (f:List (Nat×Nat)):A2 ((c,d)::f) a b=((decide (c=a)&&decide (d=b))||A2 f a b):=by
 unfold A2;rw[List.any_cons];rfl
@[simp]def Ll (a:List (Nat×Nat)) (b:Nat) (h:H) (c:List (Nat×Nat)):wV a b h h c=True:=by unfold wV;simp
@[simp]def acq {f:Type} (a b:Nat) (d:f) (c:List (Nat×f)):List.lookup a ((b,d)::c)=if a=b then some d else List.lookup a c:=by
 rw[List.lookup_cons]
 grind
def MK(a:T):Nat:=a.cells.length
@[simp]def aeH (a:ak) (b:Int):MK (.int a b)=1:=id rfl
@[simp]def adc (a:Bool):MK (.bool a)=1:=id rfl
@[simp]def aeG (a:List Nat):MK (.str a)=1:=id rfl
def O9(cx:Ctx)(h:H)(c:Ty)(d:T)(f a b:aa Nat):aa lQ:=gX (jJ cx h c.u d) (gX (AW a b) (val h (pT (asSlice c.u d) f a b)))
def ZI(cx:Ctx)(mask:Nat)(e:Env)(a:aa ah):aa (aa Nat):=jX cx mask e a
section
variable {cx:Ctx}{mask:Nat}{e:Env}{h:H}
@[simp]def ab8:ZI cx mask e none=some none:=id rfl
@[simp]def ab7 (a:ah):ZI cx mask e (some a)=dW (fN cx mask e a) λc=>dW (qu c) λb=>some (some b):=id rfl
@[simp]def aca (g:ab) (a:ah) (d b c:aa ah):jr (.slice g a d b c) cx mask e h=dW (cx.ty g) λf=>dW (fN cx mask e a) λa=>dW (ZI cx mask e d) λd=>dW (ZI cx mask e b) λb=>dW (ZI cx mask e c) λc=>O9 cx h f a d b c:=by
 show(dW (cx.ty g) λf=>dW (fN cx mask e a) λa=>gX (jJ cx h f.u a)<|dW (jX cx mask e d) λd=>dW (jX cx mask e b) λb=>dW (jX cx mask e c) λc=>gX (AW b c) (val h (pT (asSlice f.u a) d b c)))=_;unfold ZI O9;congr 1;funext f;congr 1;funext a;cases jJ cx h f.u a with
 |true=>rfl
 |false=>
  simp only[OJ];cases jX cx mask e d<;>simp;cases jX cx mask e b<;>simp;cases jX cx mask e c<;>simp
def UW{d:Type}(c:List d)(b a:Nat)(g:b<=a)(f:a<=c.length):Ls c b a=some ((c.drop b).take (a-b)):=by
 unfold Ls;rw[mn,aq J,ed,oh];rw[aq (by grind)];rfl
def Pv(d:List T)(a b:Nat)(o:a<=b)(n:b<=d.length)(f c:aa Nat)(k:gH f 0=a)(g:gH c d.length=b):pT (sl d) f c none=some (sl ((d.drop a).take (b-a))):=by
 cases d with
 |nil=>
  have l:b=0:=by grind
  subst l;have m:a=0:=J;subst m;show(gX (Nat.beq (gH f 0) 0) (gX (Nat.beq (gH c 0) 0) (some T.gW)))=_;have g:gH c 0=0:=g;rw[k,g];rfl
 |cons j i=>
  show ug (j::i) false (gH f 0) (gH c (kY (j::i))) none=_;rw[j2,k,g];unfold ug;rw[UW _ _ _ o n,ed,show Nat.ble a b=true by simp_all,iH];cases (List.take (b-a) (List.drop a (j::i)))<;>rfl
def Kk{d i:Ty}{f:ab}(g:d.u= .slice f)(ht:cx.ty f=some i){a:List T}(l:∀j∈a,j.cells.length=i.size){c b:aa Nat}(n:gH c 0<=gH b a.length)(m:gH b a.length<=a.length):
 O9 cx h d (sl a) c b none=some (.val (sl ((a.drop (gH c 0)).take (gH b a.length-gH c 0))) h):=by
 unfold O9;have k:jJ cx h d.u (sl a)=true:=by
  rw[g];unfold jJ;simp only[ht];cases a with
  |nil=>rfl
  |cons j o=>exact ot l
 rw[k,iH,show AW b none=true from rfl,iH,show asSlice d.u (sl a)=sl a by rw[g];rfl,Pv a _ _ n m c b rfl rfl];rfl
@[simp]def afe {j:Type} (i d:Ty) (g:ab) (a:j->T) (b:List j) (c:Nat) (l:i.u= .slice g) (ht:cx.ty g=some d) (k:∀m,MK (a m)=d.size) (n:c<=b.length):O9 cx h i (sl (b.map a)) none (some c) none=some (.val (sl ((b.take c).map a)) h):=by
 rw[Kk l ht (by simpa using λf _=>show(a f).cells.length=d.size from k f) (by simp[gH]) (by grind [gH])];simp[gH,List.map_take]
@[simp]def abx {j:Type} (i d:Ty) (g:ab) (a:j->T) (b:List j) (c:Nat) (l:i.u= .slice g) (ht:cx.ty g=some d) (k:∀m,MK (a m)=d.size) (n:c<=b.length):O9 cx h i (sl (b.map a)) (some c) none none=some (.val (sl ((b.drop c).map a)) h):=by
 rw[Kk l ht (by simpa using λf _=>show(a f).cells.length=d.size from k f) (by grind [gH]) (by simp[gH])];simp only[gH,aG,<-List.map_drop];rw[bL dy]
@[simp]def adV {k:Type} (j f:Ty) (i:ab) (a:k->T) (d:List k) (c b:Nat) (m:j.u= .slice i) (ht:cx.ty i=some f) (l:∀n,MK (a n)=f.size) (p:c<=b) (o:b<=d.length):O9 cx h j (sl (d.map a)) (some c) (some b) none=some (.val (sl (((d.drop c).take (b-c)).map a)) h):=by
 rw[Kk m ht (by simpa using λg _=>show(a g).cells.length=f.size from l g) (by grind [gH]) (by grind [gH])];simp[gH,List.map_take,List.map_drop]
@[simp]def LZ (g k:Ty) (i:ab) (a c f d b:Nat) (q:Bool) (l:iX) (j:g.u= .slice i) (ht:cx.ty i=some k) (r:h.get a=some l) (s:l.sz=k.size) (n:b<=d):O9 cx h g (.arr a c f d false) none (some b) none=some (.val (.arr a c f b false) h):=by
 unfold O9;have m:jJ cx h g.u (.arr a c f d false)=true:=by
  rw[j];unfold jJ;simp_all
 rw[m,iH,show AW (some b) none=true from rfl,iH,show asSlice g.u (.arr a c f d false)= .arr a c f d false by rw[j];rfl];show val h (gX (Nat.ble 0 b) (gX (Nat.ble b d) (dW (iq (Nat.add f 0)) λp=>dW (iq (Nat.sub b 0)) λo=>some (T.arr a c p o false))))=_;simp[n]
def Z7(cx:Ctx)(h:H)(d b:ab)(c:Ty)(a:T):aa lQ:=match c.u with
 | .slice _=>val h (Eh cx b a)
 | .str=>(match a with
  | .str _=>val h (conv cx b a)
  |_=>val h (Id cx h d a))
 |_=>val h (conv cx b a)
@[simp]theorem X4 (b a:ab) (c:ah):jr (.convert b a c) cx mask e h=dW (cx.ty b) λ_=>dW (fN cx mask e c) λd=>dW (cx.ty a) λf=>Z7 cx h b a f d:=rfl
def HG{k d:ab}{b:Ty}{c g:ak}{a:Int}(i:cx.ty d=some b)(f:b.u= .int c)(j:LP c a=a):Z7 cx h k d b (.int g a)=some (.val (.int c a) h):=by
 unfold Z7;rw[f];show val h (dW (cx.ty d) λb=>match b.u with
  | .int c=>(match(T.int g a)with| .int _ a=>qz c a|_=>none)
  | .str=>_
  |_=>none)=_
 rw[i,ed,f];simp[qz,j]
@[simp]def aeF (k c:ab) (b:Ty) (j:ak) (a:Int) (g:cx.ty c=some b) (i:b.u= .int .i64) (d: -9223372036854775808<=a) (f:a<9223372036854775808):Z7 cx h k c b (.int j a)=some (.val (.int .i64 a) h):=HG g i (jK d f)
@[simp]def Uo (f:ab) (a b:ah):jr (.makeSlice f a b) cx mask e h=dW (cx.ty f) λd=>(match d.u with
 | .slice g=>dW (cx.ty g) λc=>dW (fN cx mask e a) λa=>dW (fN cx mask e b) λb=>dW (qu a) λa=>dW (qu b) λb=>
  gX (decide (1<=c.size))<|gX (decide (1<=c.bytes))<|gX (decide (a<=b)) (gX (decide (b*c.bytes<=70368744177664)) (some (.val (.arr h.size 0 0 a false) (h.cons ⟨c.size,0,0,decide (a=b),false,List.replicate a c.kt⟩))))
 |_=>none):=by
 show(dW (cx.ty f) λd=>_)=_;congr 1;funext d;cases d.u<;>first|rfl|skip
 simp
@[simp]def Wq (b:aj) (a:List ah):jr (.makeFunc (.func b) #[] a.toArray) cx mask e h=dW (fQ (fN cx mask e) a) λc=>some (.val (.func b c) h):=by
 show(dW (qG cx mask e a) λa=>val h (some (T.func b a)))=_;simp
end
def sP.Vi{cx:Ctx}{h:H}{d:Nat}{q:T}{b:Nat}{k:Type}{a:k->T}{g:List k}(w:sP h d q b (g.map a))(v:d<=h.size){i m:ab}{p f:Ty}(n:cx.ty i=some p)(o:p.u= .slice m)(r:cx.ty m=some f)(y:f.size=b)(s:1<=f.bytes)
 (t:∀x,MK (a x)=b) (xs:List k) (z:(g.length+xs.length)*f.bytes<=70368744177664):
 ∃j c,jc cx h i i q (sl (xs.map a))=some (.val j c)/\sP c d j b ((g++xs).map a)/\Fr d h c:=by
 have⟨j,c,A,B,C⟩:=w.app (x:=sl (xs.map a)) (xs:=xs.map a) v n o r n o y s dy (by simpa using λl _=>show(a l).cells.length=b from t l) (by grind)
 grind
def sP.SP{cx:Ctx}{h:H}{f:Nat}{o:T}{c:Nat}{l:Type}{b:l->T}{i:List l}(w:sP h f o c (i.map b))(v:f<=h.size){j m:ab}{n g:Ty}(p:cx.ty j=some n)(q:n.u= .slice m)(r:cx.ty m=some g)(x:g.size=c)(s:1<=g.bytes)
 (t:∀a,MK (b a)=c) (a:l) (y:(i.length+1)*g.bytes<=70368744177664):
 ∃k d,jc cx (h.cons ⟨c,0,0,true,false,[b a]⟩) j j o (.arr h.size 0 0 1 false)=some (.val k d)/\sP d f k c ((i++[a]).map b)/\Fr f h d:=by
 have⟨k,d,z,A,B⟩:=w.lP v p q r x s (e:=b a) (t a) (by grind)
 grind
def sP.fzM{h:H}{j:Nat}{b:T}{k:Nat}{d:Type}{f:d->T}{a:List d}(i:sP h j b k (a.map f))(g:∀c,ye h 11 (f c)=some (f c)):TI.qP h b=some (sl (a.map f)):=i.qP (IT _ _ _ g)
def yW{c:ai}{cx:Ctx}{tb:fy}{b:fP}(l:c.follows .mixedOrders=true)(jq:jg c cx){g:aj}{d:Func}{mask:Nat}{f:DL}(o:Et c cx g d mask f)(i:b.α->Nat)(hl:∀a,mv (b.A a)=true)(m:∀a,(b.A a).length<=d.ntmps)
 (n:∀a,b.pre a->∀j,m7 j 0 (b.A a)->W (jB cx (rx c cx tb) (i a) mask f (d.body.getD .skip) ⟨j,.nil⟩ hE) (zU cx mask d.results.toList λp h=>LO h p (b.R a))):b.Ok c cx g:=
 λa k=>aao l jq o (Eb c cx tb) (hl a) (m a) (i a) (n a k)
attribute [simp] Sg
end
abbrev qV(a:T)(c:List T)(g:Nat):Prop:=a.cells=c/\MK a=g/\(∀d e,mK a d e=dW (kV c d e) λh=>some (.agg h))/\a.ir=true/\cn a=a/\(∀b,qP b a=some a)/\(∀b f,ye b (f+2) a=some a)/\j4 a=true/\nz a=true
def ni{a b:List Nat}:T.str a=T.str b->a=b:=dy 
def il{c:ak}{a b:Int}:T.int c a=T.int c b->a=b:=dy 
def pG{a b:Bool}:T.bool a=T.bool b->a=b:=dy 
def iw{f:Type}{a:f->T}(h:∀d e,a d=a e->d=e)(b c:List f)(g:sl (b.map a)=sl (c.map a)):b=c:=jz h g
def CJ(b:U)(a:Nat)(c:T):Ty:=⟨b,1,a,false,[c]⟩
def tQ(d:List (Nat×Nat))(c a:Nat)(b:Bool)(e:List T):Ty:=⟨.struct d,c,a,b,e⟩
def TJ(d c e a:Nat)(b:Bool)(f:List T):Ty:=⟨.array d c,e,a,b,f⟩
@[simp]def agH (b:U) (a:Nat) (c:T):(CJ b a c).size=1/\(CJ b a c).bytes=a/\(CJ b a c).u=b:=⟨rfl,rfl,rfl⟩
@[simp]def agL (d:List (Nat×Nat)) (a c:Nat) (e:Bool) (b:List T):(tQ d a c e b).size=a/\(tQ d a c e b).bytes=c/\(tQ d a c e b).u= .struct d/\(tQ d a c e b).kt= .agg b/\(tQ d a c e b).zero=b/\∀f,ku (tQ d a c e b) f=dW (takeN a f) λg=>some (.agg g):=⟨rfl,rfl,rfl,rfl,rfl,λ_=>rfl⟩
abbrev O8(a:ak)(b:Nat):Ty:=CJ (.int a) b (.int a 0)
abbrev tyB:Ty:=CJ .bool 1 (.bool false)
abbrev tyZ:Ty:=CJ .str 16 (.str [])
abbrev Bq(a:Nat):Ty:=CJ (.slice a) 24 (.dK [] false)
abbrev O7(a:Nat):Ty:=CJ (.ptr a) 8 .kE
@[simp]def agJ (d:ak) (c:Nat) (b:T):(CJ (.int d) c b).kt=b/\∀a,ku (CJ (.int d) c b) a=a[0]? :=⟨rfl,λa=>kP a 0⟩
@[simp]def agK (c:Nat) (b:T):(CJ .bool c b).kt=b/\∀a,ku (CJ .bool c b) a=a[0]? :=⟨rfl,λa=>kP a 0⟩
@[simp]def agF (c:Nat) (b:T):(CJ .str c b).kt=b/\∀a,ku (CJ .str c b) a=a[0]? :=⟨rfl,λa=>kP a 0⟩
@[simp]def agG (d c:Nat) (b:T):(CJ (.slice d) c b).kt=b/\∀a,ku (CJ (.slice d) c b) a=a[0]? :=⟨rfl,λa=>kP a 0⟩
@[simp]def agI (d c:Nat) (b:T):(CJ (.ptr d) c b).kt=b/\∀a,ku (CJ (.ptr d) c b) a=a[0]? :=⟨rfl,λa=>kP a 0⟩
def iQ{b:ai}{cx:Ctx}{d:aj}{a:Func}(e:Nat)(c:DL)(f:b.funcs[d]? =some a)(g:x8 ⟨a,e,false,none⟩=true:=by kernel_rfl)(h:nc c (a.body.getD .skip)=true:=by kernel_rfl):Et b cx d a e c:=⟨f,g,h⟩
def gq(cx:Ctx)(c:Func)(f:Nat)(e:Bool):qT:=λb g a d=>tL cx b g c f e a d
def af9{a:ai}{cx:Ctx}(g:a.follows .mixedOrders=true)(jq:jg a cx){e:aj}{b:Func}{d:Nat}{c:Bool}(f:a.funcs[e]? =some b)(h:x8 ⟨b,d,c,none⟩=true:=by kernel_rfl):mJ a cx e (gq cx b d c):=pW (F:=⟨b,d,c,none⟩) g jq f h
end
end Go.TI
namespace Go.Proofs.YtajpdafdickapaaGreatDoor
noncomputable section
open Go Go.TI
abbrev H5:Ty:=O8 .i64 8
abbrev Ev:Ty:=O8 .i64 8
abbrev Xh:Ty:=tyB
abbrev ty5:Ty:=O8 .u8 1
abbrev ty9:Ty:=tyZ
abbrev ae7:Ty:=O8 .i32 4
abbrev abi:Ty:=Bq 5
abbrev abf:Ty:=tQ [(0,22),(1,22),(2,22),(3,5),(4,5)] 5 80 false [dD,dD,dD,.int .u8 0,.int .u8 0]
abbrev abe:Ty:=O8 .u16 2
abbrev abc:Ty:=Bq 150
abbrev abb:Ty:=Bq 152
abbrev aa9:Ty:=Bq 145
abbrev TN:Ty:=Bq 9
abbrev aa7:Ty:=Bq 154
abbrev aa5:Ty:=tQ [(0,26),(1,27),(2,28),(3,29),(4,29),(5,30)] 6 144 false [dD,dD,dD,dD,dD,dD]
abbrev aa2:Ty:=Bq 143
abbrev aaY:Ty:=Bq 4
abbrev No:Ty:=Bq 87
abbrev TM:Ty:=tQ [(0,33),(1,3),(2,34),(3,35)] 4 80 false [dD,Z 0,dD,dD]
abbrev TL:Ty:=Bq 2
abbrev pS:Ty:=Bq 3
abbrev aaG:Ty:=tQ [(0,37),(4,38),(5,38),(6,39)] 7 152 false [dD,Z 0,dD,dD,dD,dD,dD]
abbrev Xg:Ty:=Bq 76
abbrev aaF:Ty:=tQ [(0,32),(6,3),(7,41),(14,42)] 15 328 false [dD,dD,dD,dD,dD,dD,Z 0,dD,Z 0,dD,dD,dD,dD,dD,dD]
abbrev aaE:Ty:=Bq 57
abbrev Xf:Ty:=Bq 82
abbrev aaD:Ty:=Bq 121
abbrev aaC:Ty:=tQ [(0,37),(4,49),(5,49),(6,39),(7,34),(8,39)] 9 200 false [dD,Z 0,dD,dD,dD,dD,dD,dD,dD]
abbrev aaB:Ty:=tQ [(0,3),(1,3),(2,3),(3,3),(4,3),(5,39)] 6 64 false [Z 0,Z 0,Z 0,Z 0,Z 0,dD]
abbrev aaA:Ty:=tQ [(0,32),(6,42)] 7 168 false [dD,dD,dD,dD,dD,dD,dD]
abbrev aaz:Ty:=Bq 44
abbrev aay:Ty:=O8 .i64 8
abbrev Kc:Ty:=Bq 39
abbrev aax:Ty:=tQ [(0,3),(1,3),(2,3),(3,2),(4,3),(5,39),(6,39)] 7 88 false [Z 0,Z 0,Z 0,Z 0,Z 0,dD,dD]
abbrev TK:Ty:=tQ [(0,3),(1,3)] 2 16 false [Z 0,Z 0]
abbrev H8:Ty:=tQ [(0,3),(1,3),(2,4)] 3 24 false [Z 0,Z 0,.bool false]
abbrev aaw:Ty:=Bq 37
abbrev aav:Ty:=tQ [(0,44),(15,91)] 16 352 false [dD,dD,dD,dD,dD,dD,Z 0,dD,Z 0,dD,dD,dD,dD,dD,dD,dD]
abbrev aau:Ty:=O7 99
abbrev dC:Ty:=tQ [(0,22),(1,3)] 2 32 false [dD,Z 0]
abbrev VY:Ty:=Bq 221
abbrev VX:Ty:=tQ [(0,37),(4,38),(5,38),(6,105)] 7 152 false [dD,Z 0,dD,dD,dD,dD,dD]
abbrev VW:Ty:=Bq 197
abbrev VV:Ty:=tQ [(0,32),(6,110)] 7 168 false [dD,dD,dD,dD,dD,dD,dD]
abbrev Fk:Ty:=tQ [(0,2),(1,4)] 2 16 false [Z 0,.bool false]
abbrev VU:Ty:=Bq 242
abbrev VT:Ty:=Bq 188
abbrev VS:Ty:=tQ [(0,129),(1,130)] 2 48 false [dD,dD]
abbrev abp:Ty:=CJ (.func) 8 (.kT)
abbrev Ib:Ty:=tQ [(0,3),(1,39)] 2 32 false [Z 0,dD]
abbrev VR:Ty:=tQ [(0,9),(1,3)] 2 24 false [.str [],Z 0]
abbrev VQ:Ty:=tQ [(0,9),(1,3),(2,3),(3,4),(4,2)] 5 48 false [.str [],Z 0,Z 0,.bool false,Z 0]
abbrev VP:Ty:=tQ [(0,9),(1,4)] 2 24 false [.str [],.bool false]
abbrev VO:Ty:=tQ [(0,3),(1,3),(2,3)] 3 24 false [Z 0,Z 0,Z 0]
abbrev abo:Ty:=Bq 237
abbrev abn:Ty:=O7 178
abbrev abm:Ty:=tQ [(0,173),(1,3)] 2 32 false [dD,Z 0]
abbrev abl:Ty:=O7 191
abbrev Ia:Ty:=Bq 230
abbrev VN:Ty:=tQ [(0,9),(1,3),(2,29),(3,186)] 4 72 false [.str [],Z 0,dD,dD]
abbrev VM:Ty:=Bq 195
abbrev VL:Ty:=tQ [(0,32),(6,29),(7,189),(8,3),(9,3)] 10 208 false [dD,dD,dD,dD,dD,dD,dD,dD,Z 0,Z 0]
abbrev VK:Ty:=tQ [(0,3),(1,3),(2,3),(3,3),(4,2),(5,3)] 6 48 false [Z 0,Z 0,Z 0,Z 0,Z 0,Z 0]
abbrev VJ:Ty:=tQ [(0,3),(1,189)] 2 32 false [Z 0,dD]
abbrev abk:Ty:=CJ (.func) 8 (.kT)
abbrev abj:Ty:=CJ (.func) 8 (.kT)
abbrev LW:Ty:=tQ [(0,3),(1,38),(2,73),(3,3)] 4 64 false [Z 0,dD,dD,Z 0]
abbrev abh:Ty:=O7 224
abbrev VI:Ty:=tQ [(0,97),(1,3),(2,3),(3,4),(4,4),(5,4),(6,4),(7,29)] 8 56 false [.kE,Z 0,Z 0,.bool false,.bool false,.bool false,.bool false,dD]
abbrev VH:Ty:=Bq 228
abbrev VG:Ty:=tQ [(0,3),(1,2),(2,9),(3,226)] 4 56 false [Z 0,Z 0,.str [],dD]
abbrev H9:Ty:=tQ [(0,3),(1,3),(2,9),(3,9),(4,226),(5,228),(9,186),(10,186)] 11 176 false [Z 0,Z 0,.str [],.str [],dD,Z 0,Z 0,.str [],dD,dD,dD]
abbrev abg:Ty:=tQ [(0,3),(1,9),(2,3)] 3 32 false [Z 0,.str [],Z 0]
abbrev VF:Ty:=tQ [(0,3),(1,3),(2,9),(3,3),(4,2),(5,9)] 6 64 false [Z 0,Z 0,.str [],Z 0,Z 0,.str []]
abbrev abd:Ty:=O7 252
abbrev VE:Ty:=tQ [(0,132),(2,3),(3,186),(4,29),(5,29)] 6 128 false [dD,dD,Z 0,dD,dD,dD]
abbrev Pm:Ty:=O8 .u64 8
abbrev aba:Ty:=O7 242
abbrev aa8:Ty:=O8 .i64 8
abbrev aa6:Ty:=O8 .u32 4
abbrev VD:Ty:=O8 .u64 8
abbrev aa4:Ty:=O8 .u64 8
abbrev aa3:Ty:=O7 3
abbrev aa1:Ty:=TJ 22 9 22 352 false (List.replicate 22 (T.str []))
abbrev aa0:Ty:=TJ 256 4 256 256 false (List.replicate 256 (T.bool false))
abbrev aaZ:Ty:=O7 335
abbrev aaX:Ty:=CJ (.iface) 16 (.kS)
abbrev aaW:Ty:=O7 230
abbrev aaV:Ty:=CJ (.func) 8 (.kT)
abbrev aaU:Ty:=O8 .i64 8
abbrev aaT:Ty:=O7 379
abbrev aaS:Ty:=TJ 256 5 256 256 false (List.replicate 256 (T.int .u8 0))
abbrev aaR:Ty:=tQ [(0,5),(1,5)] 2 2 false [.int .u8 0,.int .u8 0]
abbrev aaQ:Ty:=TJ 16 372 32 32 false (List.replicate 32 (T.int .u8 0))
abbrev aaP:Ty:=tQ [(0,9),(1,9),(2,341)] 3 48 false [.str [],.str [],.kS]
abbrev aaO:Ty:=O7 5
abbrev aaN:Ty:=O7 385
abbrev aaM:Ty:=tQ [(0,9)] 1 16 false [.str []]
abbrev aaL:Ty:=TJ 24 5 24 24 false (List.replicate 24 (T.int .u8 0))
abbrev aaK:Ty:=TJ 20 302 20 160 false (List.replicate 20 (T.int .u64 0))
abbrev aaJ:Ty:=TJ 65 5 65 65 false (List.replicate 65 (T.int .u8 0))
abbrev aaI:Ty:=TJ 32 5 32 32 false (List.replicate 32 (T.int .u8 0))
abbrev aaH:Ty:=TJ 64 5 64 64 false (List.replicate 64 (T.int .u8 0))
def jq:Tree Ty:=(.node (.node (.node (.node (.node (.node (.node .nil 2 (H5) .nil) 3 (Ev) (.node .nil 4 (Xh) .nil)) 5 (ty5) (.node (.node .nil 9 (ty9) .nil) 21 (ae7) .nil)) 22 (abi) (.node (.node (.node .nil 24 (abf) .nil) 25 (abe) .nil) 26 (abc) (.node (.node .nil 27 (abb) .nil) 28 (aa9) .nil))) 29 (TN) (.node (.node (.node (.node .nil 30 (aa7) .nil) 32 (aa5) (.node .nil 33 (aa2) .nil)) 34 (aaY) (.node (.node .nil 35 (No) .nil) 37 (TM) .nil)) 38 (TL) (.node (.node (.node .nil 39 (pS) .nil) 41 (aaG) .nil) 42 (Xg) (.node (.node .nil 44 (aaF) .nil) 46 (aaE) .nil)))) 48 (Xf) (.node (.node (.node (.node (.node .nil 49 (aaD) .nil) 51 (aaC) (.node .nil 57 (aaB) .nil)) 66 (aaA) (.node (.node .nil 68 (aaz) .nil) 69 (aay) .nil)) 73 (Kc) (.node (.node (.node .nil 76 (aax) .nil) 82 (TK) .nil) 87 (H8) (.node (.node .nil 91 (aaw) .nil) 93 (aav) .nil))) 97 (aau) (.node (.node (.node (.node .nil 99 (dC) .nil) 105 (VY) (.node .nil 107 (VX) .nil)) 110 (VW) (.node (.node .nil 112 (VV) .nil) 121 (Fk) .nil)) 129 (VU) (.node (.node (.node .nil 130 (VT) .nil) 132 (VS) .nil) 137 (abp) (.node (.node .nil 143 (Ib) .nil) 145 (VR) .nil))))) 150 (VQ) (.node (.node (.node (.node (.node (.node .nil 152 (VP) .nil) 154 (VO) (.node .nil 173 (abo) .nil)) 176 (abn) (.node (.node .nil 178 (abm) .nil) 185 (abl) .nil)) 186 (Ia) (.node (.node (.node .nil 188 (VN) .nil) 189 (VM) .nil) 191 (VL) (.node (.node .nil 195 (VK) .nil) 197 (VJ) .nil))) 200 (abk) (.node (.node (.node (.node .nil 204 (abj) .nil) 221 (LW) (.node .nil 222 (abh) .nil)) 224 (VI) (.node (.node .nil 226 (VH) .nil) 228 (VG) .nil)) 230 (H9) (.node (.node (.node .nil 237 (abg) .nil) 242 (VF) .nil) 250 (abd) (.node (.node .nil 252 (VE) .nil) 264 (Pm) .nil)))) 279 (aba) (.node (.node (.node (.node (.node .nil 292 (aa8) .nil) 300 (aa6) (.node .nil 302 (VD) .nil)) 323 (aa4) (.node (.node .nil 327 (aa3) .nil) 332 (aa1) .nil)) 335 (aa0) (.node (.node (.node .nil 339 (aaZ) .nil) 341 (aaX) .nil) 345 (aaW) (.node (.node .nil 346 (aaV) .nil) 363 (aaU) .nil))) 366 (aaT) (.node (.node (.node (.node .nil 370 (aaS) .nil) 372 (aaR) (.node .nil 373 (aaQ) .nil)) 379 (aaP) (.node (.node .nil 382 (aaO) .nil) 383 (aaN) .nil)) 385 (aaM) (.node (.node (.node .nil 388 (aaL) .nil) 393 (aaK) .nil) 394 (aaJ) (.node (.node .nil 395 (aaI) .nil) 396 (aaH) .nil))))))
def gl0:List T:=[T.str [118,97,114],T.str [118,111,108,97,116,105,108,101],T.str [109,117,116,101,120],T.str [114,119,108,111,99,107],T.str [99,111,110,100],T.str [102,117,116,117,114,101],T.str [116,104,114,101,97,100],T.str [105,102],T.str [101,108,115,101],T.str [119,104,105,108,101],T.str [108,111,99,107],T.str [114,101,97,100],T.str [119,114,105,116,101],T.str [116,114,97,110,115,97,99,116,105,111,110],T.str [97,116,111,109,105,99],T.str [119,97,105,116],T.str [110,111,116,105,102,121],T.str [110,111,116,105,102,121,97,108,108],T.str [115,112,97,119,110],T.str [106,111,105,110],T.str [115,101,116],T.str [103,101,116]]
def gl6:List T:=[T.int .u64 1,T.int .u64 10,T.int .u64 100,T.int .u64 1000,T.int .u64 10000,T.int .u64 100000,T.int .u64 1000000,T.int .u64 10000000,T.int .u64 100000000,T.int .u64 1000000000,T.int .u64 10000000000,T.int .u64 100000000000,T.int .u64 1000000000000,T.int .u64 10000000000000,T.int .u64 100000000000000,T.int .u64 1000000000000000,T.int .u64 10000000000000000,T.int .u64 100000000000000000,T.int .u64 1000000000000000000,T.int .u64 10000000000000000000]
def gl7:List T:=[T.int .u8 0,T.int .u8 1,T.int .u8 28,T.int .u8 2,T.int .u8 29,T.int .u8 14,T.int .u8 24,T.int .u8 3,T.int .u8 30,T.int .u8 22,T.int .u8 20,T.int .u8 15,T.int .u8 25,T.int .u8 17,T.int .u8 4,T.int .u8 8,T.int .u8 31,T.int .u8 27,T.int .u8 13,T.int .u8 23,T.int .u8 21,T.int .u8 19,T.int .u8 16,T.int .u8 7,T.int .u8 26,T.int .u8 12,T.int .u8 18,T.int .u8 6,T.int .u8 11,T.int .u8 5,T.int .u8 10,T.int .u8 9]
def gl8:List T:=[T.int .u8 0,T.int .u8 1,T.int .u8 56,T.int .u8 2,T.int .u8 57,T.int .u8 49,T.int .u8 28,T.int .u8 3,T.int .u8 61,T.int .u8 58,T.int .u8 42,T.int .u8 50,T.int .u8 38,T.int .u8 29,T.int .u8 17,T.int .u8 4,T.int .u8 62,T.int .u8 47,T.int .u8 59,T.int .u8 36,T.int .u8 45,T.int .u8 43,T.int .u8 51,T.int .u8 22,T.int .u8 53,T.int .u8 39,T.int .u8 33,T.int .u8 30,T.int .u8 24,T.int .u8 18,T.int .u8 12,T.int .u8 5,T.int .u8 63,T.int .u8 55,T.int .u8 48,T.int .u8 27,T.int .u8 60,T.int .u8 41,T.int .u8 37,T.int .u8 16,T.int .u8 46,T.int .u8 35,T.int .u8 44,T.int .u8 21,T.int .u8 52,T.int .u8 32,T.int .u8 23,T.int .u8 11,T.int .u8 54,T.int .u8 26,T.int .u8 40,T.int .u8 15,T.int .u8 34,T.int .u8 20,T.int .u8 31,T.int .u8 10,T.int .u8 25,T.int .u8 14,T.int .u8 19,T.int .u8 9,T.int .u8 13,T.int .u8 8,T.int .u8 7,T.int .u8 6]
def gls:Tree (List T):=(.node (.node (.node .nil 0 (gl0) .nil) 6 (gl6) .nil) 7 (gl7) (.node .nil 8 (gl8) .nil))
def cx:Ctx:={ty:=λb=>jq.find b,fn:=λ_=>none,gl:=λa=>gls.find a}
@[simp]def Ak:cx.ty 2=some H5:=dG
@[simp]def mz:cx.ty 3=some Ev:=dG
@[simp]def MF:cx.ty 4=some Xh:=dG
@[simp]def RT:cx.ty 5=some ty5:=dG
@[simp]def wW:cx.ty 9=some ty9:=dG
@[simp]def RZ:cx.ty 22=some abi:=dG
@[simp]def RY:cx.ty 24=some abf:=dG
@[simp]def RX:cx.ty 25=some abe:=dG
@[simp]def YM:cx.ty 26=some abc:=dG
@[simp]def RW:cx.ty 27=some abb:=dG
@[simp]def YL:cx.ty 28=some aa9:=dG
@[simp]def rn:cx.ty 29=some TN:=dG
@[simp]def YK:cx.ty 30=some aa7:=dG
@[simp]def agp:cx.ty 32=some aa5:=dG
@[simp]def Lr:cx.ty 33=some aa2:=dG
@[simp]def Bh:cx.ty 34=some aaY:=dG
@[simp]def D8:cx.ty 35=some No:=dG
@[simp]def YJ:cx.ty 37=some TM:=dG
@[simp]def pF:cx.ty 38=some TL:=dG
@[simp]def jQ:cx.ty 39=some pS:=dG
@[simp]def ago:cx.ty 41=some aaG:=dG
@[simp]def RV:cx.ty 42=some Xg:=dG
@[simp]def YI:cx.ty 44=some aaF:=dG
@[simp]def RU:cx.ty 46=some aaE:=dG
@[simp]def Lq:cx.ty 48=some Xf:=dG
@[simp]def Bg:cx.ty 49=some aaD:=dG
@[simp]def agn:cx.ty 51=some aaC:=dG
@[simp]def RS:cx.ty 57=some aaB:=dG
@[simp]def agm:cx.ty 66=some aaA:=dG
@[simp]def YH:cx.ty 68=some aaz:=dG
@[simp]def agl:cx.ty 69=some aay:=dG
@[simp]def RR:cx.ty 73=some Kc:=dG
@[simp]def RQ:cx.ty 76=some aax:=dG
@[simp]def Lp:cx.ty 82=some TK:=dG
@[simp]def HE:cx.ty 87=some H8:=dG
@[simp]def YG:cx.ty 91=some aaw:=dG
@[simp]def agk:cx.ty 93=some aav:=dG
@[simp]def agj:cx.ty 97=some aau:=dG
@[simp]def agi:cx.ty 99=some dC:=dG
@[simp]def MJ:cx.ty 105=some VY:=dG
@[simp]def aeE:cx.ty 107=some VX:=dG
@[simp]def UV:cx.ty 110=some VW:=dG
@[simp]def aeD:cx.ty 112=some VV:=dG
@[simp]def Cs:cx.ty 121=some Fk:=dG
@[simp]def aeC:cx.ty 129=some VU:=dG
@[simp]def UU:cx.ty 130=some VT:=dG
@[simp]def aeB:cx.ty 132=some VS:=dG
@[simp]def HF:cx.ty 143=some Ib:=dG
@[simp]def UT:cx.ty 145=some VR:=dG
@[simp]def US:cx.ty 150=some VQ:=dG
@[simp]def MI:cx.ty 152=some VP:=dG
@[simp]def UR:cx.ty 154=some VO:=dG
@[simp]def Al:cx.ty 186=some Ia:=dG
@[simp]def UQ:cx.ty 188=some VN:=dG
@[simp]def MH:cx.ty 189=some VM:=dG
@[simp]def aeA:cx.ty 191=some VL:=dG
@[simp]def UP:cx.ty 195=some VK:=dG
@[simp]def UO:cx.ty 197=some VJ:=dG
@[simp]def MG:cx.ty 221=some LW:=dG
@[simp]def aez:cx.ty 224=some VI:=dG
@[simp]def aey:cx.ty 226=some VH:=dG
@[simp]def aex:cx.ty 228=some VG:=dG
@[simp]def Aj:cx.ty 230=some H9:=dG
@[simp]def aew:cx.ty 242=some VF:=dG
@[simp]def aev:cx.ty 252=some VE:=dG
@[simp]def UN:cx.ty 264=some Pm:=dG
@[simp]def aeu:cx.ty 302=some VD:=dG
