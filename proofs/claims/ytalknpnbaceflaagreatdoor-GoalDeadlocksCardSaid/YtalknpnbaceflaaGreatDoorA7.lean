/- TiOut -/
import Derived.Test.YtalknpnbaceflaaGreatDoorA6
import Derived.KernelRfl
set_option linter.all false
set_option maxRecDepth 100000
set_option maxHeartbeats 0
namespace Go.TI
theorem dY{p:Prop}(h:p:=by kernel_rfl):p:=h
end Go.TI
namespace Go.TI
noncomputable section
section
structure Fr(lo:Nat)(h h':H):Prop where
 size:h.size<=h'.size
 hp:Hp h->Hp h'
 get:∀c,c<lo->h'.get c=h.get c
 low:lo<=h.low->lo<=h'.low
def Fr.refl(a:Nat)(h:H):Fr a h h:=⟨ax _,id,λ_ _=>rfl,id⟩
def Fr.trans{d:Nat}{h g i:H}(a:Fr d h g)(b:Fr d g i):Fr d h i:=⟨aU a.size b.size,λc=>b.hp (a.hp c),λf j=>(b.get f j).trans (a.get f j),λc=>b.low (a.low c)⟩
theorem Fr.cons{lo:Nat}{h:H}(hl:lo<=h.size)(a:jK):Fr lo h (h.cons a):=⟨G,G,λb c=>by simp;omega,id⟩
def SK(h:H)(b:Nat)(i:jK)(c:Nat)(k:c<=h.low)(n:c<=b):c<=(fJ h b i).low:=by
 unfold fJ;cases a:h.put b i with
 |none=>exact k
 |some j=>
  obtain⟨d,g,l⟩:=h;have a:(iS (Nat.blt b d) (J (mw l (Nat.sub (Nat.sub d 1) b) i) λf=> @Bool.rec (λ_=>aa H) (some ⟨d,g,f⟩) (some ⟨d,b,f⟩) (Nat.blt b g)))=some j:=a;have⟨_,a⟩:=fj.1 a;have⟨f,_,a⟩:=eg.1 a;show c<=j.low;cases m:Nat.blt b g<;>rw[m]at a<;>simp only[aw]at a<;>subst a
  ·exact k
  omega
theorem Fr.put{b:Nat}{h:H}{a:Nat}{x:jK}(g:h.get a=some x)(f:b<=a)(d:jK):Fr b h (fJ h a d):=⟨G,G,λc j=>by rw[eG g,Z B],λi=>SK h a d b i f⟩
def u7(h:H)(g:Nat)(d:T)(i:Nat)(b:List T):Prop:=
 (d= .V [] false/\b=[])\/∃a c j f,g<=a/\d= .arr a c 0 b.length false/\h.get a=some ⟨i,c,j,f,false,b⟩
theorem u7.nil(h:H)(a b:Nat):u7 h a (.V [] false) b []:= .inl ⟨rfl,rfl⟩
theorem u7.cons{h:H}{lo:Nat}{f:T}{d:Nat}{b:List T}(a:u7 h lo f d b)(n:jK):u7 (h.cons n) lo f d b:=by
 rcases a with a|⟨g,i,m,j,k,l,c⟩
 ·exact .inl a
 ·have:=H.gh c;exact .inr ⟨g,i,m,j,k,l,by rw[fk,Z B];exact c⟩
theorem u7.jc{h:H}{d:Nat}{a:T}{f:Nat}{b:List T}(c:u7 h d a f b):a.jc=true:=by
 rcases c with⟨rfl,_⟩|⟨g,i,m,j,k,rfl,l⟩<;>rfl
theorem u7.cells{h:H}{d:Nat}{a:T}{f:Nat}{b:List T}(c:u7 h d a f b):a.cells=[a]:=by
 rcases c with⟨rfl,_⟩|⟨g,i,m,j,k,rfl,l⟩<;>rfl
def u7.fz{h:H}{g:Nat}{d:T}{i:Nat}{b a:List T}(f:u7 h g d i b)(c:iH (Ae h 11) b=some a):TI.fz h d=some (sl a):=by
 rcases f with⟨rfl,rfl⟩|⟨j,k,o,l,m,rfl,n⟩
 ·have c:some []=some a:=c;simp_all
 simp_all[iR,xE]
def u7.rZ{h:H}{i:Nat}{d:T}{j:Nat}{a b:List T}(c:u7 h i d j a)(g:iH (Ae h 11) a=some b):TI.rZ h d=some (sl b):=by
 rw[<-c.fz g];rcases c with⟨rfl,_⟩|⟨k,l,p,m,n,rfl,o⟩<;>rfl
@[simp]theorem acj {cx:Ctx} {D:Nat} {e:Env} {h:H} (a:List ai) (b c:af):ke (.call ⟨.builtin .append,a.toArray,#[b,c]⟩) cx D e h=J (iH (iG cx D e) a) λd=>(match d with| [f,g]=>jx cx h b c f g|_=>none):=rfl
def mc{sz:Nat}{es:List T}(a:∀e∈es,e.cells.length=sz):fits sz es=true:=by
 cases es with
 |nil=>rfl
 |cons e es=>
  show Nat.beq (mJ e.cells) sz=true;rw[kE,a e G];simp
def qW{h:H}{b bytes:Nat}{a:List T}(c:∀e∈a,e.cells.length=b)(d:1<=bytes)(f:a.length*bytes<=70368744177664):
 h.jH b bytes [] a=some (.arr h.size 0 0 a.length false,h.cons ⟨b,0,0,false,false,a⟩):=by
 unfold H.jH;rw[qY,fw,kE,jt,fw,mc c,mc G];simp_all
def yZ{h:H}{f bytes c d i:Nat}{j:Bool}{a b:List T}(g:h.get c=some ⟨f,d,i,j,false,a⟩)(k:∀e∈b,e.cells.length=f)(l:1<=bytes)(m:(a.length+b.length)*bytes<=70368744177664):
 h.oz f bytes c d a.length b=some (.arr c (d+1) 0 (a++b).length false,fJ h c ⟨f,d+1,i+1,false,false,a++b⟩):=by
 unfold H.oz;rw[g];simp only[fw,pR,ax,bw,aL,qY,kE,jt,mc k,BE g];simp_all
def u7.app{cx:Ctx}{h:H}{k:Nat}{c:T}{a:Nat}{d:List T}(w:u7 h k c a d)(v:k<=h.size){q r l:af}{A D b:Ty}(I:cx.ty q=some A)(J:A.u= .slice l)(K:cx.ty l=some b)(L:cx.ty r=some D)(M:D.u= .slice l)(y:b.size=a)(t:1<=b.bytes)
 {x:T} {xs:List T} (P:h.j1 x=some xs) (o:∀e∈xs,e.cells.length=a) (O:(d.length+xs.length)*b.bytes<=70368744177664):
 ∃E m,jx cx h q r c x=some (.val E m)/\u7 m k E a (d++xs)/\Fr k h m:=by
 have N:jx cx h q r c x=kr (h.append b.size b.bytes c xs):=by
  unfold jx ql nD;rw[I,fw,L,fw];simp only[J,K,M,P,fw];rw[y,mc o,jf]
 rw[N,y];cases xs with
 |nil=>
  refine⟨c,h,?_,by grind,Fr.refl _ _⟩;show kr (iS (qQ c) (some (c,h)))=_;rcases w with⟨rfl,_⟩|⟨i,j,s,F,_,rfl,_⟩<;>rfl
 |cons f g=>
  rcases w with⟨rfl,rfl⟩|⟨i,j,s,F,z,rfl,p⟩
  ·refine⟨.arr h.size 0 0 (f::g).length false,h.cons ⟨a,0,0,false,false,f::g⟩,?_,.inr ⟨h.size,0,0,false,v,rfl,G⟩,Fr.cons v _⟩;show kr (h.jH a b.bytes [] (f::g))=_;rw[qW o t (by grind)];rfl
  ·refine⟨.arr i (j+1) 0 (d++f::g).length false,fJ h i ⟨a,j+1,s+1,false,false,d++f::g⟩,?_,.inr ⟨i,j+1,s+1,false,z,rfl,by rw[eG p,au rfl]⟩,Fr.put p z _⟩;show kr (h.oz a b.bytes i j d.length (f::g))=_;rw[yZ p o t O];rfl
def u7.m9{cx:Ctx}{h:H}{c:Nat}{o:T}{a:Nat}{i:List T}(s:u7 h c o a i)(r:c<=h.size){j k:af}{n d:Ty}(l:cx.ty j=some n)(m:n.u= .slice k)(p:cx.ty k=some d)(t:d.size=a)(q:1<=d.bytes)
 {e:T} (z:e.cells.length=a) (A:(i.length+1)*d.bytes<=70368744177664):
 ∃g b,jx cx (h.cons ⟨a,0,0,true,false,[e]⟩) j j o (.arr h.size 0 0 1 false)=some (.val g b)/\u7 b c g a (i++[e])/\Fr c h b:=by
 have⟨g,b,v,w,y⟩:=(s.cons ⟨a,0,0,true,false,[e]⟩).app (x:= .arr h.size 0 0 1 false) (xs:=[e]) dR l m p l m t q (by rw[iR];simp) (by grind) B;exact⟨g,b,v,w,(Fr.cons r _).trans y⟩
@[simp]def Uo (h:H) (a:jK):(h.cons a).low=h.low:=id rfl
@[simp]theorem Fh (h:H) (f c:jK) (g:Nat) (j:g=h.size) (hl:h.low<=h.size):fJ (h.cons f) g c=h.cons c:=by
 subst j;obtain⟨a,b,d⟩:=h;unfold fJ;have:(H.cons ⟨a,b,d⟩ f).put a c=some (H.cons ⟨a,b,d⟩ c):=by
  show(iS (Nat.blt a (a+1)) (J (mw (f::d) (Nat.sub (Nat.sub (a+1) 1) a) c) λi=> @Bool.rec (λ_=>aa H) (some ⟨a+1,b,i⟩) (some ⟨a+1,a,i⟩) (Nat.blt a b)))=some ⟨a+1,b,c::d⟩;rw[show Nat.blt a (a+1)=true by rw[aK];omega,jf,mz,show Nat.sub (Nat.sub (a+1) 1) a=0 by simp];simp only[aQ,Nat.zero_lt_succ,bw,cz,fw];rw[show Nat.blt a b=false by rw[dH];intro k;rw[aK]at k;grind]
 rw[this];rfl
@[simp]def agp (h:H) (i d:jK) (a:Nat) (j:a<h.size):fJ (h.cons i) a d=(fJ h a d).cons i:=by
 obtain⟨b,c,f⟩:=h;have j:a<b:=j;have k:(H.cons ⟨b,c,f⟩ i).put a d=iS (Nat.blt a (b+1)) (J (mw (i::f) (Nat.sub (Nat.sub (b+1) 1) a) d) λg=> @Bool.rec (λ_=>aa H) (some ⟨b+1,c,g⟩) (some ⟨b+1,a,g⟩) (Nat.blt a c)):=rfl;have l:(⟨b,c,f⟩:H).put a d=iS (Nat.blt a b) (J (mw f (Nat.sub (Nat.sub b 1) a) d) λg=> @Bool.rec (λ_=>aa H) (some ⟨b,c,g⟩) (some ⟨b,a,g⟩) (Nat.blt a c)):=rfl;unfold fJ;rw[k,l,show Nat.blt a (b+1)=true by rw[aK];omega,show Nat.blt a b=true by rw[aK];exact j,jf,jf,mz,mz,
  show Nat.sub (Nat.sub (b+1) 1) a=Nat.sub (Nat.sub b 1) a+1 by grind]
 by_cases hl:Nat.sub (Nat.sub b 1) a<f.length
 ·rw[au (by grind),au hl,fw,fw];cases Nat.blt a c<;>rfl
 simp_all[Z]
def fG(a:List T)(b:Nat)(c:List T):mS (.eZ a) b c=J (mG a b c) λd=>some (.eZ d):=rfl
attribute [simp] fG
@[simp]def ace (b:ao) (c:Int) (a:T):mS (.int b c) 0 [a]=some a:=id rfl
@[simp]def aaa (b:Bool) (a:T):mS (.ez b) 0 [a]=some a:=id rfl
@[simp]def aba (a:Nat):m7 [] a=false:=id rfl
@[simp]theorem Zt (b d a:Nat) (c:List (Nat×Nat)):m7 ((b,d)::c) a=(decide (b=a)||m7 c a):=by
 unfold m7;rw[List.any_cons];rfl
@[simp]def afc (a b:Nat):C1 [] a b=false:=id rfl
@[simp]theorem acx (c d a b:Nat) (f:List (Nat×Nat)):C1 ((c,d)::f) a b=((decide (c=a)&&decide (d=b))||C1 f a b):=by
 unfold C1;rw[List.any_cons];rfl
@[simp]def NP (a:List (Nat×Nat)) (b:Nat) (h:H) (c:List (Nat×Nat)):yU a b h h c=True:=by unfold yU;simp
@[simp]def aeT {f:Type} (a b:Nat) (d:f) (c:List (Nat×f)):List.lookup a ((b,d)::c)=if a=b then some d else List.lookup a c:=by
 rw[List.lookup_cons]
 grind
def NZ(a:T):Nat:=a.cells.length
@[simp]def ahf (a:ao) (b:Int):NZ (.int a b)=1:=id rfl
@[simp]def afB (a:Bool):NZ (.ez a)=1:=id rfl
@[simp]def ahe (a:List Nat):NZ (.str a)=1:=id rfl
def Kq(cx:Ctx)(h:H)(c:Ty)(d:T)(f a b:aa Nat):aa nh:=iS (jW cx h c.u d) (iS (BS a b) (val h (rG (asSlice c.u d) f a b)))
def oiK(cx:Ctx)(D:Nat)(e:Env)(a:aa ai):aa (aa Nat):=kN cx D e a
section
variable {cx:Ctx}{D:Nat}{e:Env}{h:H}
@[simp]def aeD:oiK cx D e none=some none:=id rfl
@[simp]def aeC (a:ai):oiK cx D e (some a)=J (iG cx D e a) λc=>J (sL c) λb=>some (some b):=id rfl
@[simp]def aeF (g:af) (a:ai) (d b c:aa ai):ke (.slice g a d b c) cx D e h=J (cx.ty g) λf=>J (iG cx D e a) λa=>J (oiK cx D e d) λd=>J (oiK cx D e b) λb=>J (oiK cx D e c) λc=>Kq cx h f a d b c:=by
 show(J (cx.ty g) λf=>J (iG cx D e a) λa=>iS (jW cx h f.u a)<|J (kN cx D e d) λd=>J (kN cx D e b) λb=>J (kN cx D e c) λc=>iS (BS b c) (val h (rG (asSlice f.u a) d b c)))=_;unfold oiK Kq;congr 1;funext f;congr 1;funext a;cases jW cx h f.u a with
 |true=>rfl
 |false=>
  simp only[Ry];cases kN cx D e d<;>simp;cases kN cx D e b<;>simp;cases kN cx D e c<;>simp
def Py{d:Type}(c:List d)(b a:Nat)(g:b<=a)(f:a<=c.length):NY c b a=some ((c.drop b).take (a-b)):=by
 unfold NY;rw[nO,au B,fw,pR];rw[au (by grind)];rfl
def Sp(d:List T)(a b:Nat)(o:a<=b)(n:b<=d.length)(f c:aa Nat)(k:iT f 0=a)(g:iT c d.length=b):rG (sl d) f c none=some (sl ((d.drop a).take (b-a))):=by
 cases d with
 |nil=>
  have l:b=0:=by grind
  subst l;have m:a=0:=B;subst m;show(iS (Nat.beq (iT f 0) 0) (iS (Nat.beq (iT c 0) 0) (some T.iX)))=_;have g:iT c 0=0:=g;rw[k,g];rfl
 |cons j i=>
  show rE (j::i) false (iT f 0) (iT c (mJ (j::i))) none=_;rw[kE,k,g];unfold rE;rw[Py _ _ _ o n,fw,show Nat.ble a b=true by simp_all,jf];cases (List.take (b-a) (List.drop a (j::i)))<;>rfl
def MI{d i:Ty}{f:af}(g:d.u= .slice f)(ht:cx.ty f=some i){a:List T}(l:∀j∈a,j.cells.length=i.size){c b:aa Nat}(n:iT c 0<=iT b a.length)(m:iT b a.length<=a.length):
 Kq cx h d (sl a) c b none=some (.val (sl ((a.drop (iT c 0)).take (iT b a.length-iT c 0))) h):=by
 unfold Kq;have k:jW cx h d.u (sl a)=true:=by
  rw[g];unfold jW;simp only[ht];cases a with
  |nil=>rfl
  |cons j o=>exact mc l
 rw[k,jf,show BS b none=true from rfl,jf,show asSlice d.u (sl a)=sl a by rw[g];rfl,Sp a _ _ n m c b rfl rfl];rfl
@[simp]def ahL {j:Type} (i d:Ty) (g:af) (a:j->T) (b:List j) (c:Nat) (l:i.u= .slice g) (ht:cx.ty g=some d) (k:∀m,NZ (a m)=d.size) (n:c<=b.length):Kq cx h i (sl (b.map a)) none (some c) none=some (.val (sl ((b.take c).map a)) h):=by
 rw[MI l ht (by simpa using λf _=>show(a f).cells.length=d.size from k f) (by simp[iT]) (by grind [iT])];simp[iT,List.map_take]
@[simp]def ad5 {j:Type} (i d:Ty) (g:af) (a:j->T) (b:List j) (c:Nat) (l:i.u= .slice g) (ht:cx.ty g=some d) (k:∀m,NZ (a m)=d.size) (n:c<=b.length):Kq cx h i (sl (b.map a)) (some c) none none=some (.val (sl ((b.drop c).map a)) h):=by
 rw[MI l ht (by simpa using λf _=>show(a f).cells.length=d.size from k f) (by grind [iT]) (by simp[iT])];simp only[iT,aI,<-List.map_drop];rw[bQ G]
@[simp]def ago {k:Type} (j f:Ty) (i:af) (a:k->T) (d:List k) (c b:Nat) (m:j.u= .slice i) (ht:cx.ty i=some f) (l:∀n,NZ (a n)=f.size) (p:c<=b) (o:b<=d.length):Kq cx h j (sl (d.map a)) (some c) (some b) none=some (.val (sl (((d.drop c).take (b-c)).map a)) h):=by
 rw[MI m ht (by simpa using λg _=>show(a g).cells.length=f.size from l g) (by grind [iT]) (by grind [iT])];simp[iT,List.map_take,List.map_drop]
@[simp]def OH (g k:Ty) (i:af) (a c f d b:Nat) (q:Bool) (l:jK) (j:g.u= .slice i) (ht:cx.ty i=some k) (r:h.get a=some l) (s:l.sz=k.size) (n:b<=d):Kq cx h g (.arr a c f d false) none (some b) none=some (.val (.arr a c f b false) h):=by
 unfold Kq;have m:jW cx h g.u (.arr a c f d false)=true:=by
  rw[j];unfold jW;simp_all
 rw[m,jf,show BS (some b) none=true from rfl,jf,show asSlice g.u (.arr a c f d false)= .arr a c f d false by rw[j];rfl];show val h (iS (Nat.ble 0 b) (iS (Nat.ble b d) (J (jd (Nat.add f 0)) λp=>J (jd (Nat.sub b 0)) λo=>some (T.arr a c p o false))))=_;simp[n]
def cvK(cx:Ctx)(h:H)(d b:af)(c:Ty)(a:T):aa nh:=match c.u with
 | .slice _=>val h (GI cx b a)
 | .str=>(match a with
  | .str _=>val h (conv cx b a)
  |_=>val h (Kk cx h d a))
 |_=>val h (conv cx b a)
@[simp]theorem aaI (b a:af) (c:ai):ke (.convert b a c) cx D e h=J (cx.ty b) λ_=>J (iG cx D e c) λd=>J (cx.ty a) λf=>cvK cx h b a f d:=rfl
def JF{k d:af}{b:Ty}{c g:ao}{a:Int}(i:cx.ty d=some b)(f:b.u= .int c)(j:Or c a=a):cvK cx h k d b (.int g a)=some (.val (.int c a) h):=by
 unfold cvK;rw[f];show val h (J (cx.ty d) λb=>match b.u with
  | .int c=>(match(T.int g a)with| .int _ a=>sP c a|_=>none)
  | .str=>_
  |_=>none)=_
 rw[i,fw,f];simp[sP,j]
@[simp]def ahd (k c:af) (b:Ty) (j:ao) (a:Int) (g:cx.ty c=some b) (i:b.u= .int .i64) (d: -9223372036854775808<=a) (f:a<9223372036854775808):cvK cx h k c b (.int j a)=some (.val (.int .i64 a) h):=JF g i (kG d f)
@[simp]def W8 (f:af) (a b:ai):ke (.makeSlice f a b) cx D e h=J (cx.ty f) λd=>(match d.u with
 | .slice g=>J (cx.ty g) λc=>J (iG cx D e a) λa=>J (iG cx D e b) λb=>J (sL a) λa=>J (sL b) λb=>
  iS (decide (1<=c.size))<|iS (decide (1<=c.bytes))<|iS (decide (a<=b)) (iS (decide (b*c.bytes<=70368744177664)) (some (.val (.arr h.size 0 0 a false) (h.cons ⟨c.size,0,0,decide (a=b),false,List.replicate a c.lH⟩))))
 |_=>none):=by
 show(J (cx.ty f) λd=>_)=_;congr 1;funext d;cases d.u<;>first|rfl|skip
 simp
@[simp]def Zk (b:ak) (a:List ai):ke (.makeFunc (.func b) #[] a.toArray) cx D e h=J (iH (iG cx D e) a) λc=>some (.val (.func b c) h):=by
 show(J (s7 cx D e a) λa=>val h (some (T.func b a)))=_;simp
end
def u7.X9{cx:Ctx}{h:H}{d:Nat}{q:T}{b:Nat}{k:Type}{a:k->T}{g:List k}(w:u7 h d q b (g.map a))(v:d<=h.size){i m:af}{p f:Ty}(n:cx.ty i=some p)(o:p.u= .slice m)(r:cx.ty m=some f)(y:f.size=b)(s:1<=f.bytes)
 (t:∀x,NZ (a x)=b) (xs:List k) (z:(g.length+xs.length)*f.bytes<=70368744177664):
 ∃j c,jx cx h i i q (sl (xs.map a))=some (.val j c)/\u7 c d j b ((g++xs).map a)/\Fr d h c:=by
 have⟨j,c,A,D,E⟩:=w.app (x:=sl (xs.map a)) (xs:=xs.map a) v n o r n o y s G (by simpa using λl _=>show(a l).cells.length=b from t l) (by grind)
 grind
def u7.Vp{cx:Ctx}{h:H}{f:Nat}{o:T}{c:Nat}{l:Type}{b:l->T}{i:List l}(w:u7 h f o c (i.map b))(v:f<=h.size){j m:af}{n g:Ty}(p:cx.ty j=some n)(q:n.u= .slice m)(r:cx.ty m=some g)(x:g.size=c)(s:1<=g.bytes)
 (t:∀a,NZ (b a)=c) (a:l) (y:(i.length+1)*g.bytes<=70368744177664):
 ∃k d,jx cx (h.cons ⟨c,0,0,true,false,[b a]⟩) j j o (.arr h.size 0 0 1 false)=some (.val k d)/\u7 d f k c ((i++[a]).map b)/\Fr f h d:=by
 have⟨k,d,z,A,D⟩:=w.m9 v p q r x s (e:=b a) (t a) (by grind)
 grind
def u7.fzM{h:H}{j:Nat}{b:T}{k:Nat}{d:Type}{f:d->T}{a:List d}(i:u7 h j b k (a.map f))(g:∀c,Ae h 11 (f c)=some (f c)):TI.rZ h b=some (sl (a.map f)):=i.rZ (K8 _ _ _ g)
def Ah{c:aj}{cx:Ctx}{tb:io}{b:iK}(l:c.follows .mixedOrders=true)(j7:jT c cx){g:ak}{d:Func}{D:Nat}{f:DL}(o:G4 c cx g d D f)(i:b.α->Nat)(hl:∀a,nK (b.A a)=true)(m:∀a,(b.A a).length<=d.ntmps)
 (n:∀a,b.pre a->∀j,oN j 0 (b.A a)->W (kq cx (tz c cx tb) (i a) D f (d.body.getD .skip) ⟨j,.nil⟩ hE) (B1 cx D d.results.toList λp h=>Oq h p (b.R a))):b.Ok c cx g:=
 λa k=>ac1 l j7 o (GC c cx tb) (hl a) (m a) (i a) (n a k)
attribute [simp] UZ
end
abbrev sh(a:T)(c:List T)(g:Nat):Prop:=a.cells=c/\NZ a=g/\(∀d e,mS a d e=J (mG c d e) λh=>some (.eZ h))/\a.jc=true/\cn a=a/\(∀b,rZ b a=some a)/\(∀b f,Ae b (f+2) a=some a)/\kT a=true/\oQ a=true
def p8{f:Type}{a:f->T}(h:∀d e,a d=a e->d=e){b c:List f}:(sl (b.map a)=sl (c.map a))=(b=c):=propext ⟨jV h,λg=>by rw[g]⟩
def DU{d:T}{a:List T}{c:Nat}(f:NZ (.eZ a)=c:=by rfl)(g:cn (.eZ a)= .eZ a:=by simp[xJ])(h:∀b,rZ b (.eZ a)=some (.eZ a):=by intro _;simp)(i:∀b e,Ae b (e+2) (.eZ a)=some (.eZ a):=by intro _ _;simp)(j:kT (.eZ a)=true:=by simp)(k:oQ (.eZ a)=true:=by simp)(b:d= .eZ a:=by rfl):sh d a c:=by subst b;exact⟨rfl,f,λ_ _=>rfl,rfl,g,h,i,j,k⟩
def Wc(c:ao)(a b:List Int):(sl (a.map (T.int c))=sl (b.map (T.int c)))=(a=b):=p8 λ_ _ d=>by simpa using d
def slB(a b:List Bool):(sl (a.map T.ez)=sl (b.map T.ez))=(a=b):=p8 λ_ _ c=>by simpa using c
def slS(a b:List (List Nat)):(sl (a.map T.str)=sl (b.map T.str))=(a=b):=p8 λ_ _ c=>by simpa using c
def Sg{a b:List Nat}:T.str a=T.str b->a=b:=G 
def F0{c:ao}{a b:Int}:T.int c a=T.int c b->a=b:=G 
def EX{f:Type}{a:f->T}(h:∀d e,a d=a e->d=e)(b c:List f)(g:sl (b.map a)=sl (c.map a)):b=c:=jV h g
def D0(b:U)(a:Nat)(c:T):Ty:=⟨b,1,a,false,[c]⟩
def wa(d:List (Nat×Nat))(c a:Nat)(b:Bool)(e:List T):Ty:=⟨.struct d,c,a,b,e⟩
def V3(d c e a:Nat)(b:Bool)(f:List T):Ty:=⟨.array d c,e,a,b,f⟩
@[simp]def ai9 (b:U) (a:Nat) (c:T):(D0 b a c).size=1/\(D0 b a c).bytes=a/\(D0 b a c).u=b:=⟨rfl,rfl,rfl⟩
@[simp]def aje (d:List (Nat×Nat)) (a c:Nat) (e:Bool) (b:List T):(wa d a c e b).size=a/\(wa d a c e b).bytes=c/\(wa d a c e b).u= .struct d/\(wa d a c e b).lH= .eZ b/\(wa d a c e b).zero=b/\∀f,lK (wa d a c e b) f=J (takeN a f) λg=>some (.eZ g):=⟨rfl,rfl,rfl,rfl,rfl,λ_=>rfl⟩
abbrev R9(a:ao)(b:Nat):Ty:=D0 (.int a) b (.int a 0)
abbrev tyB:Ty:=D0 .ez 1 (.ez false)
abbrev tyZ:Ty:=D0 .str 16 (.str [])
abbrev Dp(a:Nat):Ty:=D0 (.slice a) 24 (.V [] false)
abbrev RS(a:Nat):Ty:=D0 (.fc a) 8 .lU
@[simp]def ajb (d:ao) (c:Nat) (b:T):(D0 (.int d) c b).lH=b/\∀a,lK (D0 (.int d) c b) a=a[0]? :=⟨rfl,λa=>mg a 0⟩
@[simp]def ajd (c:Nat) (b:T):(D0 .ez c b).lH=b/\∀a,lK (D0 .ez c b) a=a[0]? :=⟨rfl,λa=>mg a 0⟩
@[simp]def ai7 (c:Nat) (b:T):(D0 .str c b).lH=b/\∀a,lK (D0 .str c b) a=a[0]? :=⟨rfl,λa=>mg a 0⟩
@[simp]def ai8 (d c:Nat) (b:T):(D0 (.slice d) c b).lH=b/\∀a,lK (D0 (.slice d) c b) a=a[0]? :=⟨rfl,λa=>mg a 0⟩
@[simp]def aja (d c:Nat) (b:T):(D0 (.fc d) c b).lH=b/\∀a,lK (D0 (.fc d) c b) a=a[0]? :=⟨rfl,λa=>mg a 0⟩
@[simp]def ajc (c:Nat) (b:T):(D0 .func c b).lH=b/\∀a,lK (D0 .func c b) a=a[0]? :=⟨rfl,λa=>mg a 0⟩
def jF{b:aj}{cx:Ctx}{d:ak}{a:Func}(e:Nat)(c:DL)(f:b.funcs[d]? =some a)(g:Aq ⟨a,e,false,none⟩=true:=by kernel_rfl)(h:oP c (a.body.getD .skip)=true:=by kernel_rfl):G4 b cx d a e c:=⟨f,g,h⟩
def gq(cx:Ctx)(c:Func)(f:Nat)(e:Bool):tH:=λb g a d=>vV cx b g c f e a d
def aiD{a:aj}{cx:Ctx}(g:a.follows .mixedOrders=true)(j7:jT a cx){e:ak}{b:Func}{d:Nat}{c:Bool}(f:a.funcs[e]? =some b)(h:Aq ⟨b,d,c,none⟩=true:=by kernel_rfl):oh a cx e (gq cx b d c):=rM (F:=⟨b,d,c,none⟩) g j7 f h
end
end Go.TI
namespace Go.Proofs.YtalknpnbaceflaaGreatDoor
noncomputable section
open Go Go.TI
abbrev IG:Ty:=R9 .i64 8
abbrev Ek:Ty:=R9 .i64 8
abbrev V5:Ty:=tyB
abbrev ty5:Ty:=R9 .u8 1
abbrev ty9:Ty:=tyZ
abbrev ahE:Ty:=R9 .i32 4
abbrev adS:Ty:=Dp 5
abbrev adR:Ty:=wa [(0,22),(1,22),(2,22),(3,5),(4,5)] 5 80 false [dV,dV,dV,.int .u8 0,.int .u8 0]
abbrev adP:Ty:=Dp 152
abbrev adN:Ty:=Dp 150
abbrev adM:Ty:=Dp 101
abbrev V7:Ty:=Dp 9
abbrev adI:Ty:=Dp 154
abbrev adG:Ty:=wa [(0,25),(1,26),(2,27),(3,28),(4,28),(5,29)] 6 144 false [dV,dV,dV,dV,dV,dV]
abbrev adE:Ty:=Dp 99
abbrev adD:Ty:=Dp 4
abbrev Sb:Ty:=Dp 60
abbrev ZX:Ty:=wa [(0,32),(1,3),(2,33),(3,34)] 4 80 false [dV,C 0,dV,dV]
abbrev V6:Ty:=Dp 2
abbrev pI:Ty:=Dp 3
abbrev adi:Ty:=wa [(0,36),(4,37),(5,37),(6,38)] 7 152 false [dV,C 0,dV,dV,dV,dV,dV]
abbrev ZW:Ty:=Dp 62
abbrev adh:Ty:=wa [(0,31),(6,3),(7,40),(14,41)] 15 328 false [dV,dV,dV,dV,dV,dV,C 0,dV,C 0,dV,dV,dV,dV,dV,dV]
abbrev ZV:Ty:=Dp 80
abbrev adg:Ty:=Dp 126
abbrev adf:Ty:=wa [(0,36),(4,46),(5,46),(6,38),(7,33),(8,38)] 9 200 false [dV,C 0,dV,dV,dV,dV,dV,dV,dV]
abbrev ade:Ty:=Dp 57
abbrev ZU:Ty:=wa [(0,3),(1,3),(2,3),(3,3),(4,3),(5,38)] 6 64 false [C 0,C 0,C 0,C 0,C 0,dV]
abbrev Kf:Ty:=wa [(0,3),(1,3),(2,4)] 3 24 false [C 0,C 0,.ez false]
abbrev adc:Ty:=wa [(0,3),(1,3),(2,3),(3,2),(4,3),(5,38),(6,38)] 7 88 false [C 0,C 0,C 0,C 0,C 0,dV,dV]
abbrev adb:Ty:=wa [(0,31),(6,41)] 7 168 false [dV,dV,dV,dV,dV,dV,dV]
abbrev ada:Ty:=Dp 43
abbrev ac9:Ty:=R9 .i64 8
abbrev V4:Ty:=wa [(0,3),(1,3)] 2 16 false [C 0,C 0]
abbrev ac8:Ty:=Dp 36
abbrev ac7:Ty:=wa [(0,43),(15,82)] 16 352 false [dV,dV,dV,dV,dV,dV,C 0,dV,C 0,dV,dV,dV,dV,dV,dV,dV]
abbrev ac6:Ty:=D0 (.func) 8 (.my)
abbrev Sa:Ty:=wa [(0,3),(1,38)] 2 32 false [C 0,dV]
abbrev YT:Ty:=wa [(0,9),(1,3)] 2 24 false [.str [],C 0]
abbrev YS:Ty:=RS 105
abbrev YR:Ty:=wa [(0,22),(1,3)] 2 32 false [dV,C 0]
abbrev YQ:Ty:=Dp 218
abbrev YP:Ty:=wa [(0,36),(4,37),(5,37),(6,111)] 7 152 false [dV,C 0,dV,dV,dV,dV,dV]
abbrev YO:Ty:=Dp 201
abbrev YN:Ty:=wa [(0,31),(6,116)] 7 168 false [dV,dV,dV,dV,dV,dV,dV]
abbrev yl:Ty:=wa [(0,2),(1,4)] 2 16 true [C 0,.ez false]
abbrev YM:Ty:=D0 (.func) 8 (.my)
abbrev YL:Ty:=Dp 245
abbrev YK:Ty:=Dp 192
abbrev YJ:Ty:=wa [(0,140),(1,141)] 2 48 false [dV,dV]
abbrev YI:Ty:=wa [(0,9),(1,4)] 2 24 false [.str [],.ez false]
abbrev YH:Ty:=wa [(0,9),(1,3),(2,3),(3,4),(4,2)] 5 48 false [.str [],C 0,C 0,.ez false,C 0]
abbrev YG:Ty:=wa [(0,3),(1,3),(2,3)] 3 24 false [C 0,C 0,C 0]
abbrev Ki:Ty:=Dp 38
abbrev adY:Ty:=D0 (.func) 8 (.my)
abbrev adX:Ty:=Dp 240
abbrev adW:Ty:=RS 182
abbrev adV:Ty:=wa [(0,177),(1,3)] 2 32 false [dV,C 0]
abbrev adU:Ty:=RS 195
abbrev Kh:Ty:=Dp 227
abbrev YF:Ty:=wa [(0,9),(1,3),(2,28),(3,190)] 4 72 false [.str [],C 0,dV,dV]
abbrev YE:Ty:=Dp 199
abbrev YD:Ty:=wa [(0,31),(6,28),(7,193),(8,3),(9,3)] 10 208 false [dV,dV,dV,dV,dV,dV,dV,dV,C 0,C 0]
abbrev YC:Ty:=wa [(0,3),(1,3),(2,3),(3,3),(4,2),(5,3)] 6 48 false [C 0,C 0,C 0,C 0,C 0,C 0]
abbrev YB:Ty:=wa [(0,3),(1,193)] 2 32 false [C 0,dV]
abbrev Oz:Ty:=wa [(0,3),(1,37),(2,157),(3,3)] 4 64 false [C 0,dV,dV,C 0]
abbrev adT:Ty:=RS 221
abbrev YA:Ty:=wa [(0,103),(1,3),(2,3),(3,4),(4,4),(5,4),(6,4),(7,28)] 8 56 false [.lU,C 0,C 0,.ez false,.ez false,.ez false,.ez false,dV]
abbrev Yz:Ty:=Dp 225
abbrev Yy:Ty:=wa [(0,3),(1,2),(2,9),(3,223)] 4 56 false [C 0,C 0,.str [],dV]
abbrev Kg:Ty:=wa [(0,3),(1,3),(2,9),(3,9),(4,223),(5,225),(9,190),(10,190)] 11 176 false [C 0,C 0,.str [],.str [],dV,C 0,C 0,.str [],dV,dV,dV]
abbrev Sd:Ty:=R9 .u64 8
abbrev adQ:Ty:=wa [(0,3),(1,9),(2,3)] 3 32 false [C 0,.str [],C 0]
abbrev Yx:Ty:=wa [(0,3),(1,3),(2,9),(3,3),(4,2),(5,9)] 6 64 false [C 0,C 0,.str [],C 0,C 0,.str []]
abbrev adO:Ty:=RS 255
abbrev Yw:Ty:=wa [(0,143),(2,3),(3,190),(4,28),(5,28)] 6 128 false [dV,dV,C 0,dV,dV,dV]
abbrev adL:Ty:=R9 .i64 8
abbrev adK:Ty:=R9 .u32 4
abbrev Yv:Ty:=R9 .u64 8
abbrev adJ:Ty:=RS 245
abbrev adH:Ty:=R9 .u64 8
abbrev adF:Ty:=RS 3
abbrev adC:Ty:=V3 22 9 22 352 false (List.replicate 22 (T.str []))
abbrev adB:Ty:=V3 256 4 256 256 false (List.replicate 256 (T.ez false))
abbrev adA:Ty:=RS 334
abbrev adz:Ty:=D0 (.iface) 16 (.mB)
abbrev ady:Ty:=RS 227
abbrev adx:Ty:=D0 (.func) 8 (.my)
abbrev adw:Ty:=R9 .i64 8
abbrev adv:Ty:=RS 375
abbrev adu:Ty:=V3 256 5 256 256 false (List.replicate 256 (T.int .u8 0))
abbrev adt:Ty:=wa [(0,5),(1,5)] 2 2 false [.int .u8 0,.int .u8 0]
abbrev ads:Ty:=V3 16 368 32 32 false (List.replicate 32 (T.int .u8 0))
abbrev adr:Ty:=wa [(0,9),(1,9),(2,340)] 3 48 false [.str [],.str [],.mB]
abbrev adq:Ty:=RS 5
abbrev adp:Ty:=RS 381
abbrev ado:Ty:=wa [(0,9)] 1 16 false [.str []]
abbrev adn:Ty:=V3 24 5 24 24 false (List.replicate 24 (T.int .u8 0))
abbrev adm:Ty:=V3 20 282 20 160 false (List.replicate 20 (T.int .u64 0))
abbrev adl:Ty:=V3 65 5 65 65 false (List.replicate 65 (T.int .u8 0))
abbrev adk:Ty:=V3 32 5 32 32 false (List.replicate 32 (T.int .u8 0))
abbrev adj:Ty:=V3 64 5 64 64 false (List.replicate 64 (T.int .u8 0))
def j7:Tree Ty:=(.eY (.eY (.eY (.eY (.eY (.eY (.eY .nil 2 (IG) .nil) 3 (Ek) (.eY .nil 4 (V5) .nil)) 5 (ty5) (.eY (.eY .nil 9 (ty9) .nil) 21 (ahE) .nil)) 22 (adS) (.eY (.eY (.eY .nil 24 (adR) .nil) 25 (adP) .nil) 26 (adN) (.eY (.eY .nil 27 (adM) .nil) 28 (V7) .nil))) 29 (adI) (.eY (.eY (.eY (.eY .nil 31 (adG) .nil) 32 (adE) (.eY .nil 33 (adD) .nil)) 34 (Sb) (.eY (.eY .nil 36 (ZX) .nil) 37 (V6) .nil)) 38 (pI) (.eY (.eY (.eY .nil 40 (adi) .nil) 41 (ZW) .nil) 43 (adh) (.eY (.eY .nil 45 (ZV) .nil) 46 (adg) .nil)))) 48 (adf) (.eY (.eY (.eY (.eY (.eY .nil 54 (ade) .nil) 57 (ZU) (.eY .nil 60 (Kf) .nil)) 62 (adc) (.eY (.eY .nil 71 (adb) .nil) 73 (ada) .nil)) 74 (ac9) (.eY (.eY (.eY .nil 80 (V4) .nil) 82 (ac8) .nil) 84 (ac7) (.eY (.eY .nil 88 (ac6) .nil) 99 (Sa) .nil))) 101 (YT) (.eY (.eY (.eY (.eY .nil 103 (YS) .nil) 105 (YR) (.eY .nil 111 (YQ) .nil)) 113 (YP) (.eY (.eY .nil 116 (YO) .nil) 118 (YN) .nil)) 126 (yl) (.eY (.eY (.eY .nil 138 (YM) .nil) 140 (YL) .nil) 141 (YK) (.eY (.eY .nil 143 (YJ) .nil) 150 (YI) .nil))))) 152 (YH) (.eY (.eY (.eY (.eY (.eY (.eY .nil 154 (YG) .nil) 157 (Ki) (.eY .nil 174 (adY) .nil)) 177 (adX) (.eY (.eY .nil 180 (adW) .nil) 182 (adV) .nil)) 189 (adU) (.eY (.eY (.eY .nil 190 (Kh) .nil) 192 (YF) .nil) 193 (YE) (.eY (.eY .nil 195 (YD) .nil) 199 (YC) .nil))) 201 (YB) (.eY (.eY (.eY (.eY .nil 218 (Oz) .nil) 219 (adT) (.eY .nil 221 (YA) .nil)) 223 (Yz) (.eY (.eY .nil 225 (Yy) .nil) 227 (Kg) .nil)) 233 (Sd) (.eY (.eY (.eY .nil 240 (adQ) .nil) 245 (Yx) .nil) 253 (adO) (.eY (.eY .nil 255 (Yw) .nil) 272 (adL) .nil)))) 280 (adK) (.eY (.eY (.eY (.eY (.eY .nil 282 (Yv) .nil) 287 (adJ) (.eY .nil 306 (adH) .nil)) 310 (adF) (.eY (.eY .nil 331 (adC) .nil) 334 (adB) .nil)) 338 (adA) (.eY (.eY (.eY .nil 340 (adz) .nil) 344 (ady) .nil) 345 (adx) (.eY (.eY .nil 359 (adw) .nil) 362 (adv) .nil))) 366 (adu) (.eY (.eY (.eY (.eY .nil 368 (adt) .nil) 369 (ads) .nil) 375 (adr) (.eY (.eY .nil 378 (adq) .nil) 379 (adp) .nil)) 381 (ado) (.eY (.eY (.eY .nil 384 (adn) .nil) 389 (adm) .nil) 390 (adl) (.eY (.eY .nil 391 (adk) .nil) 392 (adj) .nil))))))
def gl0:List T:=[T.str [118,97,114],T.str [118,111,108,97,116,105,108,101],T.str [109,117,116,101,120],T.str [114,119,108,111,99,107],T.str [99,111,110,100],T.str [102,117,116,117,114,101],T.str [116,104,114,101,97,100],T.str [105,102],T.str [101,108,115,101],T.str [119,104,105,108,101],T.str [108,111,99,107],T.str [114,101,97,100],T.str [119,114,105,116,101],T.str [116,114,97,110,115,97,99,116,105,111,110],T.str [97,116,111,109,105,99],T.str [119,97,105,116],T.str [110,111,116,105,102,121],T.str [110,111,116,105,102,121,97,108,108],T.str [115,112,97,119,110],T.str [106,111,105,110],T.str [115,101,116],T.str [103,101,116]]
def gl6:List T:=[T.int .u64 1,T.int .u64 10,T.int .u64 100,T.int .u64 1000,T.int .u64 10000,T.int .u64 100000,T.int .u64 1000000,T.int .u64 10000000,T.int .u64 100000000,T.int .u64 1000000000,T.int .u64 10000000000,T.int .u64 100000000000,T.int .u64 1000000000000,T.int .u64 10000000000000,T.int .u64 100000000000000,T.int .u64 1000000000000000,T.int .u64 10000000000000000,T.int .u64 100000000000000000,T.int .u64 1000000000000000000,T.int .u64 10000000000000000000]
def gl7:List T:=[T.int .u8 0,T.int .u8 1,T.int .u8 28,T.int .u8 2,T.int .u8 29,T.int .u8 14,T.int .u8 24,T.int .u8 3,T.int .u8 30,T.int .u8 22,T.int .u8 20,T.int .u8 15,T.int .u8 25,T.int .u8 17,T.int .u8 4,T.int .u8 8,T.int .u8 31,T.int .u8 27,T.int .u8 13,T.int .u8 23,T.int .u8 21,T.int .u8 19,T.int .u8 16,T.int .u8 7,T.int .u8 26,T.int .u8 12,T.int .u8 18,T.int .u8 6,T.int .u8 11,T.int .u8 5,T.int .u8 10,T.int .u8 9]
def gl8:List T:=[T.int .u8 0,T.int .u8 1,T.int .u8 56,T.int .u8 2,T.int .u8 57,T.int .u8 49,T.int .u8 28,T.int .u8 3,T.int .u8 61,T.int .u8 58,T.int .u8 42,T.int .u8 50,T.int .u8 38,T.int .u8 29,T.int .u8 17,T.int .u8 4,T.int .u8 62,T.int .u8 47,T.int .u8 59,T.int .u8 36,T.int .u8 45,T.int .u8 43,T.int .u8 51,T.int .u8 22,T.int .u8 53,T.int .u8 39,T.int .u8 33,T.int .u8 30,T.int .u8 24,T.int .u8 18,T.int .u8 12,T.int .u8 5,T.int .u8 63,T.int .u8 55,T.int .u8 48,T.int .u8 27,T.int .u8 60,T.int .u8 41,T.int .u8 37,T.int .u8 16,T.int .u8 46,T.int .u8 35,T.int .u8 44,T.int .u8 21,T.int .u8 52,T.int .u8 32,T.int .u8 23,T.int .u8 11,T.int .u8 54,T.int .u8 26,T.int .u8 40,T.int .u8 15,T.int .u8 34,T.int .u8 20,T.int .u8 31,T.int .u8 10,T.int .u8 25,T.int .u8 14,T.int .u8 19,T.int .u8 9,T.int .u8 13,T.int .u8 8,T.int .u8 7,T.int .u8 6]
def gls:Tree (List T):=(.eY (.eY (.eY .nil 0 (gl0) .nil) 6 (gl6) .nil) 7 (gl7) (.eY .nil 8 (gl8) .nil))
def cx:Ctx:={ty:=λb=>j7.find b,fn:=λ_=>none,gl:=λa=>gls.find a}
@[simp]def Av:cx.ty 2=some IG:=dY
@[simp]def nP:cx.ty 3=some Ek:=dY
@[simp]def LP:cx.ty 4=some V5:=dY
@[simp]def UM:cx.ty 5=some ty5:=dY
@[simp]def yV:cx.ty 9=some ty9:=dY
@[simp]def JC:cx.ty 22=some adS:=dY
@[simp]def JB:cx.ty 24=some adR:=dY
@[simp]def abq:cx.ty 25=some adP:=dY
@[simp]def UO:cx.ty 26=some adN:=dY
@[simp]def abp:cx.ty 27=some adM:=dY
@[simp]def tR:cx.ty 28=some V7:=dY
@[simp]def abo:cx.ty 29=some adI:=dY
@[simp]def aiR:cx.ty 31=some adG:=dY
@[simp]def JA:cx.ty 32=some adE:=dY
@[simp]def Dg:cx.ty 33=some adD:=dY
@[simp]def Gx:cx.ty 34=some Sb:=dY
@[simp]def abn:cx.ty 36=some ZX:=dY
@[simp]def qT:cx.ty 37=some V6:=dY
@[simp]def kO:cx.ty 38=some pI:=dY
@[simp]def aiQ:cx.ty 40=some adi:=dY
@[simp]def UN:cx.ty 41=some ZW:=dY
@[simp]def abm:cx.ty 43=some adh:=dY
@[simp]def NW:cx.ty 45=some ZV:=dY
@[simp]def A2:cx.ty 46=some adg:=dY
@[simp]def aiP:cx.ty 48=some adf:=dY
@[simp]def abl:cx.ty 54=some ade:=dY
@[simp]def abk:cx.ty 57=some ZU:=dY
@[simp]def Jz:cx.ty 60=some Kf:=dY
@[simp]def UL:cx.ty 62=some adc:=dY
@[simp]def aiO:cx.ty 71=some adb:=dY
@[simp]def abj:cx.ty 73=some ada:=dY
@[simp]def aiN:cx.ty 74=some ac9:=dY
@[simp]def NV:cx.ty 80=some V4:=dY
@[simp]def abi:cx.ty 82=some ac8:=dY
@[simp]def aiM:cx.ty 84=some ac7:=dY
@[simp]def aiL:cx.ty 88=some ac6:=dY
@[simp]def Jy:cx.ty 99=some Sa:=dY
@[simp]def XJ:cx.ty 101=some YT:=dY
@[simp]def ahc:cx.ty 103=some YS:=dY
@[simp]def ahb:cx.ty 105=some YR:=dY
@[simp]def Px:cx.ty 111=some YQ:=dY
@[simp]def aha:cx.ty 113=some YP:=dY
@[simp]def XI:cx.ty 116=some YO:=dY
@[simp]def ag9:cx.ty 118=some YN:=dY
@[simp]def Cg:cx.ty 126=some yl:=dY
@[simp]def ag8:cx.ty 138=some YM:=dY
@[simp]def ag7:cx.ty 140=some YL:=dY
@[simp]def XH:cx.ty 141=some YK:=dY
@[simp]def ag6:cx.ty 143=some YJ:=dY
@[simp]def Pw:cx.ty 150=some YI:=dY
@[simp]def XG:cx.ty 152=some YH:=dY
@[simp]def XF:cx.ty 154=some YG:=dY
@[simp]def XE:cx.ty 157=some Ki:=dY
@[simp]def Cf:cx.ty 190=some Kh:=dY
@[simp]def XD:cx.ty 192=some YF:=dY
@[simp]def Pv:cx.ty 193=some YE:=dY
@[simp]def ag5:cx.ty 195=some YD:=dY
@[simp]def XC:cx.ty 199=some YC:=dY
@[simp]def XB:cx.ty 201=some YB:=dY
@[simp]def Pu:cx.ty 218=some Oz:=dY
@[simp]def ag4:cx.ty 221=some YA:=dY
@[simp]def ag3:cx.ty 223=some Yz:=dY
@[simp]def ag2:cx.ty 225=some Yy:=dY
@[simp]def Ce:cx.ty 227=some Kg:=dY
@[simp]def XA:cx.ty 233=some Sd:=dY
@[simp]def ag1:cx.ty 245=some Yx:=dY
@[simp]def ag0:cx.ty 255=some Yw:=dY
@[simp]def agZ:cx.ty 282=some Yv:=dY
