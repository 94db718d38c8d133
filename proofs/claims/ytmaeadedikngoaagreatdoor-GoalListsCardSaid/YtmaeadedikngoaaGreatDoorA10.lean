/- Texts S16b to TiCutI. -/
import Derived.Test.YtmaeadedikngoaaGreatDoorA9
set_option linter.all false
set_option maxRecDepth 100000
set_option maxHeartbeats 8000000
namespace Go.Proofs.YtmaeadedikngoaaGreatDoor
noncomputable section
open Go Go.TI
def kX(a:eK):Int:=if a.kind=18 then a.value else-1
def sI(b:ee)(a:eK):Bool:=if a.kind=1\/a.kind=2 then decide (a.jg=-1)else(match xr b.iH a.jg with|some c=>decide (c.dZ=a.dZ)|none=>false)
def sizeOf(b:ee)(a:Int):Int:=((xr b.cells a).getD default).size
def Ld(b:ee)(a:eK):Bool:=decide (a.mG=[])||decide (a.kind=5)||(qY a&& !decide (sizeOf b a.obj=0))
def K7(a:eK):Bool:=decide (a.vh=[])||decide (a.kind=4)||decide (a.kind=22)
def p7(c:ee)(b:eG)(a:eK):Bool:=
 nG c b&&jt a.dZ c.dM.length&&(decide (1<=a.kind)&&decide (a.kind<=23))&&jR c b.fO a.dZ a.kind a.obj&&sI c a&&Ld c a&&K7 a&&
  xL (b.count.getD a.dZ.toNat 0) none a.mG&&xL (b.count.getD a.dZ.toNat 0) none a.vh&&nW b a
def ke(c:ee)(b:eG)(a:eK):eG:=
 ⟨(fg c b.fO a.dZ a.kind a.obj (kX a)).1,if a.kind=4 then b.cells.set a.obj.toNat a.value else b.cells,if a.kind=22 then b.ei.set a.obj.toNat a.value else b.ei,b.count.modify a.dZ.toNat (· +1)⟩
def ta:eG:=⟨⟨[],0,[],[]⟩,[],[],[]⟩
def jY(c:ee)(b:eG)(a:eK):eG×Bool:=if p7 c b a=true then(ke c b a,true)else(ta,false)
section
variable {S E:Type}
def qD(ok:S->E->Bool)(nx:S->E->S):S->List E->Bool
 |_,[]=>true
 |s,a::b=>ok s a&&qD ok nx (nx s a) b
def ux(nx:S->E->S):S->List E->List S
 |_,[]=>[]
 |s,a::b=>s::ux nx (nx s a) b
def wj(go:S->E->S):S->List E->S
 |s,[]=>s
 |s,a::b=>wj go (go s a) b
def Tj{a:Type}(d:a->E->Bool)(b:a->E->a):a->List E->aa (List a)
 |_,[]=>some []
 |s,c::e=>if d s c=true then(Tj d b (b s c) e).map (s:: ·)else none
variable {ok:S->E->Bool}{nx go:S->E->S}
def IW:∀(a:List E) (b:S),(ux nx b a).length=a.length:=by
 intro a;induction a with
 |nil=>intro b;rfl
 |cons d a c=>intro b;simp[ux,c]
def LZ(f:∀a b,ok a b=true->go a b=nx a b):∀(c d:List E) (a:S),qD ok nx a (c++d)=(qD ok nx a c&&qD ok nx (wj go a c) d):=by
 intro c;induction c with
 |nil=>intro d a;simp[qD,wj]
 |cons b c g=>
  intro d a;simp only[co,qD,wj];cases e:ok a b with
  |true=>rw[g,f a b e,bO,bO]
  |false=>simp
def Ix:∀(a b:List E) (c:S),wj go c (a++b)=wj go (wj go c a) b:=by
 intro a;induction a with
 |nil=>intro b c;rfl
 |cons e a d=>intro b c;simp only[co,wj,d]
def IX(g:∀a d,ok a d=true->go a d=nx a d):∀(c:List E) (a:S) (b:Nat),qD ok nx a c=true->b<c.length->(ux nx a c)[b]? =some (wj go a (c.take b)):=by
 intro c;induction c with
 |nil=>intro a b _ f;simp at f
 |cons d c h=>
  intro a b e f;simp only[qD,ay]at e;cases b with
  |zero=>simp[ux,wj]
  |succ b=>
   simp only[ux,dq,List.take_succ_cons,wj];rw[g a d e.1];exact h _ b e.2 (by simpa using f)
def NS(g:∀b a,ok b a=true->go b a=nx b a):∀(d:List E) (b:S) (c:Nat) (a:E),qD ok nx b d=true->d[c]? =some a->ok (wj go b (d.take c)) a=true:=by
 intro d;induction d with
 |nil=>intro b c a _ e;simp at e
 |cons i d h=>
  intro b c a f e;simp only[qD,ay]at f;cases c with
  |zero=>simp at e;subst e;simpa[wj]using f.1
  |succ c=>
   simp only[List.take_succ_cons,wj];rw[g b i f.1];exact h _ c a f.2 (by simpa using e)
def Nd{d:Type}{g:d->E->Bool}{f:d->E->d}{pr:S->d}(h:∀a b,ok a b=true->g (pr a) b=true)(i:∀a b,pr (nx a b)=f (pr a) b):∀(c:List E) (a:S),qD ok nx a c=true->Tj g f (pr a) c=some ((ux nx a c).map pr):=by
 intro c;induction c with
 |nil=>intro a _;rfl
 |cons b c j=>
  intro a e;simp only[qD,ay]at e;simp only[Tj,ux,aT];rw[aq (h a b e.1),<-i,j _ e.2];rfl
def QS{I:S->Prop}(e:∀a c,I a->I (go a c)):∀(b:List E) (a:S),I a->I (wj go a b):=by
 intro b;induction b with
 |nil=>intro a d;exact d
 |cons c b f=>intro a d;exact f _ (e a c d)
end
def runs(a:ee):eG->List eK->Bool:=qD (p7 a) (ke a)
def KE(a:ee):eG->List eK->List eG:=ux (ke a)
def qz(w:ee):eG->List eK->eG:=wj λb a=>(jY w b a).1
def tM{c:ee}(b:eG)(a:eK)(d:p7 c b a=true):(jY c b a).1=ke c b a:=by unfold jY;rw[aq d]
def LW(c:ee)(a:List eK)(b:eG):(KE c b a).length=a.length:=IW a b
def BS(b:ee)(c d:List eK)(a:eG):runs b a (c++d)=(runs b a c&&runs b (qz b a c) d):=LZ (go:=λa e=>(jY b a e).1) tM c d a
def zp{e:ee}{a:List eK}{d:eG}(b:runs e d a=true)(c:Nat):runs e d (a.take c)=true:=by
 rw[<-cR c a,BS,ay]at b;exact b.1
def NR{c:ee}{a:List eK}{f:eG}(d:runs c f a=true)(b e:Nat):runs c (qz c f (a.take b)) ((a.drop b).take e)=true:=by
 rw[<-cR b a,BS,ay]at d;exact zp d.2 e
def LX{d:ee}(b:List eK)(a:eG)(c:Nat)(f:runs d a b=true)(g:c<b.length):(KE d a b)[c]? =some (qz d a (b.take c)):=IX (go:=λa e=>(jY d a e).1) tM b a c f g
def RA{d:ee}(c:List eK)(b:eG)(e:Nat)(a:eK)(f:runs d b c=true)(g:c[e]? =some a):p7 d (qz d b (c.take e)) a=true:=NS (go:=λb a=>(jY d b a).1) tM c b e a f g
def rh{c:ee}{d:eG}{a:eK}(b:p7 c d a=true):nG c d=true/\jt a.dZ c.dM.length=true/\jR c d.fO a.dZ a.kind a.obj=true:=by
 unfold p7 at b;simp only[ay]at b;exact⟨b.1.1.1.1.1.1.1.1.1,b.1.1.1.1.1.1.1.1.2,b.1.1.1.1.1.1.2⟩
def Xj(c:ee):fK->List eK->aa (List fK):=Tj (λb a=>jR c b a.dZ a.kind a.obj) λb a=>(fg c b a.dZ a.kind a.obj (kX a)).1
def QM{c:ee}(b:List eK)(a:eG)(d:runs c a b=true):Xj c a.fO b=some ((KE c a b).map eG.fO):=
 Nd (pr:=eG.fO) (λa f e=>(rh e).2.2) (λ_ _=>rfl) b a d
structure vd(w:fF):Prop where
 len:w.dS.length<=16
 oZ:w.fq.dM.length<=4
 run:runs w.fq w.j7 w.dS=true
 EY:w.j7.fO.EY
def fF.gx(c:fF):GX:=⟨c.fq,c.dS,(KE c.fq c.j7 c.dS).map eG.fO⟩
def vd.ok{a:fF}(b:vd a){i:Nat}{e:eK}(c:a.dS[i]? =some e):p7 a.fq (qz a.fq a.j7 (a.dS.take i)) e=true:=RA _ _ _ _ b.run c
def vd.st{a:fF}(c:vd a){b:Nat}(d:b<a.dS.length):a.gx.st[b]? =some (qz a.fq a.j7 (a.dS.take b)).fO:=by
 unfold fF.gx;rw[aQ,LX _ _ _ c.run d];rfl
def vd.e{a:fF}(d:vd a){i:Int}(g:jt i a.dS.length=true):∃e,a.dS[i.toNat]? =some e/\a.gx.e i=e/\jt e.dZ a.fq.dM.length=true/\j1 a.fq e.kind e.obj=true:=by
 obtain⟨f,b⟩:=fw.1 g;refine⟨a.dS[i.toNat],by simp[b],?_,?_⟩
 ·unfold GX.e qV xr fF.gx;rw[aq f];simp[b]
 ·have:=d.ok (i:=i.toNat) (e:=a.dS[i.toNat]) (by simp[b]);obtain⟨_,h,c⟩:=rh this;refine⟨h,?_⟩;unfold jR at c;simp only[ay]at c;exact c.1.2
def vd.s{a:fF}(c:vd a){i:Int}(g:jt i a.dS.length=true):a.gx.s i=(qz a.fq a.j7 (a.dS.take i.toNat)).fO/\mK a.fq (a.gx.s i)=true:=by
 obtain⟨f,d⟩:=fw.1 g;have h:=c.st d;have b:a.gx.s i=(qz a.fq a.j7 (a.dS.take i.toNat)).fO:=by
  unfold GX.s xr;rw[aq f,h];rfl
 refine⟨b,?_⟩;rw[b];have:=(rh (c.ok (i:=i.toNat) (e:=a.dS[i.toNat]) (by simp[d]))).1;unfold nG at this;simp only[ay]at this;exact this.1.1.1
def IV{b:ee}{a:eG}{c:eK}(d:a.fO.EY):(jY b a c).1.fO.EY:=by
 unfold jY;split
 ·exact yc d b _ _ _ _
 ·intro e hl;simp[ta]at hl
def Tl{d:ee}(c:List eK)(a:eG)(b:a.fO.EY):(qz d a c).fO.EY:=QS (I:=λa=>a.fO.EY) (λ_ _ b=>IV b) c a b
def lj(a:ee):fK:=⟨a.ew.map λ_=>⟨-1,[]⟩,-1,a.ei.map λ_=>false,(List.range a.dM.length).map λb=>⟨if b=0 then 1 else 0,0,false⟩⟩
def jT(a:ee):eG:=⟨lj a,a.cells.map ig.j7,a.ei.map λ_=>0,a.dM.map λ_=>0⟩
def sx(a:ee):(jT a).fO.EY:=by
 intro b hl;unfold jT lj at hl;simp only[cu]at hl;obtain⟨_,_,rfl⟩:=hl;exact List.Pairwise.nil
def wY(b:ee)(c:List eK)(d a:Nat):fF:=⟨b,a,qz b (jT b) (c.take a),(c.drop a).take d⟩
def Ns{a:ee}{d:List eK}(e:runs a (jT a) d=true)(ht:a.dM.length<=4){b:Nat}(f:b<=16)(c:Nat):vd (wY a d b c):=
 ⟨by simp[wY];omega,ht,NR e c b,Tl _ _ (sx a)⟩
end
end Go.Proofs.YtmaeadedikngoaaGreatDoor
namespace Go.TI
noncomputable section
def hr(a:H):H:=⟨a.size,a.size,a.fy⟩
@[simp] theorem nV (a:H):(hr a).size=a.size:=id rfl
@[simp] theorem gF (a:H) (b:Nat):(hr a).get b=a.get b:=H.rm a a.size b
@[simp] theorem aa0 (a:H):Hp (hr a)=Hp a:=id rfl
def LG(f:Bool)(c:H)(g:List T)(e:H)(d:T->H->Prop):Prop:=∃b a,Co f c.size c.low (jM g) e=some (b,a)/\(d b a\/d (cn b) a)
section
variable {P:ai}{cx:Ctx}{cf:iX}{mask:Nat}
def YC(J:P.follows .mixedOrders=true)(iZ:jd P cx){m:aj}{a:Func}{r:DL}(h:GA P cx m a mask r)(C:nH P cx cf)(i:Bool){c:List T}{d:H}{w:T->H->Prop}(K:c.length<=a.ntmps)(j:Nat)
 (Q:∀z,nI z 0 c->W (jG cx cf j mask r (a.body.getD .skip) ⟨z,.nil⟩ (hr d)) (Cs cx mask a.results.toList λu g=>LG i d u g w)):∃b g,w b g/\qA P cx ⟨m,c,d,b,g⟩:=by
 obtain⟨y,O,_,G⟩:=mw mask a.ntmps 0 c K;obtain⟨Z,D,E,e,R,u,M,b,f,hl,hp⟩:=Dd (Q y G);have e:=qk _ h.dr _ _ _ e;obtain⟨B,s⟩:=y8 h.ok;rw[s]at e;have I:sX cx cf j a mask i c d=some (b,f):=by
  unfold sX;rw[s];obtain⟨x,al,A⟩:=d;simp only;rw[O,dY];have e:j8 cx cf j mask B ⟨y,.nil⟩ ⟨x,x,A⟩=some (Z,D,E):=e;rw[e,dY,kP];have N:=oE M;rcases R with rfl|rfl<;>(simp only;rw[N,dY];exact hl)
 have L:xf ⟨a,mask,i,none⟩=true:=h.ok;have t:qA P cx ⟨m,c,d,b,f⟩:=λk p q l o n=>pw (F:=⟨a,mask,i,none⟩) J iZ h.at_ L cf C j c d b f I k p q l o n;rcases hp with hp|hp
 ·exact⟨b,f,hp,t⟩
 ·exact⟨cn b,f,hp,λk p q l o n=>(t k p q l o n).mono λv an ⟨⟨ae,S,U,V,X⟩,Y⟩=>⟨⟨ae,S.cn,U,V,X⟩,Y⟩⟩
def IK{tb:fN}{c:kU}(n:P.follows .mixedOrders=true)(iZ:jd P cx){g:aj}{d:Func}{f:DL}(q:GA P cx g d mask f)(i:Bool)(j:List T->H->Nat)(o:∀a b,c.pre a b->a.length<=d.ntmps)
 (p:∀a b,c.pre a b->∀k,nI k 0 a->W (jG cx (qW P cx tb) (j a b) mask f (d.body.getD .skip) ⟨k,.nil⟩ (hr b)) (Cs cx mask d.results.toList λr e=>LG i b r e (c.post a b))):c.Ok P cx g:=
 λa b h=>by
  obtain⟨s,e,l,m⟩:=YC n iZ q (CZ P cx tb) i (o a b h) (j a b) (p a b h);exact⟨s,e,l,m⟩
end
def U1{P:ai}{cx:Ctx}{cf:iX}{mask:Nat}(H:P.follows .mixedOrders=true)(iZ:jd P cx){p:aj}{c:Func}{w:DL}(j:GA P cx p c mask w)(C:nH P cx cf){b:List T}{m:T->Prop}(hl:mJ b=true)(y:b.length<=c.ntmps)(k:Nat)
 (K:∀f,nI f 0 b->W (jG cx cf k mask w (c.body.getD .skip) ⟨f,.nil⟩ hE) (Cs cx mask c.results.toList λA g=>∃a,m a/\Q8 g A a)):∃a,m a/\kY P cx p b a:=by
 have S:∃a,m a/\∀f,nI f 0 b->TI.dO f 0=TI.dO f 0->∃d,cn d=a/\sX cx cf k c mask false b hE=some (d,hE):=by
  obtain⟨l,z,_,s⟩:=mw mask c.ntmps 0 b y;obtain⟨U,D,g,e,L,A,hr,a,r,I,i⟩:=Dd (K l s);have e:=qk _ j.dr _ _ _ e;obtain⟨B,h⟩:=y8 j.ok;rw[h]at e;unfold MU at i;obtain⟨d,i,x⟩:=dL.1 i;simp only[ar]at x;refine⟨a,r,λ_ _ _=>⟨d,x,?_⟩⟩;unfold sX;rw[h];simp only;rw[z,dY];have e:j8 cx cf k mask B ⟨l,.nil⟩ ⟨0,0,[]⟩=some (U,D,g):=e;rw[e,dY,kP];have J:=oE hr;rcases L with rfl|rfl<;>(simp only;rw[J,dY];exact HK I i)
 obtain⟨a,r,G⟩:=S;obtain⟨l,z,_,s⟩:=mw mask c.ntmps 0 b y;obtain⟨d,rfl,h⟩:=G l s rfl;refine⟨cn d,r,?_⟩;have E:kY P cx p b d:=yt (lN _ hl) λn u v o t q=>
  pw (F:=⟨c,mask,false,none⟩) H iZ j.at_ j.ok cf C k b hE d hE h n u v o t q
 intro n u v o g t q;refine(E n u v o g t q).mono λX Y ⟨⟨V,M,N,O,Q⟩,R⟩=> ?_;exact⟨⟨V,M.cn,N,O,Q⟩,R⟩
def EM(b:T):Prop:=∃a,b= .bool a
def vU(a:Nat)(d:T)(b:H):ni a d b=some (d,⟨b.size,if b.low<a then b.low else a,b.fy⟩):=by
 obtain⟨g,c,e⟩:=b;show @Bool.rec (λ_=>aa (T×H)) (some (d,⟨g,a,e⟩)) (some (d,⟨g,c,e⟩)) (Nat.blt c a)=_;by_cases hl:c<a
 ·rw[show Nat.blt c a=true by rw[aH];exact hl,aq hl]
 ·rw[show Nat.blt c a=false by rw[du];intro f;rw[aH]at f;exact hl f,ao hl]
def H3{h:H}(f:Hp h){a d:Nat}(e:a<=h.size){b:Nat}(c:b<a):(⟨a,d,h.fy.drop (h.size-a)⟩:H).get b=h.get b:=by
 rw[H.get_eq,H.get_eq];simp only;rw[aq c,aq dB,bK];congr 1;omega
def qf(a b:H)(m:List T){r:T}{n:T->H->Prop}(l:Hp a)(c:Fr a.size (hr a) b)(g:(dV (jl b a.size (jM m)) λt=>some (cn t))=some r)(p:n r a):LG false a m b n:=by
 obtain⟨s,g,k⟩:=dL.1 g;simp only[ar]at k;unfold LG Co;simp only[g];have h:Hp b:=c.hp (by simpa using l);have o:a.size<=b.low:=c.low (au _);have u:a.size<=b.size:=c.size;have f:b.fy.drop (b.size-a.size)=a.fy:=by
  apply c8;intro d;rw[bK];rcases aF d a.size with hi|hi
  ·have j:=c.get (a.size-1-d) dB;rw[gF,H.get_eq,H.get_eq,aq dB,aq dB]at j;rw[show b.size-a.size+d=b.size-1-(a.size-1-d)by omega,j];congr 1;omega
  ·rw[aM (by unfold Hp at h;omega),aM (by unfold Hp at l;omega)]
 obtain⟨i,q,e⟩:=b;unfold uh;simp only;rw[lU,aq (by show i-a.size<=e.length;unfold Hp at h;simp only at h;omega),dY,show Nat.ble a.size q=true from cd o];refine⟨s,_,rfl,.inr ?_⟩;rw[k];have:(⟨a.size,a.low,List.drop (Nat.sub i a.size) e⟩:H)=a:=by
  have f:List.drop (Nat.sub i a.size) e=a.fy:=f;rw[f]
 rw[this];exact p
end
noncomputable section
noncomputable section
variable {cx:Ctx}{mask:Nat}{e:Env}{h:H}
end
end
noncomputable section
structure ij(n:Nat)(h:H):Prop where
 hp:Hp h
 low:h.low<=h.size
 sz:n<=h.size
def ij.cons{c:Nat}{b:H}(a:ij c b)(d:iY):ij c (b.cons d):=⟨by simpa using a.hp,by simp only[Py];have:=a.low;simp[H.cons];omega,by have:=a.sz;simp[H.cons];omega⟩
def ij.ne{c:Nat}{a:H}(d:ij c a){b:Nat}(e:b<c):(b=a.size)=False:=by have:=d.sz;simp;omega
def G8(c:H)(b:Nat)(h:iY):(d8 c b h).low<=c.low:=by
 unfold d8;cases a:c.put b h with
 |none=>exact au _
 |some i=>
  obtain⟨e,d,j⟩:=c;have a:(gh (Nat.blt b e) (dV (kJ j (Nat.sub (Nat.sub e 1) b) h) λf=> @Bool.rec (λ_=>aa H) (some ⟨e,d,f⟩) (some ⟨e,b,f⟩) (Nat.blt b d)))=some i:=a;obtain⟨_,a⟩:=dT.1 a;obtain⟨f,_,a⟩:=dL.1 a;show i.low<=d;cases g:Nat.blt b d<;>rw[g]at a<;>simp only[ar]at a<;>subst a
  ·exact au _
  ·rw[aH]at g;exact bD g
def ij.put{n:Nat}{a:H}(b:ij n a)(d:Nat)(e:iY):ij n (d8 a d e):=⟨by simpa using b.hp,by rw[fV];exact aS (G8 a d e) b.low,by rw[fV];exact b.sz⟩
structure qn(sz:Nat)(h h':H):Prop where
 get:∀c x,h.get c=some x->x.sz≠sz->h'.get c=some x
 ok:∀n,ij n h->ij n h'
 size:h.size<=h'.size
def qn.refl(d:Nat)(a:H):qn d a a:=⟨λ_ _ b _=>b,λ_ c=>c,au _⟩
def qn.trans{c:Nat}{e f g:H}(a:qn c e f)(b:qn c f g):qn c e g:=⟨λd j k h=>b.get d j (a.get d j k h) h,λi l=>b.ok i (a.ok i l),aS a.size b.size⟩
def qn.cons(e:Nat)(a:H)(c:iY):qn e a (a.cons c):=⟨λf h b _=>by have:=H.eJ b;rw[dW,ao dB];exact b,λg d=>d.cons c,by simp[H.cons]⟩
def qn.put{g:Nat}{d:H}{a:Nat}{x:iY}(f:d.get a=some x)(i:x.sz=g)(h:iY):qn g d (d8 d a h):=⟨λc l b j=>by
 rw[dQ f];by_cases e:c=a
 ·subst e;rw[f]at b;simp only[ar]at b;subst b;exact absurd i j
 ·rw[ao e];exact b,λn k=>k.put a h,dC⟩
def sj.abz{cx:Ctx}{a:H}{d:T}{b:Nat}{e:List T}(l:sj a 0 d b e){o p j:ab}{v w c:Ty}(B:cx.ty o=some v)(C:v.u= .slice j)(D:cx.ty j=some c)(E:cx.ty p=some w)(F:w.u= .slice j)(t:c.size=b)(r:1<=c.bytes)
 {x:T} {xs:List T} (I:a.ji x=some xs) (m:∀z∈xs,z.cells.length=b) (s:(e.length+xs.length)*c.bytes<=70368744177664):
 ∃y k,iM cx a o p d x=some (.val y k)/\sj k 0 y b (e++xs)/\qn b a k:=by
 have G:iM cx a o p d x=jz (a.append c.size c.bytes d xs):=by
  unfold iM oP mh;rw[B,dY,E,dY];simp only[C,D,F,I,dY];rw[t,mp m,ir]
 rw[G,t];cases xs with
 |nil=>
  refine⟨d,a,?_,by simpa using l,qn.refl _ _⟩;show jz (gh (oN d) (some (d,a)))=_;rcases l with⟨rfl,_⟩|⟨h,i,q,A,_,rfl,_⟩<;>rfl
 |cons f g=>
  rcases l with⟨rfl,rfl⟩|⟨h,i,q,A,J,rfl,n⟩
  ·refine⟨.arr a.size 0 0 (f::g).length false,a.cons ⟨b,0,0,false,false,f::g⟩,?_,.inr ⟨a.size,0,0,false,aw _,rfl,dC⟩,qn.cons _ _ _⟩;show jz (a.jb b c.bytes [] (f::g))=_;rw[oU m r (by simpa using s)];rfl
  ·refine⟨.arr h (i+1) 0 (e++f::g).length false,d8 a h ⟨b,i+1,q+1,false,false,e++f::g⟩,?_,.inr ⟨h,i+1,q+1,false,J,rfl,by rw[dQ n,aq rfl]⟩,qn.put n rfl _⟩;show jz (a.mt b c.bytes h i e.length (f::g))=_;rw[wi n m r s];rfl
def sj.UM{cx:Ctx}{g:H}{o:T}{b:Nat}{i:Type}{a:i->T}{f:List i}(t:sj g 0 o b (f.map a)){h k:ab}{n d:Ty}(l:cx.ty h=some n)(m:n.u= .slice k)(p:cx.ty k=some d)(v:d.size=b)(q:1<=d.bytes)
 (r:∀x,Lh (a x)=b) (xs:List i) (s:(f.length+xs.length)*d.bytes<=70368744177664):
 ∃e c,iM cx g h h o (sl (xs.map a))=some (.val e c)/\sj c 0 e b ((f++xs).map a)/\qn b g c:=by
 obtain⟨e,c,w,y,z⟩:=t.abz (x:=sl (xs.map a)) (xs:=xs.map a) l m p l m v q dC (by simpa using λj _=>show(a j).cells.length=b from r j) (by simpa using s);exact⟨e,c,w,by rw[List.map_append];exact y,z⟩
def sj.Kl{cx:Ctx}{c:H}{n:T}{a:Nat}{i:Type}{b:i->T}{g:List i}(s:sj c 0 n a (g.map b)){h j:ab}{m e:Ty}(k:cx.ty h=some m)(l:m.u= .slice j)(o:cx.ty j=some e)(t:e.size=a)(p:1<=e.bytes)
 (q:∀x,Lh (b x)=a) (x:i) (r:(g.length+1)*e.bytes<=70368744177664):
 ∃f d,iM cx (c.cons ⟨a,0,0,true,false,[b x]⟩) h h n (.arr c.size 0 0 1 false)=some (.val f d)/\sj d 0 f a ((g++[x]).map b)/\qn a c d:=by
 obtain⟨f,d,v,w,y⟩:=(s.cons ⟨a,0,0,true,false,[b x]⟩).abz (x:= .arr c.size 0 0 1 false) (xs:=[b x]) k l o k l t p (by rw[gH];simp) (by simpa using show(b x).cells.length=a from q x) (by simpa using r);exact⟨f,d,v,by rw[List.map_append];exact w,(qn.cons _ _ _).trans y⟩
def sr{n:Env->H->Out}(d:Nat)(f:Nat->fX->H->Prop){l:iO}
 (q:∀k c a,k<=d->f k c a->W (n ⟨c,.nil⟩ a) (xO (λb a=>b.tmps= .nil/\∃e,k<e/\e<=d/\f e b.vars a) l)) {j:Nat} (v:d<j) {k:Nat} (h:k<=d) {c:fX} {a:H} (g:f k c a):W (oo n j ⟨c,.nil⟩ a) l:=by
 refine QW (σ:=Nat) (I:=λk b a=>k<=d/\b.tmps= .nil/\f k b.vars a) (m:=λk=>d-k) ?_ j k _ _ dB ⟨h,rfl,g⟩;rintro k ⟨c,y⟩ a ⟨h,ht,g⟩;simp only at ht g;subst ht;obtain⟨o,b,p,r,i⟩:=q k c a h g;refine⟨o,b,p,r,?_⟩;cases o with
 |normal=>
  obtain⟨s,e,x,t,u⟩:=i;exact⟨e,dB,t,s,u⟩
 |exit w=>exact i
 |ret=>exact i
section
variable {cx:Ctx}
end
end
noncomputable section
section
variable {P:ai}{cx:Ctx}
def Ql{f:aj}{t:List T}{b c:H}{F G:T}(O:qA P cx ⟨f,t,b,F,c⟩)(Y:Hp c)(z:b.size<=c.size)
 (R:∀a h,a<b.size->c.get a=some h->c.get a=b.get a\/∀m∈fx h.eZ,pP b.size m) (S:jl c b.size F=some G):
 qA P cx ⟨f,t,b,cn G,⟨b.size,c.low,c.fy.drop (c.size-b.size)⟩⟩:=by
 intro J w r K q i;refine(O J w r K q i).mono λm al ⟨⟨s,ae,D,g,j⟩,p⟩=> ?_;have v:∀a e,r a=some e->a<b.size:=λa e d=>q.eJ d;have j:ye r s b.size c.size:=j;have hl:∀a e h,a<b.size->s a=some e->c.get a=some h->∀m∈fx h.eZ,pP b.size m:=by
  intro a e h d i B;rcases R a h d B with he|he
  ·rcases j.2.1 a (by rw[i];simp)with k|k
   ·obtain⟨I,N⟩:=Option.ne_none_iff_exists'.1 k;obtain⟨an,o,X⟩:=q.box a I N;rw[<-he,B]at o;simp only[ar]at o;subst o;exact X.low v
   ·omega
  ·exact he
 have u:=St.cut (low:=c.low) D z hl;have x:∀a,a<b.size->(⟨b.size,c.low,c.fy.drop (c.size-b.size)⟩:H).get a=c.get a:=λa d=>H3 Y z d;refine⟨⟨mr b.size s,(u4 D ae S).cn,u,⟨⟨g.ext.size,λZ U W=> ?_,λa e d=> ?_,g.ext.pi,g.ext.kept⟩,g.os,g.tape,g.output⟩,au _,λa d=> ?_,λa E l=>absurd E (by show¬b.size<=a;have l:a<b.size:=l;omega)⟩,?_⟩
 ·obtain⟨L,M⟩:=g.ext.nJ Z U W;exact⟨L,wC M⟩
 ·rw[uq (v a e d)];exact g.ext.mu a e d
 ·left;obtain⟨e,i⟩:=Option.ne_none_iff_exists'.1 d;obtain⟨E,l⟩:=kf i;rcases j.2.1 a (by rw[l];simp)with k|k
  ·exact k
  ·omega
 ·refine⟨u.wf,au _,p.low,λa d V=> ?_,λa y C=> ?_⟩
  ·rw[x a d];exact p.kS a d V
  ·rw[x a (H.eJ C)];exact p.ver a y C
def JQ{g h:H}(t:∀b,h.get b=g.get b)(n:Nat):∀a,freeze h n a=freeze g n a:=by
 intro a;induction a with
 |zero=>rfl
 |succ a q=>
  funext u;cases u with
  |agg m=>
   show(dV (fP (freeze h n a) m) λc=>some (T.agg c))=(dV (fP (freeze g n a) m) λc=>some (T.agg c));rw[q]
  |arr b o s r p=>
   show gh (Nat.ble n b) (dV (h.get b) λl=> @iY.rec (λ_=>aa T) (λ_ i _ exact k d=>
    gh (Nat.beq i o) (@Bool.rec (λ_=>aa T) (dV (dV (jX s d) λc=>takeN r c) λj=>dV (fP (freeze h n a) j) λe=>
     @List.rec T (λ_=>aa T) (@List.rec T (λ_=>aa T) (@Bool.rec (λ_=>aa T) (some .gu) (some (.dN [] false)) exact) (λ_ _ _=>some .gu) d) (λ_ _ _=>some (.dN e p)) e) none k)) l)=
    gh (Nat.ble n b) (dV (g.get b) λl=> @iY.rec (λ_=>aa T) (λ_ i _ exact k d=>
    gh (Nat.beq i o) (@Bool.rec (λ_=>aa T) (dV (dV (jX s d) λc=>takeN r c) λj=>dV (fP (freeze g n a) j) λe=>
     @List.rec T (λ_=>aa T) (@List.rec T (λ_=>aa T) (@Bool.rec (λ_=>aa T) (some .gu) (some (.dN [] false)) exact) (λ_ _ _=>some .gu) d) (λ_ _ _=>some (.dN e p)) e) none k)) l)
   rw[q,t]
  |_=>rfl
def tv{a b:H}(i:∀e,b.get e=a.get e)(n:Nat)(c:T):jl b n c=jl a n c:=by
 have g:iJ b n=iJ a n:=by funext d;cases d<;>(unfold iJ;simp only[JQ i])
 have h:kr b n=kr a n:=by funext d;cases d<;>(unfold kr;simp only[g])
 cases c<;>(unfold jl;simp only[h])
end
def FT(e:H)(c:Nat->Prop):Nat->T->T->Prop
 |0,_,_=>False
 |d+1,a,g=>(jW a=true/\(∀b,a≠ .agg b)/\g=cn a)\/
  (∃h l o m f j k,a= .arr h l o m f/\c h/\e.ji a=some j/\iG (FT e c d) j k/\g=sl k)\/
  (∃b i,a= .agg b/\iG (FT e c d) b i/\g= .agg i)
def iG.imp_mem{α h:Type}{d R':α->h->Prop}{c:List α}{g:List h}(i:iG d c g)(e:∀a∈c,∀b,d a b->R' a b):iG R' c g:=by
 induction i with
 |nil=>exact .nil
 |cons a _ k=>exact .cons (e _ dC _ a) (k λl j b=>e l (by simp[j]) b)
def p9{α d:Type}{f:α->aa d}{b:List α}{c:List d}(g:iG (λa e=>f a=some e) b c):fP f b=some c:=by
 induction g with
 |nil=>rfl
 |cons a _ h=>rw[jK,a,h];rfl
def FT.xh{h:H}{V:Nat->Prop}:∀{d:Nat} {v t:T},FT h V d v t->TI.xh h d v=some t:=by
 intro d;induction d with
 |zero=>intro v t c;exact c.elim
 |succ d g=>
  intro v t c;rcases c with⟨j,k,rfl⟩|⟨e,p,u,s,f,q,r,rfl,_,l,a,rfl⟩|⟨m,o,rfl,a,rfl⟩
  ·unfold TI.xh;rw[sU h 0 d v j k];rfl
  ·rw[xR,l,dY,p9 (a.imp λi e b=>g b)];rfl
  ·rw[Ss,p9 (a.imp λi e b=>g b)];rfl
def HO{c d:H}{a b g e:Nat}{f:Bool}(h:d.get a=c.get a):d.ji (.arr a b g e f)=c.ji (.arr a b g e f):=by
 rw[gH,gH,h]
def FT.mono{k h':H}{i j:Nat->Prop}(m:∀a,i a->j a/\h'.get a=k.get a):∀{b:Nat} {e d:T},FT k i b e d->FT h' j b e d:=by
 intro b;induction b with
 |zero=>intro e d c;exact c.elim
 |succ b o=>
  intro e d c;rcases c with c|⟨a,s,x,w,f,t,u,rfl,l,v,g,rfl⟩|⟨q,r,rfl,g,rfl⟩
  ·exact .inl c
  ·exact .inr (.inl ⟨a,s,x,w,f,t,u,rfl,(m a l).1,by rw[HO (m a l).2];exact v,g.imp λp a h=>o h,rfl⟩)
  ·exact .inr (.inr ⟨q,r,rfl,g.imp λp a h=>o h,rfl⟩)
def FT.deep{k:H}{j:Nat->Prop}:∀{b a:Nat} {e d:T},b<=a->FT k j b e d->FT k j a e d:=by
 intro b;induction b with
 |zero=>intro a e d _ c;exact c.elim
 |succ b l=>
  intro a e d y c;obtain⟨a,rfl⟩:∃q,a=q+1:=⟨a-1,dB⟩;rcases c with c|⟨g,r,x,w,f,s,t,rfl,u,v,h,rfl⟩|⟨o,p,rfl,h,rfl⟩
  ·exact .inl c
  ·exact .inr (.inl ⟨g,r,x,w,f,s,t,rfl,u,v,h.imp λm g i=>l dB i,rfl⟩)
  ·exact .inr (.inr ⟨o,p,rfl,h.imp λm g i=>l dB i,rfl⟩)
def FT.fz{h:H}{V:Nat->Prop}{v t:T}(l:FT h V 12 v t):TI.fz h v=some t:=by
 rcases l with⟨i,e,rfl⟩|⟨g,o,s,r,f,p,q,rfl,e,j,a,rfl⟩|⟨b,c,rfl,a,rfl⟩
 ·show(dV (iJ h 0 v) λv=>some (cn v))=_;rw[qv h i e];rfl
 ·rw[vZ,j,dY,p9 (a.imp λm g k=>k.xh)];rfl
 ·have:=FT.xh (h:=h) (V:=V) (d:=12) (v:= .agg b) (t:= .agg c) (.inr (.inr ⟨b,c,rfl,a,rfl⟩));exact this
@[simp] theorem f9 (d:H) (b:Nat->Prop) (c:Nat) (a:ak) (n:Int):FT d b (c+1) (.int a n) (.int a n):= .inl ⟨dC,dC,dC⟩
@[simp] theorem kj (d:H) (b:Nat->Prop) (c:Nat) (a:List Nat):FT d b (c+1) (.str a) (.str a):= .inl ⟨dC,dC,dC⟩
@[simp] theorem LI (d:H) (b:Nat->Prop) (c:Nat) (a:Bool):FT d b (c+1) (.bool a) (.bool a):= .inl ⟨dC,dC,dC⟩
def o7(g:H)(d:Nat->Prop)(e:Nat){a:List T}(c:∀b∈a,cn b=b):FT g d (e+1) (sl a) (sl a):=by
 refine .inl ⟨dC,by cases a<;>simp[sl],?_⟩;rw[Lj];congr 1;induction a with
 |nil=>rfl
 |cons b k i=>rw[aT,c b dC,<-i λj h=>c j (by simp[h])]
def jh(c:H)(a:Nat->Prop)(b:Nat)(f:Bool):FT c a (b+1) (.dN [] f) (sl []):= .inl ⟨dC,dC,by rw[nl];rfl⟩
section
variable {cx:Ctx}{cf:iX}{mask n:Nat}{dl:DL}
def aeQ{a:Bool}{h:af Oper}{c:aa Tmp}{g:Op}{e:List Oper}{j i:fX}{d:H}{b:iO}(k:a=true->GK (some true) cx cf mask h c g e j i d b)(l:a=false->GK (some false) cx cf mask h c g e j i d b):GK (some a) cx cf mask h c g e j i d b:=by
 cases a
 ·exact l rfl
 ·exact k rfl
def fG(b e:Code)(c:Env)(d:H)(a:iO):CK (some (.bool true)) cx cf n mask dl b e c d a=W (jG cx cf n mask dl b c d) a:=rfl
def fj(e b:Code)(c:Env)(d:H)(a:iO):CK (some (.bool false)) cx cf n mask dl e b c d a=W (jG cx cf n mask dl b c d) a:=rfl
def em{a:Bool}{e g:Code}{c:Env}{d:H}{b:iO}(h:a=true->W (jG cx cf n mask dl e c d) b)(i:a=false->W (jG cx cf n mask dl g c d) b):CK (some (.bool a)) cx cf n mask dl e g c d b:=by
 cases a
 ·exact i rfl
 ·exact h rfl
end
def wR(P:ai)(cx:Ctx)(f:aj){α:Type}(A:α->List T)(pre:α->Prop)(Q:α->T->Prop):iq:=
 ⟨α,A,pre,λa=>Classical.epsilon λc=>(∀b,A b=A a->Q b c)/\kY P cx f (A a) c,λa b d=>by simp only[d]⟩
section
variable {P:ai}{cx:Ctx}{f:aj}{α:Type}{A:α->List T}{pre:α->Prop}{Q:α->T->Prop}
def Kx(h:∀a b,A a=A b->a=b){a:α}(j:∃c,Q a c/\kY P cx f (A a) c):Q a ((wR P cx f A pre Q).R a)/\kY P cx f (A a) ((wR P cx f A pre Q).R a):=by
 have d:∃c,(∀b,A b=A a->Q b c)/\kY P cx f (A a) c:=by
  obtain⟨c,e,g⟩:=j;exact⟨c,λb i=>by rw[h b a i];exact e,g⟩
 have:=Classical.epsilon_spec d;exact⟨this.1 a rfl,this.2⟩
def YD(d:∀a b,A a=A b->a=b)(g:∀a,pre a->∃c,Q a c/\kY P cx f (A a) c):(wR P cx f A pre Q).Ok P cx f:=λa e=>(Kx d (g a e)).2
def ju{tb:fN}{c:Func}{mask:Nat}{dl:DL}(j:P.follows .mixedOrders=true)(iZ:jd P cx)(m:GA P cx f c mask dl)(n:α->Nat)(h:∀a g,A a=A g->a=g)(hl:∀a,mJ (A a)=true)(k:∀a,(A a).length<=c.ntmps)
 (l:∀a,pre a->∀i,nI i 0 (A a)->W (jG cx (qW P cx tb) (n a) mask dl (c.body.getD .skip) ⟨i,.nil⟩ hE) (Cs cx mask c.results.toList λo d=>∃b,Q a b/\Q8 d o b)):(wR P cx f A pre Q).Ok P cx f/\∀a,pre a->Q a ((wR P cx f A pre Q).R a):=by
 have d:∀a,pre a->∃b,Q a b/\kY P cx f (A a) b:=λa e=>U1 j iZ m (CZ P cx tb) (hl a) (k a) (n a) (l a e);exact⟨YD h d,λa e=>(Kx h (d a e)).1⟩
def nK(P:ai)(cx:Ctx)(f:aj)(A:α->List T)(pre:α->Prop)(Q:α->T->Prop):Prop:=(wR P cx f A pre Q).Ok P cx f/\∀a,pre a->Q a ((wR P cx f A pre Q).R a)
def Bc(d:α->Nat)(step:∀b,nK P cx f A (λa=>pre a/\d a<b) Q->nK P cx f A (λa=>pre a/\d a<b+1) Q):nK P cx f A pre Q:=by
 have e:∀b,nK P cx f A (λa=>pre a/\d a<b) Q:=by
  intro b;induction b with
  |zero=>exact⟨λa c=>absurd c.2 (Nat.not_lt_zero _),λa c=>absurd c.2 (Nat.not_lt_zero _)⟩
  |succ b g=>exact step b g
 exact⟨λa c=>(e (d a+1)).1 a ⟨c,dg _⟩,λa c=>(e (d a+1)).2 a ⟨c,dg _⟩⟩
end
def MJ(b:Prop)(c:T):Prop:=∃a,c= .bool a/\(a=true->b)
@[simp] theorem X4 (d:Prop) (a:Bool):MJ d (.bool a)=(a=true->d):=by
 unfold MJ;apply propext;constructor
 ·rintro⟨e,c,b⟩;simp at c;subst c;exact b
 ·exact λb=>⟨a,rfl,b⟩
@[simp] theorem aaX (a:Bool):EM (.bool a)=True:=by simp[EM]
end
noncomputable section
attribute [-simp] fh ej
def gT(a:Bool)(b:T):T:=match a with|true=>b|false=> .undef
def mgT(a:Bool)(b c:T):T:=match a with|true=>b|false=>c
@[simp] theorem aaE (b:Bool) (a:T):mgT b a a=a:=by cases b<;>rfl
@[simp] theorem ae9 (a:Bool) (b:T):mgT a b .undef=gT a b:=by cases a<;>rfl
@[simp] theorem ae8 (a:Bool) (b:T):mgT a .undef b=gT (!a) b:=by cases a<;>rfl
@[simp] theorem afa (a b c:Bool):mgT a (.bool b) (.bool c)= .bool (bif a then b else c):=by cases a<;>rfl
def VS(a:Bool)(b c:fX):fX:=match a with|true=>b|false=>c
@[simp] theorem aaC (b:Bool) (a:fX):VS b a a=a:=by cases b<;>rfl
@[simp] theorem aaD (a:Bool) (b:Nat) (e g:T) (c d:fX):VS a (.cons b e c) (.cons b g d)= .cons b (mgT a e g) (VS a c d):=by cases a<;>rfl
def vf:fX->Nat->T->fX
 | .nil,_,_=> .nil
 | .cons a e b,c,d=>if a=c then .cons a d b else .cons a e (vf b c d)
@[simp] theorem LY (a c:Nat) (e d:T) (b:fX):vf (.cons a e b) c d=if a=c then .cons a d b else .cons a e (vf b c d):=id rfl
def tP:∀{c:fX} {b:Nat} {d:T},dO c b=some d->vf c b d=c
 | .nil,_,_,_=>rfl
 | .cons e i g,b,d,h=>by
  rw[lz]at h;rw[LY];by_cases a:e=b
  ·rw[aq a]at h;simp only[ar]at h;rw[aq a,h]
  ·rw[ao a]at h;rw[ao a,tP h]
def Dm(a:Nat):List Oper->List Oper
 | []=>[]
 |o::c=>match o.guard with|some (b,_)=>if a<=b then o::Dm a c else []|none=>[]
def La(b:Nat):List Oper->List Oper
 | []=>[]
 |o::a=>match o.guard with|some (c,_)=>if b<=c then La b a else o::a|none=>o::a
def NE(b:Nat):∀a,Dm b a++La b a=a
 | []=>rfl
 |o::a=>by
  unfold Dm La;cases o.guard with
  |none=>rfl
  |some c=>
   simp only;split
   ·rw[co,NE b a]
   ·rfl
section
variable {cx:Ctx}{cf:iX}{mask:Nat}
@[simp] theorem ae2 (c:Nat) (b:aa Tmp) (e:Op) (i:ab) (g:String) (a:af Edge) (d:List Oper):Dm c (⟨b,e,i,g,a,none⟩::d)=[]:=id rfl
@[simp] theorem afk (i:Nat) (b:aa Tmp) (d:Op) (g:ab) (e:String) (a:af Edge) (c:List Oper):La i (⟨b,d,g,e,a,none⟩::c)=⟨b,d,g,e,a,none⟩::c:=id rfl
@[simp] theorem ae3 (a b:Nat) (d:Bool) (e:aa Tmp) (i:Op) (k:ab) (j:String) (c:af Edge) (g:List Oper):Dm a (⟨e,i,k,j,c,some (b,d)⟩::g)=if a<=b then⟨e,i,k,j,c,some (b,d)⟩::Dm a g else []:=id rfl
@[simp] theorem afl (a b:Nat) (e:Bool) (g:aa Tmp) (i:Op) (k:ab) (j:String) (d:af Edge) (c:List Oper):La a (⟨g,i,k,j,d,some (b,e)⟩::c)=if a<=b then La a c else⟨g,i,k,j,d,some (b,e)⟩::c:=id rfl
def vH(a:af Oper)(c:Oper)(g:List Oper)(b:Env)(h:H):
 ky cx cf mask a (c::g) b h=dV (yj cx cf mask a b h c) λi=>two i λj e=>dV (b.dst mask c.dst j) λd=>ky cx cf mask a g d e:=by
 show(dV (ls cx cf mask a b h c) λi=>two i λd e=>ky cx cf mask a g d e)=_;rw[qM]
def tc(b:af Oper):∀(c d:List Oper) (a:Env) (h:H),ky cx cf mask b (c++d) a h=dV (ky cx cf mask b c a h) λi=>two i λe g=>ky cx cf mask b d e g
 | [],_,_,_=>rfl
 |o::c,d,a,h=>by
  rw[co,vH,vH];cases yj cx cf mask b a h o with
  |none=>rfl
  |some i=>
   obtain⟨j,g⟩:=i;simp only[dY,kC];cases a.dst mask o.dst j with
   |none=>rfl
   |some e=>simp only[dY];exact tc b c d e g
def qN(cx:Ctx)(cf:iX)(mask:Nat)(b:af Oper)(a:List Oper)(d c:fX)(h:H):aa (Env×H):=ky cx cf mask b a ⟨d,c⟩ h
def SG(l:aa (T×H))(cx:Ctx)(cf:iX)(mask:Nat)(e:af Oper)(a:aa Tmp)(d:List Oper)(k i:fX):aa (Env×H):=
 dV l λg=>two g λj c=>dV (Env.dst mask ⟨k,i⟩ a j) λb=>ky cx cf mask e d b c
@[simp] theorem ZR (c:af Oper) (b a:fX) (h:H):qN cx cf mask c [] b a h=some (⟨b,a⟩,h):=id rfl
def PQ(d b:fX)(a:Tmp)(c:T):Env.dst mask ⟨d,b⟩ (some a) c=some (if(mask>>>a)&&&1=1 then⟨put d a c,b⟩else⟨d,.cons a c b⟩):=by
 show @Bool.rec (λ_=>aa Env) (some ⟨d,.cons a c b⟩) (dV (lK d a c) λe=>some ⟨e,b⟩) (km mask a)=_;rw[pf];have:=Cp mask a;cases hl:km mask a with
 |true=>rw[aq (by rw[<-this];exact hl)];rfl
 |false=>rw[ao (by rw[<-this,hl];simp)]
@[simp] theorem ac8 (e:T) (h:H) (c:af Oper) (a:Tmp) (b:List Oper) (g d:fX):SG (some (e,h)) cx cf mask c (some a) b g d=
 if(mask>>>a)&&&1=1 then qN cx cf mask c b (put g a e) d h else qN cx cf mask c b g (.cons a e d) h:=by
 unfold SG;rw[dY,kC,PQ,dY];split<;>rfl
def G3(o:aa Tmp)(i:aa Bool)(m:Nat)(l:Bool)(cx:Ctx)(cf:iX)(mask:Nat)(g:af Oper)(c:aa Tmp)(e:Op)(p:ab)(n:String)(k:af Edge)(d:List Oper)(b a:fX)(h:H):aa (Env×H):=
 SG (dV i λj=> @Bool.rec (λ_=>aa (T×H)) (some (.undef,h)) (fin cf h (jn e cx mask ⟨b,a⟩ h)) j) cx cf mask g c d b a
def I4(a:af Oper)(j:aa Tmp)(k:Op)(m:ab)(l:String)(i:af Edge)(c:Nat)(b:Bool)(d:List Oper)(g e:fX)(h:H)(n:aa Tmp):
 qN cx cf mask a (⟨j,k,m,l,i,some (c,b)⟩::d) g e h=G3 n (kv a mask ⟨g,e⟩ (some (c,b))) c b cx cf mask a j k m l i d g e h:=vH a _ d _ h
@[simp] theorem GT (b:List Oper) (i:aa Tmp) (k:Op) (m:ab) (l:String) (g:af Edge) (a:Nat) (c:Bool) (j:List Oper) (e d:fX) (h:H):
 qN cx cf mask b.toArray (⟨i,k,m,l,g,some (a,c)⟩::j) e d h=G3 (dV (b[a]?) λn=>n.dst) (kv b.toArray mask ⟨e,d⟩ (some (a,c))) a c cx cf mask b.toArray i k m l g j e d h:=I4 b.toArray i k m l g a c j e d h _
@[simp] theorem adf (m:aa Tmp) (k:Nat) (j:Bool) (g:af Oper) (c:aa Tmp) (e:Op) (n:ab) (l:String) (i:af Edge) (d:List Oper) (b a:fX) (h:H):G3 m (some true) k j cx cf mask g c e n l i d b a h=SG (fin cf h (jn e cx mask ⟨b,a⟩ h)) cx cf mask g c d b a:=id rfl
@[simp] theorem abP (m:aa Tmp) (j:Nat) (i:Bool) (c:af Oper) (a:aa Tmp) (k:Op) (n:ab) (l:String) (g:af Edge) (b:List Oper) (e d:fX) (h:H):G3 m (some false) j i cx cf mask c a k n l g b e d h=SG (some (.undef,h)) cx cf mask c a b e d:=id rfl
def Xw(a:Bool)(g i:aa (Env×H))(cx:Ctx)(cf:iX)(mask:Nat)(c:af Oper)(e:List Oper):aa (Env×H):=dV (bif a then g else i) λd=>two d λb h=>ky cx cf mask c e b h
@[congr] theorem Yz {a b:Bool} {g i j k:aa (Env×H)} {c:af Oper} {d e:List Oper} (l:a=b) (m:g=i) (n:j=k) (hr:d=e):Xw a g j cx cf mask c d=Xw b i k cx cf mask c e:=by rw[l,m,n,hr]
@[simp] theorem adm (a:Bool) (g d i e:fX) (h:H) (b:af Oper) (c:List Oper):Xw a (some (⟨g,d⟩,h)) (some (⟨i,e⟩,h)) cx cf mask b c=qN cx cf mask b c (VS a g i) (VS a d e) h:=by cases a<;>rfl
def K9{e c:fX}{a:Tmp}{d:T}(g:(mask>>>a)&&&1=0)(b:Env.get mask ⟨e,c⟩ a=some d):dO c a=some d:=by
 rw[Bn,ao dB]at b;exact b
def NV{b:List Oper}{g:Tmp}{i:Bool}{a:List Oper}{d c:fX}{h:H}(e:Nat)(n:(mask>>>g)&&&1=0)(m:Env.get mask ⟨d,c⟩ g=some (.bool i)):
 qN cx cf mask b.toArray a d c h=Xw i (qN cx cf mask b.toArray (Dm e a) d (vf c g (.bool true)) h) (qN cx cf mask b.toArray (Dm e a) d (vf c g (.bool false)) h) cx cf mask b.toArray (La e a):=by
 have j:=K9 n m;have:qN cx cf mask b.toArray a d c h=dV (qN cx cf mask b.toArray (Dm e a) d c h) λo=>two o λk l=>ky cx cf mask b.toArray (La e a) k l:=by
  show ky cx cf mask b.toArray a ⟨d,c⟩ h=_
  conv=>lhs;rw[<-NE e a]
  exact tc _ _ _ _ _
 rw[this];cases i
 ·conv=>lhs;rw[<-tP j]
  rfl
 ·conv=>lhs;rw[<-tP j]
  rfl
def Q6(d:List Oper)(b:Tmp)(o:Bool)(a:Nat)(c:Bool)(g:aa Tmp)(j:Op)(l:ab)(k:String)(e:af Edge)(i:List Oper)(n m:fX)(h:H)(r:Bool)
 (s:(mask>>>b)&&&1=0) (p:(dV (d[a]?) λu=>u.dst)=some b) (q:Env.get mask ⟨n,m⟩ b=some (.bool o)) (t:r=(o==c)):
 G3 (some b) (some r) a c cx cf mask d.toArray g j l k e i n m h=
  Xw o (qN cx cf mask d.toArray (Dm a (⟨g,j,l,k,e,some (a,c)⟩::i)) n (vf m b (.bool true)) h) (qN cx cf mask d.toArray (Dm a (⟨g,j,l,k,e,some (a,c)⟩::i)) n (vf m b (.bool false)) h) cx cf mask d.toArray (La a (⟨g,j,l,k,e,some (a,c)⟩::i)):=by
 subst t;rw[<-NV a s q,GT,p,BD,p,dY,q,BC]
@[simp low] theorem adg (c:List Oper) (b:Tmp) (e:Bool) (a:Nat) (g:aa Tmp) (j:Op) (l:ab) (k:String) (d:af Edge) (i:List Oper) (n m:fX) (h:H)
 (q:(mask>>>b)&&&1=0) (o:(dV (c[a]?) λr=>r.dst)=some b) (p:Env.get mask ⟨n,m⟩ b=some (.bool e)):
 G3 (some b) (some e) a true cx cf mask c.toArray g j l k d i n m h=
  Xw e (qN cx cf mask c.toArray (Dm a (⟨g,j,l,k,d,some (a,true)⟩::i)) n (vf m b (.bool true)) h) (qN cx cf mask c.toArray (Dm a (⟨g,j,l,k,d,some (a,true)⟩::i)) n (vf m b (.bool false)) h) cx cf mask c.toArray (La a (⟨g,j,l,k,d,some (a,true)⟩::i)):=
 Q6 c b e a true g j l k d i n m h e q o p dC 
@[simp low] theorem adh (d:List Oper) (b:Tmp) (c:Bool) (a:Nat) (g:aa Tmp) (j:Op) (l:ab) (k:String) (e:af Edge) (i:List Oper) (n m:fX) (h:H)
 (q:(mask>>>b)&&&1=0) (o:(dV (d[a]?) λr=>r.dst)=some b) (p:Env.get mask ⟨n,m⟩ b=some (.bool !c)):
 G3 (some b) (some c) a false cx cf mask d.toArray g j l k e i n m h=
  Xw (!c) (qN cx cf mask d.toArray (Dm a (⟨g,j,l,k,e,some (a,false)⟩::i)) n (vf m b (.bool true)) h) (qN cx cf mask d.toArray (Dm a (⟨g,j,l,k,e,some (a,false)⟩::i)) n (vf m b (.bool false)) h) cx cf mask d.toArray (La a (⟨g,j,l,k,e,some (a,false)⟩::i)):=
 Q6 d b (!c) a false g j l k e i n m h c q o p (by cases c<;>rfl)
def G2(o:aa Tmp)(j:aa Bool)(m:Nat)(l:Bool)(cx:Ctx)(cf:iX)(mask:Nat)(e:af Oper)(b:aa Tmp)(d:Op)(p:ab)(n:String)(k:af Edge)(c:List Oper)(i g:fX)(h:H)(a:iO):Prop:=GK j cx cf mask e b d c i g h a
@[simp] theorem Ng (b:List Oper) (j:aa Tmp) (l:Op) (n:ab) (m:String) (i:af Edge) (a:Nat) (c:Bool) (k:List Oper) (e d:fX) (h:H) (g:iO):
 RK cx cf mask b.toArray (⟨j,l,n,m,i,some (a,c)⟩::k) e d h g=G2 (dV (b[a]?) λo=>o.dst) (kv b.toArray mask ⟨e,d⟩ (some (a,c))) a c cx cf mask b.toArray j l n m i k e d h g:=fh b.toArray j l n m i a c k e d h g
@[simp] theorem adi (n:aa Tmp) (l:Nat) (k:Bool) (i:af Oper) (d:aa Tmp) (g:Op) (o:ab) (m:String) (j:af Edge) (e:List Oper) (b a:fX) (h:H) (c:iO):G2 n (some true) l k cx cf mask i d g o m j e b a h c=XK (fin cf h (jn g cx mask ⟨b,a⟩ h)) cx cf mask i d e b a c:=id rfl
@[simp] theorem abQ (n:aa Tmp) (k:Nat) (j:Bool) (d:af Oper) (b:aa Tmp) (l:Op) (o:ab) (m:String) (i:af Edge) (c:List Oper) (g e:fX) (h:H) (a:iO):G2 n (some false) k j cx cf mask d b l o m i c g e h a=XK (some (.undef,h)) cx cf mask d b c g e a:=by
 unfold XK;rw[zd];rfl
def BG(c:Bool)(g i:aa (Env×H))(cx:Ctx)(cf:iX)(mask:Nat)(d:af Oper)(e:List Oper)(b:iO):Prop:=
 (c=true->∃a h,g=some (a,h)/\RK cx cf mask d e a.vars a.tmps h b)/\(c=false->∃a h,i=some (a,h)/\RK cx cf mask d e a.vars a.tmps h b)
@[congr] theorem abX {b c:Bool} {i j k l:aa (Env×H)} {d:af Oper} {e g:List Oper} {a:iO} (m:b=c) (n:i=j) (o:k=l) (hr:e=g):BG b i k cx cf mask d e a=BG c j l cx cf mask d g a:=by rw[m,n,o,hr]
@[simp] theorem aeT (c:Bool) (l j m k:fX) (h:H) (g:af Oper) (i:List Oper) (e:iO):BG c (some (⟨l,j⟩,h)) (some (⟨m,k⟩,h)) cx cf mask g i e=RK cx cf mask g i (VS c l m) (VS c j k) h e:=by
 unfold BG;apply propext;cases c
 ·constructor
  ·intro a;obtain⟨n,o,b,hr⟩:=a.2 rfl;simp only[ar,az]at b;obtain⟨rfl,rfl⟩:=b;exact hr
  ·exact λa=>⟨λd=>by simp at d,λ_=>⟨_,_,rfl,a⟩⟩
 ·constructor
  ·intro a;obtain⟨n,o,b,hr⟩:=a.1 rfl;simp only[ar,az]at b;obtain⟨rfl,rfl⟩:=b;exact hr
  ·exact λa=>⟨λ_=>⟨_,_,rfl,a⟩,λd=>by simp at d⟩
def Xm(e:af Oper)(g q:List Oper)(j i:fX)(h:H)(k:iO):RK cx cf mask e (g++q) j i h k=∃l a,qN cx cf mask e g j i h=some (l,a)/\RK cx cf mask e q l.vars l.tmps a k:=by
 apply propext;show(∃b a,ky cx cf mask e (g++q) ⟨j,i⟩ h=some (b,a)/\k.n ⟨b.vars,.nil⟩ a)↔_;rw[tc];constructor
 ·rintro⟨b,a,c,p⟩;obtain⟨⟨m,o⟩,d,c⟩:=dL.1 c;exact⟨m,o,d,b,a,c,p⟩
 ·rintro⟨m,o,d,b,a,c,p⟩;have d:ky cx cf mask e g ⟨j,i⟩ h=some (m,o):=d;exact⟨b,a,by rw[d];exact c,p⟩
def Q7(j:List Oper)(l:Tmp)(p:Bool)(a:Nat)(b:Bool)(d:aa Tmp)(i:Op)(m:ab)(k:String)(c:af Edge)(g:List Oper)(o n:fX)(h:H)(q:iO)(v:Bool)
 (x:(mask>>>l)&&&1=0) (s:(dV (j[a]?) λz=>z.dst)=some l) (t:Env.get mask ⟨o,n⟩ l=some (.bool p)) (y:v=(p==b)):
 G2 (some l) (some v) a b cx cf mask j.toArray d i m k c g o n h q=
  BG p (qN cx cf mask j.toArray (Dm a (⟨d,i,m,k,c,some (a,b)⟩::g)) o (vf n l (.bool true)) h) (qN cx cf mask j.toArray (Dm a (⟨d,i,m,k,c,some (a,b)⟩::g)) o (vf n l (.bool false)) h) cx cf mask j.toArray (La a (⟨d,i,m,k,c,some (a,b)⟩::g)) q:=by
 subst y;have u:=K9 x t;have w:G2 (some l) (some (p==b)) a b cx cf mask j.toArray d i m k c g o n h q=RK cx cf mask j.toArray (⟨d,i,m,k,c,some (a,b)⟩::g) o n h q:=by
  rw[Ng,s,BD,s,dY,t,BC]
 rw[w]
 conv=>lhs;rw[<-NE a (⟨d,i,m,k,c,some (a,b)⟩::g)]
 rw[Xm];unfold BG;apply propext;cases p
 ·conv=>lhs;rw[<-tP u]
  exact⟨λe=>⟨λr=>by simp at r,λ_=>e⟩,λe=>e.2 rfl⟩
 ·conv=>lhs;rw[<-tP u]
  exact⟨λe=>⟨λ_=>e,λr=>by simp at r⟩,λe=>e.1 rfl⟩
@[simp low] theorem adj (c:List Oper) (b:Tmp) (e:Bool) (a:Nat) (g:aa Tmp) (j:Op) (l:ab) (k:String) (d:af Edge) (i:List Oper) (n m:fX) (h:H) (o:iO)
 (r:(mask>>>b)&&&1=0) (p:(dV (c[a]?) λs=>s.dst)=some b) (q:Env.get mask ⟨n,m⟩ b=some (.bool e)):
 G2 (some b) (some e) a true cx cf mask c.toArray g j l k d i n m h o=
  BG e (qN cx cf mask c.toArray (Dm a (⟨g,j,l,k,d,some (a,true)⟩::i)) n (vf m b (.bool true)) h) (qN cx cf mask c.toArray (Dm a (⟨g,j,l,k,d,some (a,true)⟩::i)) n (vf m b (.bool false)) h) cx cf mask c.toArray (La a (⟨g,j,l,k,d,some (a,true)⟩::i)) o:=
 Q7 c b e a true g j l k d i n m h o e r p q dC 
@[simp low] theorem adk (d:List Oper) (b:Tmp) (c:Bool) (a:Nat) (g:aa Tmp) (j:Op) (l:ab) (k:String) (e:af Edge) (i:List Oper) (n m:fX) (h:H) (o:iO)
 (r:(mask>>>b)&&&1=0) (p:(dV (d[a]?) λs=>s.dst)=some b) (q:Env.get mask ⟨n,m⟩ b=some (.bool !c)):
 G2 (some b) (some c) a false cx cf mask d.toArray g j l k e i n m h o=
  BG (!c) (qN cx cf mask d.toArray (Dm a (⟨g,j,l,k,e,some (a,false)⟩::i)) n (vf m b (.bool true)) h) (qN cx cf mask d.toArray (Dm a (⟨g,j,l,k,e,some (a,false)⟩::i)) n (vf m b (.bool false)) h) cx cf mask d.toArray (La a (⟨g,j,l,k,e,some (a,false)⟩::i)) o:=
 Q7 d b (!c) a false g j l k e i n m h o c r p q (by cases c<;>rfl)
def Xx{c:Bool}{g i:aa (Env×H)}{d:af Oper}{e:List Oper}{b:iO}(j:c=true->∃a h,g=some (a,h)/\RK cx cf mask d e a.vars a.tmps h b)(k:c=false->∃a h,i=some (a,h)/\RK cx cf mask d e a.vars a.tmps h b):BG c g i cx cf mask d e b:=⟨j,k⟩
def Jj{a d e:Bool}{h:H}{b c:aa lH}(g:a=true->b=some (.val (.bool d) h))(i:a=false->c=some (.val (.bool e) h)):mU (some (.bool a)) b c=some (.val (.bool (bif a then d else e)) h):=by
 cases a
 ·exact i rfl
 ·exact g rfl
@[simp] theorem aca (a b:aa lH):mU (some (.bool true)) a b=a:=id rfl
@[simp] theorem Z8 (b a:aa lH):mU (some (.bool false)) b a=a:=id rfl
@[simp] theorem ae6 (a b c:Bool) (h:H):mU (some (.bool a)) (some (.val (.bool b) h)) (some (.val (.bool c) h))=some (.val (.bool (bif a then b else c)) h):=Jj (λ_=>rfl) (λ_=>rfl)
@[simp] theorem ae5 (a c d b:Bool) (h:H) (g:a=false->b=true):mU (some (.bool a)) (some (.val (.bool c) h)) (some (.val (gT b (.bool d)) h))=some (.val (.bool (bif a then c else d)) h):=Jj (λ_=>rfl) (λe=>by rw[g e];rfl)
@[simp] theorem ae4 (a c d b:Bool) (h:H) (g:a=true->b=true):mU (some (.bool a)) (some (.val (gT b (.bool c)) h)) (some (.val (.bool d) h))=some (.val (.bool (bif a then c else d)) h):=Jj (λe=>by rw[g e];rfl) (λ_=>rfl)
end
def kq(th:aj->aa kU):Op->Bool
 | .move _| .assign _| .pick .. | .load .. | .nilCheck _| .unOp .. | .binOp .. | .fieldAddr .. | .field .. | .indexAddr .. | .index .. | .extract .. | .slice .. =>true
 | .call b=>(match b.callee with
  | .builtin a=>(match a with| .len| .min| .max=>true|_=>false)
  | .value c=>(match c with| .func f=>(th f).isNone|_=>false)
  |_=>false)
 |_=>false
section
variable {th:aj->aa kU}
@[simp] theorem ab7 (a:ah):kq th (.move a)=true:=id rfl
@[simp] theorem XM (a:ah):kq th (.assign a)=true:=id rfl
@[simp] theorem ab6 (a b c:ah):kq th (.pick a b c)=true:=id rfl
@[simp] theorem ab8 (a:ab) (b:ah):kq th (.load a b)=true:=id rfl
@[simp] theorem Ua (a:ah):kq th (.nilCheck a)=true:=id rfl
@[simp] theorem ab5 (a:UnOp) (b:ab) (c:ah):kq th (.unOp a b c)=true:=id rfl
@[simp] theorem Z4 (a:BinOp) (b:ab) (d e:ah) (c:ab):kq th (.binOp a b d e c)=true:=id rfl
@[simp] theorem RF (a:ab) (b:ah) (f:Nat):kq th (.fieldAddr a b f)=true:=id rfl
@[simp] theorem Z1 (a:ab) (b:ah) (f:Nat):kq th (.field a b f)=true:=id rfl
@[simp] theorem RE (a:ab) (b c:ah):kq th (.indexAddr a b c)=true:=id rfl
@[simp] theorem Vp (b:ah) (a:Nat):kq th (.extract b a)=true:=id rfl
@[simp] theorem Z0 (d:ab) (e:ah) (a b c:aa ah):kq th (.slice d e a b c)=true:=id rfl
@[simp] theorem Z2 (f:aj) (a:af ah) (b:af ab):kq th (.call ⟨.value (.func f),a,b⟩)=(th f).isNone:=id rfl
@[simp] theorem adI (a:af ah) (b:af ab):kq th (.call ⟨.builtin .len,a,b⟩)=true:=id rfl
@[simp] theorem adH (a:af ah) (b:af ab):kq th (.call ⟨.builtin .min,a,b⟩)=true:=id rfl
@[simp] theorem Z5 (a:ab):kq th (.alloc a)=false:=id rfl
@[simp] theorem ZZ (a:ab) (b c:ah):kq th (.store a b c)=false:=id rfl
@[simp] theorem Z3 (b:ab) (a:af (Nat×ah)):kq th (.build b a)=false:=id rfl
@[simp] theorem Rh (c:ab) (a:Nat) (b:af (Nat×ah)):kq th (.buildSlice c a b)=false:=id rfl
end
def Kp(th:aj->aa kU)(h:H)(e:aa lH):Prop:=∀a,e=some a->(∀d b,a= .val d b->b=h)/\∀f c,a= .call f c->th f=none
section
variable {th:aj->aa kU}{h:H}
def Kp.val(c:aa T):Kp th h (val h c):=by
 intro d a;obtain⟨e,_,a⟩:=dL.1 a;simp only[ar]at a;subst a;exact⟨λ_ _ b=>by simp at b;exact b.2.symm,λ_ _ b=>by simp at b⟩
def Kp.one(a:T):Kp th h (some (.val a h)):=Kp.val (some a)
def Kp.none:Kp th h none:=by intro b a;simp at a
def Kp.dV{α:Type}{e:aa α}{f:α->aa lH}(d:∀a,Kp th h (f a)):Kp th h (dV e f):=by
 intro c b;obtain⟨a,_,b⟩:=dL.1 b;exact d a c b
def Kp.gh{b:Bool}{a:aa lH}(e:Kp th h a):Kp th h (gh b a):=by
 intro c d;exact e c (dT.1 d).2
def Vz{o:Op}(d:kq th o=true)(cx:Ctx)(mask:Nat)(t:Env):Kp th h (jn o cx mask t h):=by
 cases o<;>first|(simp[kq]at d;done)|skip
 case move x=>exact Kp.val _
 case assign x=>exact Kp.val _
 case pick m k l=>
  rw[R9];unfold mU;refine Kp.dV λa=> ?_;cases a<;>first|exact Kp.none|(rename_i b;cases b<;>exact Kp.val _)
 case load b k=>exact Kp.dV λ_=>Kp.dV λ_=>Kp.val _
 case nilCheck x=>exact Kp.dV λa=>by cases a<;>first|exact Kp.none|exact Kp.one _
 case unOp j b x=>exact Kp.dV λ_=>Kp.val _
 case binOp j b x q F=>
  cases j<;>first
   |exact Kp.dV λ_=>Kp.dV λ_=>Kp.val _
   |exact Kp.dV λ_=>Kp.dV λ_=>Kp.dV λ_=>Kp.gh (Kp.dV λ_=>Kp.val _)
 case fieldAddr b x f=>
  exact Kp.dV λv=>Kp.dV λa=>by
   cases a<;>first|exact Kp.none|exact Kp.dV λ_=>Kp.one _
 case field b x f=>
  exact Kp.dV λv=>Kp.dV λ_=>Kp.dV λa=>by
   cases a<;>first|exact Kp.none|exact Kp.dV λ_=>Kp.val _
 case indexAddr b x g=>
  exact Kp.dV λe=>Kp.dV λa=>Kp.dV λ_=>Kp.dV λg=>by
   cases e.u<;>first|exact Kp.none|(refine Kp.dV λy=> ?_;first
    |(cases a<;>first|exact Kp.none|exact Kp.dV λ_=>Kp.gh (Kp.one _)|exact Kp.gh (Kp.dV λ_=>Kp.gh (Kp.gh (Kp.dV λ_=>Kp.one _))))
    |(refine Kp.gh ?_;cases a<;>first|exact Kp.none|exact Kp.dV λ_=>Kp.one _|(refine Kp.dV λr=> ?_;cases Nat.beq r.sz y.size<;>first|exact Kp.dV λ_=>Kp.one _|exact Kp.gh (Kp.dV λ_=>Kp.one _))))
 case index b x g=>
  exact Kp.dV λe=>Kp.dV λa=>Kp.dV λ_=>Kp.dV λg=>by
   cases e.u<;>first|exact Kp.none|(cases a<;>first|exact Kp.none|exact Kp.dV λ_=>Kp.val _|exact Kp.dV λ_=>Kp.gh (Kp.dV λ_=>Kp.val _))
 case extract x g=>exact Kp.dV λa=>by cases a<;>first|exact Kp.none|exact Kp.val _
 case slice b x k l m=>exact Kp.dV λ_=>Kp.dV λ_=>Kp.gh (Kp.dV λ_=>Kp.dV λ_=>Kp.dV λ_=>Kp.gh (Kp.val _))
 rename_i m;obtain⟨s,z,E⟩:=m;cases s with
 |builtin l=>
  refine Kp.dV λn=> ?_;cases l<;>first
   |(simp[kq]at d;done)
   |(match n with
    | []=>exact Kp.none
    | [x]=>first|exact Kp.none|(refine Kp.dV λb=>Kp.dV λe=> ?_;cases e.u<;>first|exact Kp.none|exact Kp.val _|(cases x<;>first|exact Kp.none|exact Kp.val _))
    | [x,q]=>first|exact Kp.val _|exact Kp.none
    |x::q::G::n=>exact Kp.none)
 |value j=>
  cases j with
  |func f=>
   have w:(th f).isNone=true:=d;refine Kp.dV λn=> ?_;intro B c;obtain⟨a,p,c⟩:=dL.1 c;simp only[Mc,ar]at p;subst p;obtain⟨D,_,c⟩:=dL.1 c;simp only[ar]at c;subst c;exact⟨λ_ _ i=>by simp at i,λC k i=>by simp at i;rw[<-i.1];simpa using w⟩
  |_=>simp[kq]at d
 |_=>simp[kq]at d
end
section
variable {P:ai}{cx:Ctx}{tb:fN}{mask:Nat}
def PN{j:Op}(o:kq tb.h j=true){e:Env}{h:H}{k:T}{c:H}(a:fin (qW P cx tb) h (jn j cx mask e h)=some (k,c)):c=h:=by
 obtain⟨d,m,a⟩:=dL.1 a;obtain⟨p,q⟩:=Vz o cx mask e d m;rcases d with⟨t,r⟩|⟨f,b⟩
 ·simp only[ar,az]at a;rw[<-a.2];exact p _ _ rfl
 ·have n:=q _ _ rfl;have a:qW P cx tb f b h=some (k,c):=a;have g:hl P cx tb f b h=none:=by unfold hl;rw[n]
  rw[Qk]at a;cases i:QI h b with
  |none=>rw[i,Qi,g]at a;simp at a
  |some l=>
   rw[i,Qh,g]at a;cases hr:rl P cx tb f l with
   |none=>rw[hr]at a;simp at a
   |some s=>
    rw[hr,Qj]at a;split at a
    ·simp only[ar,az]at a;exact a.2.symm
    ·simp at a
def Dg(j:af Oper)(l:List (Nat×Nat))(Q:fX->H->Prop):∀(i:List Oper) (g:Nat) (n:List (Nat×Nat)) (e:List (Nat×H×H)) (b a:fX) (h:H),(i.all λo=>kq tb.h o.op)=true->(∀k∈e,k.2.1=k.2.2)->
 Kn cx (qW P cx tb) mask j l i g n e b a h Q=WR cx (qW P cx tb) mask j i b a h Q
 | [],g,n,e,b,a,h,_,_=>by rw[LD,Q0]
 |o::i,g,n,e,b,a,h,hp,q=>by
  simp only[cJ,ay]at hp;rw[Iy,Gy];unfold yj;cases kv j mask ⟨b,a⟩ o.guard with
  |none=>apply propext;constructor<;>(first|exact False.elim|(rintro⟨d,c,G,_⟩;simp[dV]at G))
  |some J=>
   rw[dY];cases J with
   |false=>
    rw[Iz,zd];congr 1;funext b a;exact Dg j l Q i _ n e b a h hp.2 q
   |true=>
    rw[LE];apply propext;have y:∀d c,fin (qW P cx tb) h (jn o.op cx mask ⟨b,a⟩ h)=some (d,c)->
     ((DK cx mask l g n e o.op ⟨b,a⟩ h c λn e=>WD mask o.dst d b a λb a=>Kn cx (qW P cx tb) mask j l i (g+1) n e b a c Q)↔WD mask o.dst d b a λb a=>WR cx (qW P cx tb) mask j i b a c Q):=by
     intro d c C;have D:=PN hp.1 C;subst D;have E:∀p,mD l g p e:=λp k hp _=>by rw[q k hp];exact E5 p
     have F:∀u v d,o.op≠ .store u v d:=λu v d m=>by have:=hp.1;rw[m]at this;simp[kq]at this
     have x:∀t r,(∀k∈r,k.2.1=k.2.2)->((WD mask o.dst d b a λb a=>Kn cx (qW P cx tb) mask j l i (g+1) t r b a c Q)↔WD mask o.dst d b a λb a=>WR cx (qW P cx tb) mask j i b a c Q):=by
      intro t r z;rw[show(λb a=>Kn cx (qW P cx tb) mask j l i (g+1) t r b a c Q)=λb a=>WR cx (qW P cx tb) mask j i b a c Q from by funext b a;exact Dg j l Q i _ t r b a c hp.2 z]
     unfold DK;split
     ·rw[JW];show(True/\_)/\(WD mask o.dst d b a λb a=>Kn cx (qW P cx tb) mask j l i (g+1) n (if lA l g=true then(g,c,c)::e else e) b a c Q)↔_;have B:∀k∈(if lA l g=true then(g,c,c)::e else e),k.2.1=k.2.2:=by
       split
       ·intro k hp;rcases List.mem_cons.1 hp with rfl|hp
        ·rfl
        ·exact q k hp
       ·exact q
      rw[x _ _ B];exact⟨λm=>m.2,λm=>⟨⟨trivial,λu v d p I=>absurd I (F u v d)⟩,m⟩⟩
     ·cases gG cx mask ⟨b,a⟩ c o.op with
      |none=>exact x _ _ q
      |some p=>simp only;rw[x _ _ q];exact⟨λm=>m.2,λm=>⟨E p,m⟩⟩
    show(∃d c,_/\_)↔∃d c,_/\_;constructor
    ·rintro⟨d,c,s,w⟩;exact⟨d,c,s,(y d c s).1 w⟩
    ·rintro⟨d,c,s,w⟩;exact⟨d,c,s,(y d c s).2 w⟩
@[simp high] theorem ada (a:List Oper) (d:List (Nat×Nat)) (b:fX) (h:H) (c:iO) (e:(a.all λi=>kq tb.h i.op)=true):QK cx (qW P cx tb) mask a (some d) b h c=RK cx (qW P cx tb) mask a.toArray a b .nil h c:=
 Dg a.toArray d (λb h=>c.n ⟨b,.nil⟩ h) a 0 [] [] b .nil h e (λj g=>by simp at g)
end
def EL(b:T):Prop:=∃a,b= .int .i64 a
@[simp] theorem ack (a:Int):EL (.int .i64 a)=True:=by simp[EL]
section
variable {P:ai}{cx:Ctx}{f:aj}{α:Type}{A:α->List T}{pre:α->Prop}{Q:α->T->Prop}
noncomputable abbrev nK.jx(_:nK P cx f A pre Q):iq:=wR P cx f A pre Q
def nK.use(c:nK P cx f A pre Q)(a:α)(b:pre a):∃d,Q a d/\∀{tb:fN},tb.p f=some (wR P cx f A pre Q)->rl P cx tb f (A a)=some d:=⟨_,c.2 a b,λht=>iv ht c.1 a b⟩
end
section
variable {P:ai}{cx:Ctx}{f:aj}{α γ:Type}{A:α->List T}{pre:α->Prop}
def nK.fnI(d:nK P cx f A pre (λ_=>EL))(b:γ->α)(c:∀a,pre (b a)):∃e:γ->Int,∀{tb:fN},tb.p f=some (wR P cx f A pre (λ_=>EL))->∀a,rl P cx tb f (A (b a))=some (.int .i64 (e a)):=by
 refine⟨λa=>(d.2 (b a) (c a)).choose,λht a=> ?_⟩;exact(iv ht d.1 (b a) (c a)).trans (bP some (d.2 (b a) (c a)).choose_spec)
end
@[simp] theorem afp (a:iY):ij 1 (hE.cons a)=True:=by simp;exact⟨dC,dC,dC⟩
@[simp] theorem afo (a b:iY):ij 2 ((hE.cons a).cons b)=True:=by simp;exact⟨dC,dC,dC⟩
@[simp] theorem afn (b c d a:iY):ij 4 ((((hE.cons b).cons c).cons d).cons a)=True:=by simp;exact⟨dC,dC,dC⟩
def oh(a:ak)(b c:Int):binop .add (.int a b) (.int a c)=some (.int a (a.wrap (b+c))):=by
 show gh (Dk a a) (pU a (b+c))=_;simp
def uv(a:ak)(b c:Int):binop .sub (.int a b) (.int a c)=some (.int a (a.wrap (b-c))):=by
 show gh (Dk a a) (pU a (b-c))=_;simp
def aaz(a:ak)(b c:Int):binop .mul (.int a b) (.int a c)=some (.int a (a.wrap (b*c))):=by
 show gh (Dk a a) (pU a (b*c))=_;simp
def HP(c:T):Prop:=∃a b,c= .tuple [.int .i64 a,.int .i64 b]
@[simp] theorem acm (a b:Int):HP (.tuple [.int .i64 a,.int .i64 b])=True:=by simp[HP]
end
noncomputable section
section
variable {cx:Ctx}{mask:Nat}{e:Env}
@[simp] theorem VM (a:ak) (b:Int):oa (.int a b)=some (.int a b):=id rfl
@[simp] theorem Ut:oa (.slice none 0 0)=some (.dN [] false):=id rfl
@[simp] theorem VL (a:ByteArray):oa (.string a)=some (.str (a.data.toList.map UInt8.toNat)):=Ox (cx:=⟨λ_=>none,λ_=>none,λ_=>none⟩) (mask:=0) (e:=⟨.nil,.nil⟩) a
@[simp] theorem aab (a:List am):fR cx mask e (.const (.agg a.toArray))=dV (fP oa a) λb=>some (.agg b):=id rfl
end
@[simp] theorem QG (a:List T):dU (sl a)=none:=by cases a<;>rfl
@[simp] theorem oT1 (a:T):jM [a]=a:=id rfl
@[simp] theorem oT2 (a b:T) (c:List T):jM (a::b::c)= .tuple (a::b::c):=id rfl
@[simp] theorem oT0:jM []= .tuple []:=id rfl
@[simp] theorem aen (a:H):(hr a).low=a.size:=id rfl
@[simp] theorem Vk (a:H) (d f:iY) (b:Nat) (c:¬b=a.size):ff (a.cons d) (a.cons f) b=true:=by
 unfold ff;rw[dW,dW,ao c,ao c];cases a.get b<;>simp
def fk{h h':H}{b:Nat}(a:h'.get b=h.get b):ff h h' b=true:=by
 unfold ff;rw[a];cases h.get b<;>simp
def Fp(d:H)(b a:Nat):Prop:=a=b\/∃c,d.get b=some c/\∃f∈fx c.eZ,dU f=some a
structure Step(w:Nat)(h h':H):Prop where
 ok:ij h.size h'
 get:∀b,b<h.size->¬Fp h w b->h'.get b=h.get b
 fp:∀b,Fp h' w b->Fp h w b\/h.size<=b
def iV{c d:H}{a:Nat}(f:d.get a=c.get a)(b:Nat):Fp d a b=Fp c a b:=by unfold Fp;rw[f]
def Step.refl{d:Nat}{a:H}(b:ij 0 a):Step d a a:=⟨⟨b.hp,b.low,au _⟩,λ_ _ _=>rfl,λ_ c=> .inl c⟩
def Step.trans{g:Nat}{h d i:H}(a:Step g h d)(c:Step g d i):Step g h i:=by
 refine⟨⟨c.ok.hp,c.ok.low,aS a.ok.sz c.ok.sz⟩,λb f j=> ?_,λb f=> ?_⟩
 ·have d:=a.get b f j;have:=a.ok.sz;rw[c.get b dB (λk=>(a.fp b k).elim j λk=>absurd k dB),d]
 ·rcases c.fp b f with k|k
  ·exact a.fp b k
  ·exact .inr (aS a.ok.sz k)
structure Lb(w:Nat)(h:H)(b:Nat)(x:iY):Prop where
 get:h.get b=some x
 nf:¬Fp h w b
def Lb.lt{d:Nat}{b:H}{a:Nat}{f:iY}(c:Lb d b a f):a<b.size:=H.eJ c.get
def Lb.ne{a:Nat}{c:H}{b:Nat}{g:iY}(f:Lb a c b g):b≠a:=λd=>f.nf (.inl d)
def Lb.step{d:Nat}{f g:H}{b:Nat}{i:iY}(a:Lb d f b i)(h:Step d f g):Lb d g b i:=
 ⟨by rw[h.get b a.lt a.nf];exact a.get,λc=>(h.fp b c).elim a.nf λc=>absurd c (by have:=a.lt;omega)⟩
def Step.cons{w:Nat}{a:H}(d:ij 0 a)(i:w<a.size)(b:iY):Step w a (a.cons b):=by
 have g:(a.cons b).get w=a.get w:=by rw[dW,ao dB]
 exact⟨⟨(d.cons b).hp,(d.cons b).low,dC⟩,λf h _=>by rw[dW,ao dB],λf c=>by rw[iV g]at c;exact .inl c⟩
def Lb.new{a:Nat}{h:H}(j:a<h.size)(g:∀b,Fp h a b->b<h.size)(c:iY):Lb a (h.cons c) h.size c:=by
 have i:(h.cons c).get a=h.get a:=by rw[dW,ao dB]
 exact⟨dC,λd=>by rw[iV i]at d;have:=g _ d;omega⟩
def Step.sk{c:Nat}{b:H}(k:ij 0 b){a:Nat}{o:iY}(h:Lb c b a o)(d:iY)(g:H)(i:Step c g b)(p:g.size<=a):Step c g (d8 b a d):=by
 have m:(d8 b a d).get c=b.get c:=by rw[dQ h.get,ao (bm h.ne)]
 refine⟨⟨(k.put a d).hp,(k.put a d).low,by rw[fV];exact i.ok.sz⟩,λf l n=> ?_,λf j=> ?_⟩
 ·rw[dQ h.get,ao dB];exact i.get f l n
 ·rw[iV m]at j;exact i.fp f j
def Step.put{b:Nat}{a:H}(k:ij 0 a){x:iY}(j:a.get b=some x)(d:iY)(p:∀i∈fx d.eZ,∀f,dU i=some f->Fp a b f\/a.size<=f):Step b a (d8 a b d):=by
 refine⟨⟨(k.put b d).hp,(k.put b d).low,by rw[fV];exact au _⟩,λc q m=> ?_,λc h=> ?_⟩
 ·rw[dQ j,ao (λh=>m (.inl h))]
 ·rcases h with rfl|⟨r,g,i,o,l⟩
  ·exact .inl (.inl rfl)
  ·rw[dQ j,aq rfl]at g;simp only[ar]at g;subst g;exact p i o c l
def Step.ZY{c:Nat}{b:H}(h:ij 0 b){a:Nat}{n:iY}(g:b.get a=some n)(j:Fp b c a)(l:a≠c)(f:iY):Step c b (d8 b a f):=by
 have m:(d8 b a f).get c=b.get c:=by rw[dQ g,ao (bm l)]
 refine⟨⟨(h.put a f).hp,(h.put a f).low,by rw[fV];exact au _⟩,λi o k=> ?_,λi d=> ?_⟩
 ·rw[dQ g,ao (λd=>k (by rw[d];exact j))]
 ·rw[iV m]at d;exact .inl d
def Step.KI{f:Nat}{g c:H}(d:Step f g c){b:H}(h:∀a,b.get a=c.get a)(m:b.size=c.size)(j:ij 0 b):Step f g b:=
 ⟨⟨j.hp,j.low,by rw[m];exact d.ok.sz⟩,λa k l=>by rw[h];exact d.get a k l,λa i=>by rw[iV (h f)]at i;exact d.fp a i⟩
def UW(b:H)(c a:Nat):Fp (hr b) c a=Fp b c a:=iV (gF b c) a
def Step.hr{f:Nat}{c d:H}(a:Step f (hr c) d):Step f c d:=
 ⟨⟨a.ok.hp,a.ok.low,a.ok.sz⟩,λb g h=>by rw[a.get b g (by rw[UW];exact h),gF],λb i=>by have:=a.fp b i;rw[UW]at this;exact this⟩
def ij.hr{b:Nat}{a:H}(c:ij b a):ij b (hr a):=⟨by rw[aa0];exact c.hp,au _,c.sz⟩
def Gr(h:H)(d:T)(i:Nat)(a:List T):Prop:=
 (d= .dN [] false/\a=[])\/∃b c j g f,d= .arr b c 0 a.length false/\h.get b=some ⟨i,c,j,g,false,f⟩/\f.take a.length=a
def Gr.nil(a:H)(b:Nat):Gr a (.dN [] false) b []:= .inl ⟨rfl,rfl⟩
def Gr.im{d:H}{a:T}{f:Nat}{b:List T}(c:Gr d a f b):a.im=true:=by
 rcases c with⟨rfl,_⟩|⟨g,h,j,i,k,rfl,_⟩<;>rfl
def Gr.cells{d:H}{a:T}{f:Nat}{b:List T}(c:Gr d a f b):a.cells=[a]:=by
 rcases c with⟨rfl,_⟩|⟨g,h,j,i,k,rfl,_⟩<;>rfl
def Gr.mono{d h':H}{b:T}{f:Nat}{c:List T}(i:Gr d b f c)(l:∀a,dU b=some a->h'.get a=d.get a):Gr h' b f c:=by
 rcases i with⟨rfl,rfl⟩|⟨a,g,m,h,n,rfl,j,k⟩
 ·exact .inl ⟨rfl,rfl⟩
 ·exact .inr ⟨a,g,m,h,n,rfl,by rw[l a rfl];exact j,k⟩
def Gr.box{j:H}{f:T}{k:Nat}{i:List T}(l:Gr j f k i){b:Nat}(d:dU f=some b):∃a g c h,j.get b=some ⟨k,a,g,c,false,h⟩/\f= .arr b a 0 i.length false:=by
 rcases l with⟨rfl,_⟩|⟨n,a,g,c,h,rfl,m,o⟩
 ·simp at d
 ·simp only[wN,ar]at d;subst d;exact⟨a,g,c,h,m,rfl⟩
def Gr.ne{c:H}{g h:T}{d f:Nat}{i A4:List T}(j:Gr c g d i)(k:Gr c h f A4)(m:d≠f):∀b,dU g=some b->dU h≠some b:=λb l n=>by
 obtain⟨_,_,_,_,o,_⟩:=j.box l;obtain⟨_,_,_,_,a,_⟩:=k.box n;rw[o]at a;simp at a;exact m a.1
def Gr.ji{b:H}{d:T}{h:Nat}{a:List T}(f:Gr b d h a):b.ji d=some a:=by
 rcases f with⟨rfl,rfl⟩|⟨j,k,m,l,i,rfl,g,c⟩
 ·rfl
 ·have hl:a.length<=i.length:=by have:=bP List.length c;rw[List.length_take]at this;omega
  rw[gH,g];simp[hl,c]
def Gr.len{cx:Ctx}{h:H}{f:T}{i:Nat}{a:List T}(g:Gr h f i a)(b:H)(d:Ty)(j:ab)(c:d.u= .slice j):DA cx b d f=some (.val (.int .i64 a.length) b):=by
 rcases g with⟨rfl,rfl⟩|⟨k,l,p,m,q,rfl,n,o⟩
 ·exact EI _ _ _ _ c
 ·rw[PB _ _ _ _ _ _ _ c]
def Gr.JG{f:H}{k:T}{j:Nat}{b:List T}(o:Gr f k j b){te:Ty}(q:te.size=j){i:Nat}(g:i<b.length):∃a d l h c,dU k=some a/\kH f te k i=some (.val (.ptr a d i 0) f)/\f.get a=some ⟨j,d,l,h,false,c⟩/\c[i]? =some b[i]:=by
 rcases o with⟨rfl,rfl⟩|⟨a,d,l,h,c,rfl,m,p⟩
 ·simp at g
 ·refine⟨a,d,l,h,c,rfl,?_,m,?_⟩
  ·rw[PI,m];simp[g,q]
  ·have n:(c.take b.length)[i]? =b[i]? :=by rw[p]
   rw[bM,aq g,aB g]at n;exact n
def Gr.rn{a:H}{d:T}{l:Nat}{h:Type}{f:h->T}{b:List h}(c:Gr a d l (b.map f))(j:∀g,xh a 11 (f g)=some (f g)):TI.rn a d=some (sl (b.map f)):=by
 have k:=c.ji;rcases c with⟨rfl,i⟩|⟨m,n,r,o,s,rfl,p,q⟩
 ·rw[i];rfl
 ·rw[F2,vZ,k,dY,Ci _ _ _ j];rfl
def Gr.cut{cx:Ctx}{b:H}{i:T}{h:Nat}{a:List T}(m:Gr b i h a){ty te:Ty}{f:ab}(r:ty.u= .slice f)(ht:cx.ty f=some te)(q:te.size=h){n:Nat}(c:n<=a.length)(p:0<a.length):
 ∃j,KG cx b ty i none (some n) none=some (.val j b)/\Gr b j h (a.take n)/\dU j=dU i:=by
 rcases m with⟨rfl,rfl⟩|⟨d,g,s,l,t,rfl,k,o⟩
 ·simp at p
 ·refine⟨.arr d g 0 n false,KF ty te f d g 0 a.length n false _ r ht k (by simp[q]) c,.inr ⟨d,g,s,l,t,by rw[List.length_take,cE c],k,?_⟩,rfl⟩;rw[List.length_take,cE c,<-o,List.take_take,cE c]
def Bb(c:H)(h:T)(j:Nat)(g:List T)(k:T)(d:H):Prop:=∃a f l i,k= .arr a f 0 g.length false/\d.get a=some ⟨j,f,l,i,false,g⟩/\
 (dU h=some a\/(dU h=none/\a=c.size))/\(∀b,b≠a->b<c.size->d.get b=c.get b)/\ij c.size d
def Bb.gr{j:H}{l:T}{c:Nat}{a:List T}{d:T}{b:H}(f:Bb j l c a d b):Gr b d c a:=by
 obtain⟨g,h,m,i,rfl,k,_⟩:=f;exact .inr ⟨g,h,m,i,a,rfl,k,aL⟩
def Bb.set{i:H}{n:T}{d b c h:Nat}{f:Bool}{a:List T}{g:H}(p:Bb i n d a (.arr b c 0 a.length false) g)(l:g.get b=some ⟨d,c,h,f,false,a⟩)(m:Nat)(o:T):
 Bb i n d (a.set m o) (.arr b c 0 a.length false) (d8 g b ⟨d,c,h+1,f,false,a.set m o⟩):=by
 obtain⟨u,v,y,w,j,x,r,s,t⟩:=p;simp only[T.arr.injEq,and_true]at j;obtain⟨rfl,rfl⟩:=j;exact⟨b,c,h+1,f,by rw[cS],by rw[dQ l,aq rfl],r,λq k hl=>by rw[dQ l,ao k];exact s q k hl,t.put _ _⟩
def Gr.app{cx:Ctx}{a:H}{j:T}{f:Nat}{d:List T}(E:Gr a j f d)(l:ij 0 a){r s m:ab}{A B g:Ty}(F:cx.ty r=some A)(G:A.u= .slice m)(I:cx.ty m=some g)(J:cx.ty s=some B)(K:B.u= .slice m)(y:g.size=f)(w:1<=g.bytes)
 {x:T} {xs:List T} (N:a.ji x=some xs) (q:∀e∈xs,e.cells.length=f) (M:xs≠ []) (p:(d.length+xs.length)*g.bytes<=70368744177664):
 ∃C v,iM cx a r s j x=some (.val C v)/\Bb a j f (d++xs) C v:=by
 have L:iM cx a r s j x=jz (a.append g.size g.bytes j xs):=by
  unfold iM oP mh;rw[F,dY,J,dY];simp only[G,I,K,N,dY];rw[y,mp q,ir]
 rw[L,y];obtain⟨b,c,rfl⟩:∃b c,xs=b::c:=by cases xs with|nil=>exact absurd rfl M|cons b c=>exact⟨b,c,rfl⟩
 rcases E with⟨rfl,rfl⟩|⟨h,i,t,Q,O,rfl,k,z⟩
 ·refine⟨_,a.cons ⟨f,0,0,false,false,b::c⟩,?_,a.size,0,0,false,rfl,dC,.inr ⟨rfl,rfl⟩,λD o _=>by rw[dW,ao o],(l.cons _).hp,(l.cons _).low,dC⟩;show jz (a.jb f g.bytes [] (b::c))=_;rw[oU q w (by simpa using p)];rfl
 ·refine⟨.arr h (i+1) 0 (d++b::c).length false,d8 a h ⟨f,i+1,t+1,false,false,d++b::c⟩,?_,h,i+1,t+1,false,rfl,by rw[dQ k,aq rfl],.inl rfl,λD o _=>by rw[dQ k,ao o],(l.put _ _).hp,(l.put _ _).low,by rw[fV];exact au _⟩;show jz (a.mt f g.bytes h i d.length (b::c))=_;have hl:d.length<=O.length:=by have:=bP List.length z;rw[List.length_take]at this;omega
  have:a.mt f g.bytes h i d.length (b::c)=some (.arr h (i+1) 0 (d++b::c).length false,d8 a h ⟨f,i+1,t+1,false,false,d++b::c⟩):=by
   unfold H.mt;rw[k];simp only[dY,nO,hl,bg,z,pO,jH,iE,mp q,yr k];simp at p;simp[w,p,aU]
  rw[this];rfl
def Xt(b:H)(d:T)(h:Nat)(g:List T)(f:T)(c:H):Prop:=Gr c f h g/\(∀a,a<b.size->dU d≠some a->c.get a=b.get a)/\(∀a,dU f=some a->dU d=some a\/b.size<=a)/\ij b.size c
def Bb.xt{g:H}{k:T}{j:Nat}{f:List T}{l:T}{h:H}(d:Bb g k j f l h):Xt g k j f l h:=by
 have n:=d.gr;obtain⟨m,r,u,e,rfl,s,a,o,p⟩:=d;refine⟨n,λc b q=> ?_,λc b=> ?_,p⟩
 ·by_cases i:c=m
  ·subst i;rcases a with a|⟨_,a⟩
   ·exact absurd a q
   ·omega
  ·exact o c i b
 ·simp only[wN,ar]at b;subst b;exact a.imp id λt=>by omega
def Xt.refl{a:H}{b:T}{f:Nat}{c:List T}(g:Gr a b f c)(d:ij 0 a):Xt a b f c b a:=⟨g,λ_ _ _=>rfl,λ_ h=> .inl h,d.hp,d.low,au _⟩
def Xt.trans{f g h:H}{j l m:T}{d:Nat}{s A4:List T}(n:Xt f j d s l g)(o:Xt g l d A4 m h):Xt f j d A4 m h:=by
 obtain⟨_,a2,a3,a4⟩:=n;obtain⟨p,q,r,b⟩:=o;have:=a4.sz;refine⟨p,λa c i=> ?_,λa c=> ?_,b.hp,b.low,aS a4.sz b.sz⟩
 ·rw[q a dB (λk=>(a3 a k).elim i (λt=>by omega)),a2 a c i]
 ·rcases r a c with k|k
  ·exact a3 a k
  ·exact .inr dB 
def Xt.cons{c d:H}{g h:T}{f:Nat}{b:List T}(i:Xt c g f b h d)(a:iY):Xt c g f b h (d.cons a):=by
 obtain⟨a1,a2,a3,a4⟩:=i;have:=a4.sz;refine⟨a1.mono λo k=> ?_,λj l m=> ?_,a3,(a4.cons a).hp,(a4.cons a).low,(a4.cons a).sz⟩
 ·obtain⟨_,_,_,_,n,_⟩:=a1.box k;have:=H.eJ n;rw[dW,ao dB]
 ·rw[dW,ao dB];exact a2 j l m
def wB{b:Nat}{d f:H}{l s:T}{y w F i:Nat}{C:Bool}{G:List T}{o:List T}(bi:ij 0 d)(X:∀a,Fp d b a->a<d.size)(p:d.get b=some ⟨w,0,F,C,false,[.agg o]⟩)(ap:o[i]? =some l)(an:y≠w)
 {W:List T} (ae:Gr d l y W) (Z:Xt d l y G s f):f.get b=d.get b/\∀h,h=(⟨w,0,F+1,C,false,[.agg (o.set i s)]⟩:iY)->
  Step b d (d8 f b h)/\(∀a,Fp (d8 f b h) b a->a<(d8 f b h).size)/\Gr (d8 f b h) s y G/\
   ∀t A A4,t∈o->Gr d t A A4->(∀a,dU l=some a->dU t≠some a)->A≠w->Gr (d8 f b h) t A A4/\∀a,dU s=some a->dU t≠some a:=by
 have aA:=H.eJ p;have R:l∈o:=ax ap;obtain⟨J,E,U,Y⟩:=Z;have M:∀a,dU l=some a->a≠b:=λa c k=>by
  subst k;obtain⟨_,_,_,_,q,_⟩:=ae.box c;rw[p]at q;simp at q;exact an q.1.symm
 have a7:Step b d f/\f.get b=d.get b/\(∀a,dU s=some a->a≠b/\(dU l=some a\/d.size<=a))/\(∀a,a≠b->dU l≠some a->a<d.size->f.get a=d.get a):=by
  have S:f.get b=d.get b:=E b aA λq=>M b q rfl;refine⟨⟨Y,λn m x=>E n m λq=>x (.inr ⟨_,p,l,by simpa[fx,T.cells]using R,q⟩),λn m=>by rw[iV S]at m;exact .inl m⟩,S,λn m=>⟨?_,U n m⟩,λn _ m hl=>E n hl m⟩;rcases U n m with q|q
  ·exact M n q
  ·omega
 obtain⟨v,I,B,aN⟩:=a7;refine⟨I,λh aE=> ?_⟩;have u:f.get b=some ⟨w,0,F,C,false,[.agg o]⟩:=I.trans p;have Q:(d8 f b h).get b=some h:=by rw[dQ u,aq rfl]
 have L:∀g∈fx h.eZ,g∈o\/g=s:=by
  intro g j;subst aE;simp only[fx,bA,cA,bL,T.cells]at j;exact bZ j
 have O:∀g∈o,∀a,dU g=some a->Fp d b a:=λg j a c=> .inr ⟨_,p,g,by simpa[fx,T.cells]using j,c⟩;have a6:Step b d (d8 f b h):=by
  have V:ij 0 f:=⟨v.ok.hp,v.ok.low,aw _⟩;refine⟨⟨(V.put b h).hp,(V.put b h).low,by rw[fV];exact v.ok.sz⟩,λa c x=> ?_,λa c=> ?_⟩
  ·rw[dQ u,ao (λk=>x (.inl k))];exact v.get a c x
  ·rcases c with rfl|⟨z,r,g,j,c⟩
   ·exact .inl (.inl rfl)
   ·rw[Q]at r;simp only[ar]at r;subst r;rcases L g j with j|rfl
    ·exact .inl (O g j a c)
    ·rcases(B a c).2 with q|q
     ·exact .inl (O l R a q)
     ·exact .inr dB
 have av:∀a,dU s=some a->a<f.size:=λa c=>by obtain⟨_,_,_,_,q,_⟩:=J.box c;exact H.eJ q
 refine⟨a6,λa c=> ?_,?_,λt A A4 a8 D N al=>⟨?_,λa c k=> ?_⟩⟩
 ·rw[fV];rcases c with rfl|⟨z,r,g,j,c⟩
  ·exact H.eJ u
  ·rw[Q]at r;simp only[ar]at r;subst r;rcases L g j with j|rfl
   ·have:=X a (.inr ⟨_,p,g,by simpa[fx,T.cells]using j,c⟩);have:d.size<=f.size:=v.ok.sz;omega
   ·exact av a c
 ·exact J.mono λa c=>by rw[dQ u,ao (B a c).1]
 ·refine D.mono λa c=> ?_;obtain⟨_,_,_,_,q,_⟩:=D.box c;have K:a≠b:=λk=>by subst k;rw[p]at q;simp at q;exact al q.1.symm
  rw[dQ u,ao K];exact aN a K (λk=>N a k c) (H.eJ q)
 ·rcases(B a c).2 with q|q
  ·exact N a q k
  ·obtain⟨_,_,_,_,aX,_⟩:=D.box k;have:=H.eJ aX;omega
section
variable {P:ai}{cx:Ctx}{tb:fN}{mask:Nat}
def abC{f:aj}{a:kU}{d:List T}{g:H}{l:af Oper}{j:aa Tmp}{k:List Oper}{n m:fX}{i:iO}(o:a.Ok P cx f)(ht:tb.h f=some a)(p:a.pre d g)
 (r:∀c b,a.post d g c b->XK (some (c,b)) cx (qW P cx tb) mask l j k n m i):XK (hl P cx tb f d g) cx (qW P cx tb) mask l j k n m i:=by
 obtain⟨c,b,e,q⟩:=EO ht o p;rw[e];exact r c b q
def Xv{g:aj}{b:kU}{f:List T}{a:H}{q:af Oper}{j:List (Nat×Nat)}{k:aa Tmp}{p:Op}{n:List Oper}{m:Nat}{o:List (Nat×Nat)}{l:List (Nat×H×H)}{s r:fX}{i:iO}(t:b.Ok P cx g)(ht:tb.h g=some b)(u:b.pre f a)
 (w:∀d c,b.post f a d c->Rb (some (d,c)) cx (qW P cx tb) mask q j k p n m o l s r a i):Rb (hl P cx tb g f a) cx (qW P cx tb) mask q j k p n m o l s r a i:=by
 obtain⟨d,c,e,v⟩:=EO ht t u;rw[e];exact w d c v
def hlB{c:aj}{d:kU}(m:d.Ok P cx c)(n:∀b a g f,d.post b a g f->f=a/\EM g):∃k:List T->H->Bool,∀{tb:fN},tb.h c=some d->∀b a,d.pre b a->hl P cx tb c b a=some (.bool (k b a),a):=by
 let i:fN:=⟨λ_=>none,λ_=>some d⟩
 refine⟨λb a=>match hl P cx i c b a with|some (.bool j,_)=>j|_=>false,λ{tb} ht b a o=> ?_⟩;have l:hl P cx tb c b a=hl P cx i c b a:=by unfold hl;rw[ht]
 obtain⟨g,f,e,p⟩:=EO (tb:=i) rfl m o;obtain⟨rfl,j,rfl⟩:=n _ _ _ _ p;rw[l];simp only[e]
def hlI{c:aj}{d:kU}(m:d.Ok P cx c)(n:∀b a g f,d.post b a g f->f=a/\EL g):∃k:List T->H->Int,∀{tb:fN},tb.h c=some d->∀b a,d.pre b a->hl P cx tb c b a=some (.int .i64 (k b a),a):=by
 let i:fN:=⟨λ_=>none,λ_=>some d⟩
 refine⟨λb a=>match hl P cx i c b a with|some (.int _ j,_)=>j|_=>0,λ{tb} ht b a o=> ?_⟩;have l:hl P cx tb c b a=hl P cx i c b a:=by unfold hl;rw[ht]
 obtain⟨g,f,e,p⟩:=EO (tb:=i) rfl m o;obtain⟨rfl,j,rfl⟩:=n _ _ _ _ p;rw[l];simp only[e]
end
def lM(b a:H):H:=⟨a.size,if a.low<b.low then a.low else b.low,a.fy⟩
def fQ(c b:H)(a:Nat):(lM c b).get a=b.get a:=H.rm b _ a
@[simp] theorem wz (b a:H):(lM b a).size=a.size:=id rfl
def ij.out{c:Nat}{b:H}(a:ij c b)(h:H):ij c (lM h b):=⟨a.hp,by have:=a.low;unfold lM;simp only;split<;>omega,a.sz⟩
def Step.out{c:Nat}{h a:H}(b:Step c (TI.hr h) a):Step c h (lM h a):=b.hr.KI (fQ h a) rfl ⟨(b.ok.out h).hp,(b.ok.out h).low,aw _⟩
def Gr.out{a:H}{d:T}{c:Nat}{b:List T}(g:Gr a d c b)(h:H):Gr (lM h a) d c b:=g.mono λf _=>fQ h a f
def jF(ι:Type)(pre:ι->List T->H->Prop)(post:ι->List T->H->T->H->Prop):kU:=⟨λa b=>∃c,pre c a b,λa b f d=>∀c,pre c a b->post c a b f d⟩
section
variable {P:ai}{cx:Ctx}{mask:Nat}{ι:Type}{pre:ι->List T->H->Prop}{post:ι->List T->H->T->H->Prop}
def jv{tb:fN}(I:P.follows .mixedOrders=true)(iZ:jd P cx){s:aj}{d:Func}{r:DL}(k:GA P cx s d mask r)(l:List T->H->Nat)(J:∀c p a,pre c p a->p.length<=d.ntmps)
 (O:∀c b a,pre c b a->∀y,nI y 0 b->W (jG cx (qW P cx tb) (l b a) mask r (d.body.getD .skip) ⟨y,.nil⟩ (hr a)) (Cs cx mask d.results.toList λn C=>post c b a (jM n) (lM a C))):(jF ι pre post).Ok P cx s:=by
 intro b a ⟨R,K⟩;have w:∀c,pre c b a->∃i h,sX cx (qW P cx tb) (l b a) d mask true b a=some (i,h)/\post c b a i h:=by
  intro c j;obtain⟨x,N,_,E⟩:=mw mask d.ntmps 0 b (J c b a j);obtain⟨V,e,t,g,Q,n,L,m⟩:=Dd (O c b a j x E);have g:=qk _ k.dr _ _ _ g;obtain⟨A,f⟩:=y8 k.ok;rw[f]at g;refine⟨_,_,?_,m⟩;unfold sX;rw[f];obtain⟨o,v,q⟩:=a;simp only;rw[N,dY];have g:j8 cx (qW P cx tb) (l b ⟨o,v,q⟩) mask A ⟨x,.nil⟩ ⟨o,o,q⟩=some (V,e,t):=g;rw[g,dY,kP];have M:=oE L;have G:=vU v (jM n) t;rcases Q with rfl|rfl<;>(simp only;rw[M,dY];exact G)
 obtain⟨i,h,u,_⟩:=w R K;refine⟨i,h,λc j=> ?_,λz U X B S D=>pw (F:=⟨d,mask,true,none⟩) I iZ k.at_ k.ok _ (CZ P cx tb) (l b a) b a i h u z U X B S D⟩;obtain⟨Z,Y,f,m⟩:=w c j;rw[u]at f;simp only[ar,az]at f;rw[f.1,f.2];exact m
def iu{tb:fN}{f:aj}{d:List T}{g:H}{m:af Oper}{j:aa Tmp}{l:List Oper}{o n:fX}{i:iO}(p:(jF ι pre post).Ok P cx f)(ht:tb.h f=some (jF ι pre post))(b:ι)(k:pre b d g)
 (r:∀c a,post b d g c a->XK (some (c,a)) cx (qW P cx tb) mask m j l o n i):XK (hl P cx tb f d g) cx (qW P cx tb) mask m j l o n i:=
 abC p ht ⟨b,k⟩ λc a q=>r c a (q b k)
def kZ{tb:fN}{g:aj}{f:List T}{a:H}{r:af Oper}{j:List (Nat×Nat)}{k:aa Tmp}{q:Op}{o:List Oper}{n:Nat}{p:List (Nat×Nat)}{l:List (Nat×H×H)}{t s:fX}{i:iO}(u:(jF ι pre post).Ok P cx g)(ht:tb.h g=some (jF ι pre post))(c:ι)(m:pre c f a)
 (w:∀d b,post c f a d b->Rb (some (d,b)) cx (qW P cx tb) mask r j k q o n p l t s a i):Rb (hl P cx tb g f a) cx (qW P cx tb) mask r j k q o n p l t s a i:=
 Xv u ht ⟨c,m⟩ λd b v=>w d b (v c m)
def wQ(g:ι->Nat){f:aj}(step:∀b,(jF ι (λa d c=>pre a d c/\g a<b) post).Ok P cx f->(jF ι (λa d c=>pre a d c/\g a<b+1) post).Ok P cx f)(b:Nat):(jF ι (λa d c=>pre a d c/\g a<b) post).Ok P cx f:=by
 induction b with
 |zero=>intro j c ⟨a,_,h⟩;exact absurd h (Nat.not_lt_zero _)
 |succ b i=>exact step b i
end
def Bi{f l r:Nat}{o:Bool}{d:H}{m cells':List T}(z:ij 0 d)(u:∀b,Fp d f b->b<d.size)(g:d.get f=some ⟨l,0,r,o,false,[.agg m]⟩)(w:∀a∈cells',a∈m\/dU a=none\/∃q∈m,dU a=dU q):
 ∀h,h=(⟨l,0,r+1,o,false,[.agg cells']⟩:iY)->Step f d (d8 d f h)/\(∀b,Fp (d8 d f h) f b->b<(d8 d f h).size)/\(d8 d f h).get f=some h/\∀a j n,Gr d a j n->j≠l->Gr (d8 d f h) a j n:=by
 rintro h rfl;have t:∀a∈cells',∀b,dU a=some b->Fp d f b:=λa i b c=>by
  rcases w a i with k|k|⟨q,y,k⟩
  ·exact .inr ⟨_,g,a,by simpa[fx,T.cells]using k,c⟩
  ·rw[k]at c;simp at c
  ·exact .inr ⟨_,g,q,by simpa[fx,T.cells]using y,by rw[<-k];exact c⟩
 have A:=Step.put z g ⟨l,0,r+1,o,false,[.agg cells']⟩ (λa i b c=> .inl (t a (by simpa[fx,T.cells]using i) b c));refine⟨A,λb c=> ?_,by rw[dQ g,aq rfl],λa j n s x=>s.mono λb v=> ?_⟩
 ·rw[fV];rcases c with rfl|⟨B,p,a,i,c⟩
  ·exact H.eJ g
  ·rw[dQ g,aq rfl]at p;simp only[ar]at p;subst p;exact u b (t a (by simpa[fx,T.cells]using i) b c)
 ·obtain⟨_,_,_,_,c,_⟩:=s.box v;rw[dQ g,ao (λk=>by subst k;rw[g]at c;simp at c;exact x c.1.symm)]
def Xs(c:H)(d:Nat)(a:T×aa (Nat×List T)):Prop:=match a.2 with
 |none=>dU a.1=none
 |some b=>Gr c a.1 b.1 b.2/\b.1≠d
structure nS(h:H)(w szw ver:Nat)(F:List (T×aa (Nat×List T))):Prop where
 ok:ij 0 h
 get:h.get w=some ⟨szw,0,ver,true,false,[.agg (F.map (·.1))]⟩
 Su:∀f∈F,Xs h szw f
 UH:∀(j k:Nat),j≠k->∀a b,F[j]? =some a->F[k]? =some b->∀c,dU a.1=some c->dU b.1≠some c
def nS.lt{a:H}{b f g:Nat}{c:List (T×aa (Nat×List T))}(d:nS a b f g c):b<a.size:=H.eJ d.get
def nS.fp{b:H}{h m n:Nat}{i:List (T×aa (Nat×List T))}(f:nS b h m n i):∀a,Fp b h a->a<b.size:=by
 rintro a (rfl|⟨p,d,o,g,c⟩)
 ·exact f.lt
 rw[f.get]at d;simp only[ar]at d;subst d;simp only[fx,bA,cA,bL,T.cells]at g;obtain⟨j,k,rfl⟩:=List.mem_map.1 g;have:=f.Su j k;unfold Xs at this;split at this
 ·rw[this]at c;simp at c
 ·obtain⟨_,_,_,_,l,_⟩:=this.1.box c;exact H.eJ l
def nS.gr{c:H}{l j k:Nat}{a:List (T×aa (Nat×List T))}(i:nS c l j k a){f:T}{d:Nat}{b:List T}(h:Nat)(g:a[h]? =some (f,some (d,b))):Gr c f d b:=(i.Su _ (ax g)).1
def nS.Bo{c:H}{d j k:Nat}{a:List (T×aa (Nat×List T))}(i:nS c d j k a){f:T×aa (Nat×List T)}(h:f∈a){b:Nat}(g:dU f.1=some b):Fp c d b:= .inr ⟨_,i.get,f.1,by simp only[fx,bA,cA,bL,T.cells];exact List.mem_map_of_mem h,g⟩
def nS.step{d f:H}{c j k:Nat}{g:List (T×aa (Nat×List T))}(b:nS d c j k g)(n:ij 0 f)(i:∀a,Fp d c a->f.get a=d.get a):nS f c j k g:=by
 refine⟨n,by rw[i c (.inl rfl)];exact b.get,λl h=> ?_,b.UH⟩;have:=b.Su l h;unfold Xs at this|-;split at this
 ·exact this
 ·exact⟨this.1.mono λa m=>i a (b.Bo h m),this.2⟩
def nS.cons{c:H}{w d f:Nat}{b:List (T×aa (Nat×List T))}(a:nS c w d f b)(g:iY):nS (c.cons g) w d f b:=a.step (a.ok.cons g) λh i=>by rw[dW,ao (by have:=a.fp h i;omega)]
def nS.sk{b:H}{c h i:Nat}{d:List (T×aa (Nat×List T))}(f:nS b c h i d){a:Nat}{m:iY}(g:Lb c b a m)(j:iY):nS (d8 b a j) c h i d:=f.step (f.ok.put a j) λn k=>by rw[dQ g.get,ao (λl=>g.nf (by rw[<-l];exact k))]
def nS.ZQ{t i:H}{f j q o:Nat}{k:List (T×aa (Nat×List T))}(v:nS t f j q k)(l:T×aa (Nat×List T)){m:iY}(D:m=⟨j,0,q+1,true,false,[.agg ((k.set o l).map (·.1))]⟩)(B:i.get f=t.get f)(E:ij 0 i)
 (A:Xs (d8 i f m) j l) (n:∀(d:Nat) h,d≠o->k[d]? =some h->Xs (d8 i f m) j h/\(∀g,dU l.1=some g->dU h.1≠some g)):nS (d8 i f m) f j (q+1) (k.set o l):=by
 have C:=B.trans v.get;refine⟨E.put _ _,by rw[dQ C,aq rfl,D],λh z=> ?_,λd w u r s b a g=> ?_⟩
 ·obtain⟨d,c⟩:=cT z;rw[bV]at c;split at c
  ·split at c
   ·simp only[ar]at c;subst c;exact A
   ·simp at c
  ·exact(n d h dB c).1
 ·rw[bV]at b a;split at b
  ·rename_i p;subst p;split at b
   ·simp only[ar]at b;subst b;rw[ao dB]at a;exact(n w s (bm u) a).2 g
   ·simp at b
  ·split at a
   ·split at a
    ·simp only[ar]at a;subst a;rename_i p _;subst p;exact λx y=>(n d r dB b).2 g y x
    ·simp at a
   ·exact v.UH d w u r s b a g
def nS.app{j d:H}{c l m k:Nat}{b:List (T×aa (Nat×List T))}(a:nS j c l m b){s t:T}{G o:List T}(g:Nat)(q:b[g]? =some (s,some (k,G)))(v:Xt j s k o t d):
 d.get c=some ⟨l,0,m,true,false,[.agg (b.map (·.1))]⟩/\ff j d c=true/\∀h,h=(⟨l,0,m+1,true,false,[.agg ((b.set g (t,some (k,o))).map (·.1))]⟩:iY)->Step c j (d8 d c h)/\nS (d8 d c h) c l (m+1) (b.set g (t,some (k,o))):=by
 have p:=a.Su _ (ax q);have L:(b.map (·.1))[g]? =some s:=by rw[aQ,q];rfl
 obtain⟨r,S⟩:=wB a.ok a.fp a.get L p.2 p.1 v;refine⟨r.trans a.get,fk r,λh z=> ?_⟩;obtain⟨U,i,J,Q⟩:=S h (by rw[z,bW]);have R:ij 0 d:=by obtain⟨_,_,_,A⟩:=v;exact⟨A.hp,A.low,aw _⟩
 refine⟨U,a.ZQ _ z r R ⟨J,p.2⟩ λO i N w=> ?_⟩;have y:=ax w;have f:=a.Su i y;have M:i.1∈b.map (·.1):=List.mem_map_of_mem y;obtain⟨u,I⟩:=i;cases I with
 |none=>exact⟨f,λV _ C=>by rw[show dU u=none from f]at C;simp at C⟩
 |some B=>
  obtain⟨E,F⟩:=Q u B.1 B.2 M f.1 (λD K=>a.UH g O (bm N) _ _ q w D K) f.2;exact⟨⟨E,f.2⟩,F⟩
def nS.adv{g:H}{c m n:Nat}{b:List (T×aa (Nat×List T))}(a:nS g c m n b)(j:Nat){v':T}(i:dU v'=none)(x:∃p,b[j]? =some (p,none)):
 ∀d,d=(⟨m,0,n+1,true,false,[.agg ((b.set j (v',none)).map (·.1))]⟩:iY)->Step c g (d8 g c d)/\nS (d8 g c d) c m (n+1) (b.set j (v',none)):=by
 intro d o;obtain⟨u,f,w,t⟩:=Bi a.ok a.fp a.get (cells':=(b.set j (v',none)).map (·.1)) (λp l=>by
  obtain⟨f,k,rfl⟩:=List.mem_map.1 l;rcases bZ k with q|q
  ·exact .inl (List.mem_map_of_mem q)
  ·rw[q];exact .inr (.inl i)) d o
 refine⟨u,a.ZQ _ o rfl a.ok i λz f y k=> ?_⟩;have l:=ax k;have h:=a.Su f l;obtain⟨v,s⟩:=f;cases s with
 |none=>exact⟨h,λr q=>by rw[show dU v'=none from i]at q;simp at q⟩
 |some A=>exact⟨⟨t _ _ _ h.1 h.2,h.2⟩,λr q=>by rw[show dU v'=none from i]at q;simp at q⟩
def nS.elem{q:H}{A K L g m n u:Nat}{o:Bool}{v:List T}{b:List (T×aa (Nat×List T))}(a:nS q A K L b){t:T}{y:List T}(i:Nat)(k:b[i]? =some (t,some (g,y)))(r:dU t=some m)(c:q.get m=some ⟨g,n,u,o,false,v⟩)(j:Nat)(x:T):
 Step A q (d8 q m ⟨g,n,u+1,o,false,v.set j x⟩)/\nS (d8 q m ⟨g,n,u+1,o,false,v.set j x⟩) A K L (b.set i (t,some (g,y.set j x))):=by
 have C:=a.Su _ (ax k);have J:m≠A:=λf=>by subst f;rw[a.get]at c;simp at c;exact C.2 c.1.symm
 have an:=Step.ZY a.ok c (a.Bo (ax k) r) J ⟨g,n,u+1,o,false,v.set j x⟩;have ae:(b.set i (t,some (g,y.set j x))).map (·.1)=b.map (·.1):=by
  rw[bW];simp only;apply c8;intro s;rw[bV];split
  ·rename_i f;subst f;rw[aQ,k];split
   ·rfl
   ·rename_i f;rw[aG]at f;have:=aM (l:=b) (i:=i) dB;rw[k]at this;simp at this
  ·rfl
 refine⟨an,a.ok.put _ _,by rw[dQ c,ao (bm J),ae];exact a.get,λI Z=> ?_,λs l al M B W D=> ?_⟩
 ·obtain⟨s,d⟩:=cT Z;rw[bV]at d;split at d
  ·split at d
   ·simp only[ar]at d;subst d;refine⟨?_,C.2⟩;rcases C.1 with⟨rfl,z⟩|⟨O,ap,aE,av,aN,rfl,z,V⟩
    ·simp at r
    ·simp only[wN,ar]at r;subst r;rw[c]at z;simp only[ar,iY.mk.injEq]at z;obtain⟨_,rfl,rfl,rfl,_,rfl⟩:=z;exact .inr ⟨O,n,u+1,o,v.set j x,by rw[cS],by rw[dQ c,aq rfl],by rw[cS,List.take_set,V]⟩
   ·simp at d
  ·rename_i f;have E:=a.Su I (ax d);obtain⟨aA,U⟩:=I;cases U with
   |none=>exact E
   |some p=>exact⟨E.1.mono λB D=>by rw[dQ c,ao (λe=>by subst e;exact a.UH i s dB _ _ k d B r D)],E.2⟩
 ·have:∀(F:Nat) (w:T×aa (Nat×List T)),(b.set i (t,some (g,y.set j x)))[F]? =some w->∃G,b[F]? =some G/\G.1=w.1:=by
   intro F w h;rw[bV]at h;split at h
   ·rename_i f;subst f;split at h
    ·simp only[ar]at h;subst h;exact⟨_,k,rfl⟩
    ·simp at h
   ·exact⟨w,h,rfl⟩
  obtain⟨N,X,R⟩:=this s M W;obtain⟨Q,Y,S⟩:=this l B D;rw[<-R,<-S];exact a.UH s l al N Q X Y
def Gr.fz{b:H}{f:T}{k:Nat}{h:Type}{a:h->T}{c:List h}(d:Gr b f k (c.map a))(j:∀g,xh b 11 (a g)=some (a g)):TI.fz b f=some (sl (c.map a)):=by
 have:=d.rn j;rcases d with⟨rfl,i⟩|⟨l,m,q,n,r,rfl,o,p⟩
 ·rw[i];rfl
 ·rwa[F2]at this
def Xt.out{h b:H}{d f:T}{c:Nat}{a:List T}(g:Xt (TI.hr h) d c a f b):Xt h d c a f (lM h b):=by
 obtain⟨a1,a2,a3,a4⟩:=g;exact⟨a1.out h,λi j k=>by rw[fQ,a2 i j k,gF],a3,(a4.out h).hp,(a4.out h).low,a4.sz⟩
def Gr.nq{cx:Ctx}{b:H}{j:T}{a:Nat}{k:Type}{f:k->T}{h:List k}(s:Gr b j a (h.map f))(o:ij 0 b){i l:ab}{p d:Ty}(m:cx.ty i=some p)(n:p.u= .slice l)(t:cx.ty l=some d)(z:d.size=a)(v:1<=d.bytes)(w:∀x,Lh (f x)=a)(x:k)(y:(h.length+1)*d.bytes<=70368744177664):
 ∃g c,iM cx (b.cons ⟨a,0,0,true,false,[f x]⟩) i i j (.arr b.size 0 0 1 false)=some (.val g c)/\Xt b j a ((h++[x]).map f) g c:=by
 have q:=(Xt.refl s o).cons ⟨a,0,0,true,false,[f x]⟩;obtain⟨g,c,e,r⟩:=Gr.app (cx:=cx) q.1 (o.cons _) (x:= .arr b.size 0 0 1 false) (xs:=[f x]) m n t m n z v (by rw[gH];simp) (by simpa using show(f x).cells.length=a from w x) dC (by simpa using y);exact⟨g,c,e,by rw[List.map_append];exact q.trans r.xt⟩
end
noncomputable section
def nS.start{h:H}{w szw ver:Nat}{F:List (T×aa (Nat×List T))}(o:ij 0 h)(g:h.get w=some ⟨szw,0,ver,true,false,[.agg (F.map (·.1))]⟩)
 (f:∀a∈F,(a.2=none/\dU a.1=none)\/(a.1= .dN [] false/\∃e,a.2=some (e,[])/\e≠szw)):nS h w szw ver F/\∀c,Fp h w c->c=w:=by
 have i:∀a∈F,dU a.1=none:=λa h=>by
  rcases f a h with k|k
  ·exact k.2
  ·rw[k.1];rfl
 refine⟨⟨o,g,λa h=> ?_,λs k _ l c m r q b=>by rw[i l (ax m)]at b;simp at b⟩,λc b=> ?_⟩
 ·obtain⟨p,t⟩:=a;rcases f _ h with⟨rfl,k⟩|⟨rfl,e,rfl,k⟩
  ·exact k
  ·exact⟨Gr.nil _ _,k⟩
 ·rcases b with rfl|⟨u,d,p,j,b⟩
  ·rfl
  ·rw[g]at d;simp only[ar]at d;subst d;simp only[fx,bA,cA,bL,T.cells]at j;obtain⟨a,n,rfl⟩:=List.mem_map.1 j;rw[i a n]at b;simp at b
def nS.other{b e:H}{d l m g:Nat}{i:List (T×aa (Nat×List T))}(h:nS b d l m i)(j:∀a,Fp b d a->¬Fp b g a)(f:Step g b e):nS e d l m i/\∀a,Fp e d a->¬Fp e g a:=by
 have k:∀a,Fp b d a->e.get a=b.get a:=λa c=>f.get a (h.fp a c) (j a c);refine⟨h.step ⟨f.ok.hp,f.ok.low,aw _⟩ k,λa c n=> ?_⟩;rw[iV (k d (.inl rfl))]at c;rcases f.fp a n with q|q
 ·exact j a c q
 ·have:=h.fp a c;omega
structure Sm(b:Nat)(h h':H):Prop where
 ok:ij 0 h'
 size:h'.size=h.size
 get:∀c,c≠b->h'.get c=h.get c
def Sm.refl{b:Nat}{a:H}(c:ij 0 a):Sm b a a:=⟨c,rfl,λ_ _=>rfl⟩
def Sm.put{a:Nat}{e b:H}(d:Sm a e b){x:iY}(h:b.get a=some x)(g:iY):Sm a e (d8 b a g):=⟨d.ok.put a g,by rw[fV];exact d.size,λc f=>by rw[dQ h,ao f];exact d.get c f⟩
def Sm.iD{d:Nat}{a e:H}{b g h:Nat}{c:List (T×aa (Nat×List T))}(f:Sm d a e)(l:nS a b g h c)(j:¬Fp a b d):nS e b g h c:=l.step f.ok λi k=>f.get i λm=>j (by rw[<-m];exact k)
def iG.ft{b c:H}{V V':Nat->Prop}{d:Nat}{e f:List T}(g:iG (FT b V d) e f)(h:∀a,V a->V' a/\c.get a=b.get a):iG (FT c V' d) e f:=g.imp λ_ _ i=>i.mono h
def Gr.H6{a:H}{V:Nat->Prop}{g:T}{l d:Nat}{b c:List T}(f:Gr a g l b)(h:d<=11)(e:iG (FT a V d) b c):TI.fz a g=some (sl c):=by
 have j:fP (xh a 11) b=some c:=p9 (e.imp λ_ _ k=>(k.deep h).xh);have i:=f.ji;rcases f with⟨rfl,rfl⟩|⟨m,n,r,o,s,rfl,p,q⟩
 ·cases e;rfl
 ·rw[vZ,i,dY,j];rfl
def iG.left{a f:Type}{b:a->f->Prop}{d:List a}{j:List f}(h:iG b d j){e:a}(c:e∈d):∃k,b e k:=by
 induction h with
 |nil=>simp at c
 |cons g _ i=>
  rcases List.mem_cons.1 c with rfl|q
  ·exact⟨_,g⟩
  ·exact i q
def FT.fzN{a:H}{z:Nat->Prop}{h:Nat}(E:∀c,z c->h<=c):∀{b:Nat} {j y:T},FT a z b j y->freeze a h b j=freeze a 0 b j:=by
 intro b;induction b with
 |zero=>intro j y v;exact v.elim
 |succ b C=>
  intro j y v;rcases v with⟨A,B,rfl⟩|⟨c,l,i,g,s,n,r,rfl,F,f,t,rfl⟩|⟨p,L,rfl,t,rfl⟩
  ·rw[sU a h b j A B,sU a 0 b j A B]
  ·have u:fP (freeze a h b) n=fP (freeze a 0 b) n:=ng λk w=>by
    obtain⟨K,x⟩:=t.left w;exact C x
   have D:∀q,freeze a q (b+1) (.arr c l i g s)=gh (Nat.ble q c) (dV (a.get c) λk=>iY.casesOn k λ_ m _ exact o e=>
    gh (Nat.beq m l) (Bool.casesOn o (dV (dV (jX i e) λd=>takeN g d) λn=>dV (fP (freeze a q b) n) λr=>
     List.casesOn r (List.casesOn e (Bool.casesOn exact (some .gu) (some (.dN [] false))) λ_ _=>some .gu) λ_ _=>some (.dN r s)) none)):=λq=>rfl
   rw[D,D];have I:a.ji (.arr c l i g s)=dV (a.get c) λk=>iY.casesOn k λ_ m _ _ o e=>gh (Nat.beq m l) (Bool.casesOn o (dV (jX i e) λd=>takeN g d) none):=rfl;rw[I]at f;rw[show Nat.ble h c=true from cd (E c F),show Nat.ble 0 c=true from cd (aw c)];show(dV (a.get c) _)=(dV (a.get c) _);cases G:a.get c with
   |none=>rfl
   |some k=>
    rw[G]at f;obtain⟨N,m,O,M,o,e⟩:=k;simp only[dY]at f|-;cases J:Nat.beq m l with
    |false=>rfl
    |true=>
     rw[J]at f;cases o with
     |true=>rfl
     |false=>
      have f:(dV (jX i e) λd=>takeN g d)=some n:=f;show(dV (dV (jX i e) λd=>takeN g d) _)=(dV (dV (jX i e) λd=>takeN g d) _);rw[f,dY,dY,u]
  ·have u:fP (freeze a h b) p=fP (freeze a 0 b) p:=ng λk w=>by
    obtain⟨K,x⟩:=t.left w;exact C x
   show(dV (fP (freeze a h b) p) _)=(dV (fP (freeze a 0 b) p) _);rw[u]
def FT.top{b:H}{V:Nat->Prop}{h d:Nat}(F:d<=11)(q:∀a,V a->h<=a){c f:List T}(r:iG (FT b V d) c f):∃i,jl b h (.agg c)=some i/\cn i= .agg f:=by
 have u:fP (iJ b h) c=fP (iJ b 0) c:=ng λA x=>by
  obtain⟨G,s⟩:=r.left x;have l:=(s.deep (show d<=12 by omega)).fzN q;rcases(s.deep (show d<=12 by omega))with⟨m,n,rfl⟩|⟨a,j,p,o,k,C,D,rfl,w,E,v,rfl⟩|⟨c,f,rfl,v,rfl⟩
  ·cases A<;>first|exact l|(simp[jW]at m)
  ·have t:∀e,iJ b e (.arr a j p o k)=(Bool.casesOn (Nat.ble e a) (some (.arr a j p o k)) (freeze b e 12 (.arr a j p o k)):aa T):=λe=>rfl;rw[t,t,show Nat.ble h a=true from cd (q a w),show Nat.ble 0 a=true from cd (aw a),l]
  ·exact l
 have g:rn b (.agg c)=some (.agg f):=by
  rw[Sr,p9 (r.imp λB a e=>(e.deep (show d<=12 by omega)).fz)];rfl
 have g:(dV (dV (fP (iJ b 0) c) λy=>some (T.agg y)) λz=>some (cn z))=some (.agg f):=g;rw[<-u]at g;obtain⟨i,m,n⟩:=dL.1 g;simp only[ar]at n;exact⟨i,m,n⟩
def Lb.kS{b:Nat}{c d:H}{a:Nat}{f:iY}(e:Lb b c a f)(h:d.get b=c.get b)(g:d.get a=c.get a):Lb b d a f:=⟨by rw[g];exact e.get,by rw[iV h];exact e.nf⟩
def uR(a b:H):H:=⟨a.size,(lM a b).low,(lM a b).fy.drop ((lM a b).size-a.size)⟩
def yW{h a:H}(d:Hp a)(e:h.size<=a.size){b:Nat}(c:b<h.size):(uR h a).get b=a.get b:=
 (H3 (h:=lM h a) (by unfold Hp at*;exact d) e c).trans (fQ h a b)
def ij.cut{a b:H}(c:ij 0 a)(d:Hp b)(e:a.size<=b.size):ij 0 (uR a b):=
 ⟨by unfold Hp at*;unfold uR lM;simp;omega,by have:=c.low;unfold uR lM;simp only;split<;>omega,aw _⟩
def yf(a:H)(f:T)(b:H)(post:T->H->Prop):Prop:=
 Hp b/\a.size<=b.size/\(∀c e,c<a.size->b.get c=some e->b.get c=a.get c\/∀g∈fx e.eZ,pP a.size g)/\∃d,jl b a.size f=some d/\post (cn d) (uR a b)
section
variable {P:ai}{cx:Ctx}{mask:Nat}{ι:Type}{pre:ι->List T->H->Prop}{post:ι->List T->H->T->H->Prop}
def qJ{tb:fN}(S:P.follows .mixedOrders=true)(iZ:jd P cx){m:aj}{g:Func}{t:DL}(j:GA P cx m g mask t)(k:List T->H->Nat)(U:∀d q a,pre d q a->q.length<=g.ntmps)
 (al:∀d b a,pre d b a->∀C,nI C 0 b->W (jG cx (qW P cx tb) (k b a) mask t (g.body.getD .skip) ⟨C,.nil⟩ (hr a)) (Cs cx mask g.results.toList λo L=>yf a (jM o) L (post d b a))):(jF ι pre post).Ok P cx m:=by
 intro b a ⟨ap,V⟩;have A:∀d,pre d b a->∃h c,sX cx (qW P cx tb) (k b a) g mask true b a=some (h,lM a c)/\yf a h c (post d b a):=by
  intro d i;obtain⟨B,ae,_,N⟩:=mw mask g.ntmps 0 b (U d b a i);obtain⟨x,J,c,e,an,o,Y,X⟩:=Dd (al d b a i B N);have e:=qk _ j.dr _ _ _ e;obtain⟨G,f⟩:=y8 j.ok;rw[f]at e;refine⟨_,c,?_,X⟩;unfold sX;rw[f];obtain⟨p,z,r⟩:=a;simp only;rw[ae,dY];have e:j8 cx (qW P cx tb) (k b ⟨p,z,r⟩) mask G ⟨B,.nil⟩ ⟨p,p,r⟩=some (x,J,c):=e;rw[e,dY,kP];have Z:=oE Y;have R:=vU z (jM o) c;rcases an with rfl|rfl<;>(simp only;rw[Z,dY];exact R)
 obtain⟨h,c,u,av,aA,aE,aN,l,a6⟩:=A ap V;have O:qA P cx ⟨m,b,a,h,lM a c⟩:=λE w aX I s M=>pw (F:=⟨g,mask,true,none⟩) S iZ j.at_ j.ok _ (CZ P cx tb) (k b a) b a h (lM a c) u E w aX I s M;have Q:=Ql O (by unfold Hp at*;exact av) aA (λD y f v=>by rw[fQ]at v|-;exact aE D y f v) (by rw[tv (fQ a c)];exact l);refine⟨cn aN,uR a c,λd i=> ?_,Q⟩;obtain⟨r2,n,f,p1,p2,p3,a7,p4,p5⟩:=A d i;rw[u]at f;simp only[ar,az]at f;obtain⟨rfl,e⟩:=f;have K:jl c a.size h=jl n a.size h:=by rw[<-tv (fQ a c),e,tv (fQ a n)]
 rw[K,p4]at l;simp only[ar]at l;subst l;have:uR a c=uR a n:=by unfold uR;rw[e]
 rw[this];exact p5
end
end
end Go.TI
