/- Texts S16b to TiCutI. -/
import Derived.Test.YtmaeadedikngoaaGreatDoorA9
set_option linter.all false
set_option maxRecDepth 100000
set_option maxHeartbeats 8000000
namespace Go.Proofs.YtmaeadedikngoaaGreatDoor
noncomputable section
open Go Go.TI
def lq(a:ez):Int:=if a.kind=18 then a.value else-1
def sJ(b:d8)(a:ez):Bool:=if a.kind=1\/a.kind=2 then decide (a.jk=-1)else(match wV b.iG a.jk with|some c=>decide (c.dT=a.dT)|none=>false)
def sizeOf(b:d8)(a:Int):Int:=((wV b.cells a).getD default).size
def Ls(b:d8)(a:ez):Bool:=decide (a.mN=[])||decide (a.kind=5)||(mo a&& !decide (sizeOf b a.obj=0))
def Lm(a:ez):Bool:=decide (a.vh=[])||decide (a.kind=4)||decide (a.kind=22)
def qd(c:d8)(b:ej)(a:ez):Bool:=
 nJ c b&&je a.dT c.dK.length&&(decide (1<=a.kind)&&decide (a.kind<=23))&&jR c b.fM a.dT a.kind a.obj&&sJ c a&&Ls c a&&Lm a&&
  xO (b.count.getD a.dT.toNat 0) none a.mN&&xO (b.count.getD a.dT.toNat 0) none a.vh&&oc b a
def j9(c:d8)(b:ej)(a:ez):ej:=
 ⟨(ff c b.fM a.dT a.kind a.obj (lq a)).1,if a.kind=4 then b.cells.set a.obj.toNat a.value else b.cells,if a.kind=22 then b.eg.set a.obj.toNat a.value else b.eg,b.count.modify a.dT.toNat (· +1)⟩
def ta:ej:=⟨⟨[],0,[],[]⟩,[],[],[]⟩
def jO(c:d8)(b:ej)(a:ez):ej×Bool:=if qd c b a=true then(j9 c b a,true)else(ta,false)
section
variable {S E:Type}
def qG(ok:S->E->Bool)(nx:S->E->S):S->List E->Bool
 |_,[]=>true
 |s,a::b=>ok s a&&qG ok nx (nx s a) b
def uw(nx:S->E->S):S->List E->List S
 |_,[]=>[]
 |s,a::b=>s::uw nx (nx s a) b
def wi(go:S->E->S):S->List E->S
 |s,[]=>s
 |s,a::b=>wi go (go s a) b
def TC{a:Type}(d:a->E->Bool)(b:a->E->a):a->List E->aa (List a)
 |_,[]=>some []
 |s,c::e=>if d s c=true then(TC d b (b s c) e).map (s:: ·)else none
variable {ok:S->E->Bool}{nx go:S->E->S}
def I7:∀(a:List E) (b:S),(uw nx b a).length=a.length:=by
 intro a;induction a with
 |nil=>intro b;rfl
 |cons d a c=>intro b;simp[uw,c]
def Mf(f:∀a b,ok a b=true->go a b=nx a b):∀(c d:List E) (a:S),qG ok nx a (c++d)=(qG ok nx a c&&qG ok nx (wi go a c) d):=by
 intro c;induction c with
 |nil=>intro d a;simp[qG,wi]
 |cons b c g=>
  intro d a;simp only[cG,qG,wi];cases e:ok a b with
  |true=>rw[g,f a b e,bP,bP]
  |false=>simp
def IG:∀(a b:List E) (c:S),wi go c (a++b)=wi go (wi go c a) b:=by
 intro a;induction a with
 |nil=>intro b c;rfl
 |cons e a d=>intro b c;simp only[cG,wi,d]
def I8(g:∀a d,ok a d=true->go a d=nx a d):∀(c:List E) (a:S) (b:Nat),qG ok nx a c=true->b<c.length->(uw nx a c)[b]? =some (wi go a (c.take b)):=by
 intro c;induction c with
 |nil=>intro a b _ f;simp at f
 |cons d c h=>
  intro a b e f;simp only[qG,aB]at e;cases b with
  |zero=>simp[uw,wi]
  |succ b=>
   simp only[uw,dp,List.take_succ_cons,wi];rw[g a d e.1];exact h _ b e.2 (by simpa using f)
def N4(g:∀b a,ok b a=true->go b a=nx b a):∀(d:List E) (b:S) (c:Nat) (a:E),qG ok nx b d=true->d[c]? =some a->ok (wi go b (d.take c)) a=true:=by
 intro d;induction d with
 |nil=>intro b c a _ e;simp at e
 |cons i d h=>
  intro b c a f e;simp only[qG,aB]at f;cases c with
  |zero=>simp at e;subst e;simpa[wi]using f.1
  |succ c=>
   simp only[List.take_succ_cons,wi];rw[g b i f.1];exact h _ c a f.2 (by simpa using e)
def Nu{d:Type}{g:d->E->Bool}{f:d->E->d}{pr:S->d}(h:∀a b,ok a b=true->g (pr a) b=true)(i:∀a b,pr (nx a b)=f (pr a) b):∀(c:List E) (a:S),qG ok nx a c=true->TC g f (pr a) c=some ((uw nx a c).map pr):=by
 intro c;induction c with
 |nil=>intro a _;rfl
 |cons b c j=>
  intro a e;simp only[qG,aB]at e;simp only[TC,uw,aV];rw[aq (h a b e.1),<-i,j _ e.2];rfl
def Q5{I:S->Prop}(e:∀a c,I a->I (go a c)):∀(b:List E) (a:S),I a->I (wi go a b):=by
 intro b;induction b with
 |nil=>intro a d;exact d
 |cons c b f=>intro a d;exact f _ (e a c d)
end
def runs(a:d8):ej->List ez->Bool:=qG (qd a) (j9 a)
def KP(a:d8):ej->List ez->List ej:=uw (j9 a)
def o9(w:d8):ej->List ez->ej:=wi λb a=>(jO w b a).1
def tL{c:d8}(b:ej)(a:ez)(d:qd c b a=true):(jO c b a).1=j9 c b a:=by unfold jO;rw[aq d]
def Mc(c:d8)(a:List ez)(b:ej):(KP c b a).length=a.length:=I7 a b
def B1(b:d8)(c d:List ez)(a:ej):runs b a (c++d)=(runs b a c&&runs b (o9 b a c) d):=Mf (go:=λa e=>(jO b a e).1) tL c d a
def zt{e:d8}{a:List ez}{d:ej}(b:runs e d a=true)(c:Nat):runs e d (a.take c)=true:=by
 rw[<-cR c a,B1,aB]at b;exact b.1
def N3{c:d8}{a:List ez}{f:ej}(d:runs c f a=true)(b e:Nat):runs c (o9 c f (a.take b)) ((a.drop b).take e)=true:=by
 rw[<-cR b a,B1,aB]at d;exact zt d.2 e
def Md{d:d8}(b:List ez)(a:ej)(c:Nat)(f:runs d a b=true)(g:c<b.length):(KP d a b)[c]? =some (o9 d a (b.take c)):=I8 (go:=λa e=>(jO d a e).1) tL b a c f g
def RP{d:d8}(c:List ez)(b:ej)(e:Nat)(a:ez)(f:runs d b c=true)(g:c[e]? =some a):qd d (o9 d b (c.take e)) a=true:=N4 (go:=λb a=>(jO d b a).1) tL c b e a f g
def rn{c:d8}{d:ej}{a:ez}(b:qd c d a=true):nJ c d=true/\je a.dT c.dK.length=true/\jR c d.fM a.dT a.kind a.obj=true:=by
 unfold qd at b;simp only[aB]at b;exact⟨b.1.1.1.1.1.1.1.1.1,b.1.1.1.1.1.1.1.1.2,b.1.1.1.1.1.1.2⟩
def Xw(c:d8):fH->List ez->aa (List fH):=TC (λb a=>jR c b a.dT a.kind a.obj) λb a=>(ff c b a.dT a.kind a.obj (lq a)).1
def Q0{c:d8}(b:List ez)(a:ej)(d:runs c a b=true):Xw c a.fM b=some ((KP c a b).map ej.fM):=
 Nu (pr:=ej.fM) (λa f e=>(rn e).2.2) (λ_ _=>rfl) b a d
structure vd(w:eZ):Prop where
 len:w.dO.length<=16
 ph:w.fj.dK.length<=4
 run:runs w.fj w.jY w.dO=true
 E4:w.jY.fM.E4
def eZ.gx(c:eZ):GX:=⟨c.fj,c.dO,(KP c.fj c.jY c.dO).map ej.fM⟩
def vd.ok{a:eZ}(b:vd a){i:Nat}{e:ez}(c:a.dO[i]? =some e):qd a.fj (o9 a.fj a.jY (a.dO.take i)) e=true:=RP _ _ _ _ b.run c
def vd.st{a:eZ}(c:vd a){b:Nat}(d:b<a.dO.length):a.gx.st[b]? =some (o9 a.fj a.jY (a.dO.take b)).fM:=by
 unfold eZ.gx;rw[aU,Md _ _ _ c.run d];rfl
def vd.e{a:eZ}(d:vd a){i:Int}(g:je i a.dO.length=true):∃e,a.dO[i.toNat]? =some e/\a.gx.e i=e/\je e.dT a.fj.dK.length=true/\jQ a.fj e.kind e.obj=true:=by
 obtain⟨f,b⟩:=fq.1 g;refine⟨a.dO[i.toNat],by simp[b],?_,?_⟩
 ·unfold GX.e qz wV eZ.gx;rw[aq f];simp[b]
 ·have:=d.ok (i:=i.toNat) (e:=a.dO[i.toNat]) (by simp[b]);obtain⟨_,h,c⟩:=rn this;refine⟨h,?_⟩;unfold jR at c;simp only[aB]at c;exact c.1.2
def vd.s{a:eZ}(c:vd a){i:Int}(g:je i a.dO.length=true):a.gx.s i=(o9 a.fj a.jY (a.dO.take i.toNat)).fM/\mQ a.fj (a.gx.s i)=true:=by
 obtain⟨f,d⟩:=fq.1 g;have h:=c.st d;have b:a.gx.s i=(o9 a.fj a.jY (a.dO.take i.toNat)).fM:=by
  unfold GX.s wV;rw[aq f,h];rfl
 refine⟨b,?_⟩;rw[b];have:=(rn (c.ok (i:=i.toNat) (e:=a.dO[i.toNat]) (by simp[d]))).1;unfold nJ at this;simp only[aB]at this;exact this.1.1.1
def I6{b:d8}{a:ej}{c:ez}(d:a.fM.E4):(jO b a c).1.fM.E4:=by
 unfold jO;split
 ·exact ye d b _ _ _ _
 ·intro e hl;simp[ta]at hl
def TE{d:d8}(c:List ez)(a:ej)(b:a.fM.E4):(o9 d a c).fM.E4:=Q5 (I:=λa=>a.fM.E4) (λ_ _ b=>I6 b) c a b
def ly(a:d8):fH:=⟨a.em.map λ_=>⟨-1,[]⟩,-1,a.eg.map λ_=>false,(List.range a.dK.length).map λb=>⟨if b=0 then 1 else 0,0,false⟩⟩
def jT(a:d8):ej:=⟨ly a,a.cells.map ij.jY,a.eg.map λ_=>0,a.dK.map λ_=>0⟩
def sH(a:d8):(jT a).fM.E4:=by
 intro b hl;unfold jT ly at hl;simp only[List.mem_map]at hl;obtain⟨_,_,rfl⟩:=hl;exact List.Pairwise.nil
def wZ(b:d8)(c:List ez)(d a:Nat):eZ:=⟨b,a,o9 b (jT b) (c.take a),(c.drop a).take d⟩
def NJ{a:d8}{d:List ez}(e:runs a (jT a) d=true)(ht:a.dK.length<=4){b:Nat}(f:b<=16)(c:Nat):vd (wZ a d b c):=
 ⟨by simp[wZ];omega,ht,N3 e c b,TE _ _ (sH a)⟩
end
end Go.Proofs.YtmaeadedikngoaaGreatDoor
namespace Go.TI
noncomputable section
def hr(a:H):H:=⟨a.size,a.size,a.fx⟩
@[simp] theorem oa (a:H):(hr a).size=a.size:=id rfl
@[simp] theorem gh (a:H) (b:Nat):(hr a).get b=a.get b:=H.rC a a.size b
@[simp] theorem aba (a:H):Hp (hr a)=Hp a:=id rfl
def LU(f:Bool)(c:H)(g:List T)(e:H)(d:T->H->Prop):Prop:=∃b a,Cz f c.size c.low (jK g) e=some (b,a)/\(d b a\/d (cn b) a)
section
variable {P:ai}{cx:Ctx}{cf:iY}{mask:Nat}
def YO(J:P.follows .mixedOrders=true)(ja:jg P cx){m:aj}{a:Func}{r:DL}(h:GM P cx m a mask r)(C:nL P cx cf)(i:Bool){c:List T}{d:H}{w:T->H->Prop}(K:c.length<=a.ntmps)(j:Nat)
 (Q:∀z,nM z 0 c->W (jB cx cf j mask r (a.body.getD .skip) ⟨z,.nil⟩ (hr d)) (CC cx mask a.results.toList λu g=>LU i d u g w)):∃b g,w b g/\qC P cx ⟨m,c,d,b,g⟩:=by
 obtain⟨y,O,_,G⟩:=mF mask a.ntmps 0 c K;obtain⟨Z,D,E,e,R,u,M,b,f,hl,hp⟩:=Dm (Q y G);have e:=qm _ h.dr _ _ _ e;obtain⟨B,s⟩:=zd h.ok;rw[s]at e;have I:sX cx cf j a mask i c d=some (b,f):=by
  unfold sX;rw[s];obtain⟨x,al,A⟩:=d;simp only;rw[O,dX];have e:j4 cx cf j mask B ⟨y,.nil⟩ ⟨x,x,A⟩=some (Z,D,E):=e;rw[e,dX,kS];have N:=oK M;rcases R with rfl|rfl<;>(simp only;rw[N,dX];exact hl)
 have L:xg ⟨a,mask,i,none⟩=true:=h.ok;have t:qC P cx ⟨m,c,d,b,f⟩:=λk p q l o n=>pF (F:=⟨a,mask,i,none⟩) J ja h.at_ L cf C j c d b f I k p q l o n;rcases hp with hp|hp
 ·exact⟨b,f,hp,t⟩
 ·exact⟨cn b,f,hp,λk p q l o n=>(t k p q l o n).mono λv an ⟨⟨ae,S,U,V,X⟩,Y⟩=>⟨⟨ae,S.cn,U,V,X⟩,Y⟩⟩
def IU{tb:fJ}{c:lf}(n:P.follows .mixedOrders=true)(ja:jg P cx){g:aj}{d:Func}{f:DL}(q:GM P cx g d mask f)(i:Bool)(j:List T->H->Nat)(o:∀a b,c.pre a b->a.length<=d.ntmps)
 (p:∀a b,c.pre a b->∀k,nM k 0 a->W (jB cx (qZ P cx tb) (j a b) mask f (d.body.getD .skip) ⟨k,.nil⟩ (hr b)) (CC cx mask d.results.toList λr e=>LU i b r e (c.post a b))):c.Ok P cx g:=
 λa b h=>by
  obtain⟨s,e,l,m⟩:=YO n ja q (C9 P cx tb) i (o a b h) (j a b) (p a b h);exact⟨s,e,l,m⟩
end
def Vg{P:ai}{cx:Ctx}{cf:iY}{mask:Nat}(H:P.follows .mixedOrders=true)(ja:jg P cx){p:aj}{c:Func}{w:DL}(j:GM P cx p c mask w)(C:nL P cx cf){b:List T}{m:T->Prop}(hl:mP b=true)(y:b.length<=c.ntmps)(k:Nat)
 (K:∀f,nM f 0 b->W (jB cx cf k mask w (c.body.getD .skip) ⟨f,.nil⟩ hE) (CC cx mask c.results.toList λA g=>∃a,m a/\Rm g A a)):∃a,m a/\lr P cx p b a:=by
 have S:∃a,m a/\∀f,nM f 0 b->TI.dL f 0=TI.dL f 0->∃d,cn d=a/\sX cx cf k c mask false b hE=some (d,hE):=by
  obtain⟨l,z,_,s⟩:=mF mask c.ntmps 0 b y;obtain⟨U,D,g,e,L,A,hr,a,r,I,i⟩:=Dm (K l s);have e:=qm _ j.dr _ _ _ e;obtain⟨B,h⟩:=zd j.ok;rw[h]at e;unfold M9 at i;obtain⟨d,i,x⟩:=dJ.1 i;simp only[ar]at x;refine⟨a,r,λ_ _ _=>⟨d,x,?_⟩⟩;unfold sX;rw[h];simp only;rw[z,dX];have e:j4 cx cf k mask B ⟨l,.nil⟩ ⟨0,0,[]⟩=some (U,D,g):=e;rw[e,dX,kS];have J:=oK hr;rcases L with rfl|rfl<;>(simp only;rw[J,dX];exact HQ I i)
 obtain⟨a,r,G⟩:=S;obtain⟨l,z,_,s⟩:=mF mask c.ntmps 0 b y;obtain⟨d,rfl,h⟩:=G l s rfl;refine⟨cn d,r,?_⟩;have E:lr P cx p b d:=yw (lZ _ hl) λn u v o t q=>
  pF (F:=⟨c,mask,false,none⟩) H ja j.at_ j.ok cf C k b hE d hE h n u v o t q
 intro n u v o g t q;refine(E n u v o g t q).mono λX Y ⟨⟨V,M,N,O,Q⟩,R⟩=> ?_;exact⟨⟨V,M.cn,N,O,Q⟩,R⟩
def ER(b:T):Prop:=∃a,b= .bool a
def vQ(a:Nat)(d:T)(b:H):nl a d b=some (d,⟨b.size,if b.low<a then b.low else a,b.fx⟩):=by
 obtain⟨g,c,e⟩:=b;show @Bool.rec (λ_=>aa (T×H)) (some (d,⟨g,a,e⟩)) (some (d,⟨g,c,e⟩)) (Nat.blt c a)=_;by_cases hl:c<a
 ·rw[show Nat.blt c a=true by rw[aH];exact hl,aq hl]
 ·rw[show Nat.blt c a=false by rw[cv];intro f;rw[aH]at f;exact hl f,ao hl]
def H9{h:H}(f:Hp h){a d:Nat}(e:a<=h.size){b:Nat}(c:b<a):(⟨a,d,h.fx.drop (h.size-a)⟩:H).get b=h.get b:=by
 rw[H.get_eq,H.get_eq];simp only;rw[aq c,aq dz,bK];congr 1;omega
def qh(a b:H)(m:List T){r:T}{n:T->H->Prop}(l:Hp a)(c:Fr a.size (hr a) b)(g:(dU (jm b a.size (jK m)) λt=>some (cn t))=some r)(p:n r a):LU false a m b n:=by
 obtain⟨s,g,k⟩:=dJ.1 g;simp only[ar]at k;unfold LU Cz;simp only[g];have h:Hp b:=c.hp (by simpa using l);have o:a.size<=b.low:=c.low (au _);have u:a.size<=b.size:=c.size;have f:b.fx.drop (b.size-a.size)=a.fx:=by
  apply cZ;intro d;rw[bK];rcases aF d a.size with hi|hi
  ·have j:=c.get (a.size-1-d) dz;rw[gh,H.get_eq,H.get_eq,aq dz,aq dz]at j;rw[show b.size-a.size+d=b.size-1-(a.size-1-d)by omega,j];congr 1;omega
  ·rw[aM (by unfold Hp at h;omega),aM (by unfold Hp at l;omega)]
 obtain⟨i,q,e⟩:=b;unfold ug;simp only;rw[md,aq (by show i-a.size<=e.length;unfold Hp at h;simp only at h;omega),dX,show Nat.ble a.size q=true from ci o];refine⟨s,_,rfl,.inr ?_⟩;rw[k];have:(⟨a.size,a.low,List.drop (Nat.sub i a.size) e⟩:H)=a:=by
  have f:List.drop (Nat.sub i a.size) e=a.fx:=f;rw[f]
 rw[this];exact p
end
noncomputable section
noncomputable section
variable {cx:Ctx}{mask:Nat}{e:Env}{h:H}
end
end
noncomputable section
structure ig(n:Nat)(h:H):Prop where
 hp:Hp h
 low:h.low<=h.size
 sz:n<=h.size
def ig.cons{c:Nat}{b:H}(a:ig c b)(d:iZ):ig c (b.cons d):=⟨by simpa using a.hp,by simp only[PQ];have:=a.low;simp[H.cons];omega,by have:=a.sz;simp[H.cons];omega⟩
def ig.ne{c:Nat}{a:H}(d:ig c a){b:Nat}(e:b<c):(b=a.size)=False:=by have:=d.sz;simp;omega
def Hh(c:H)(b:Nat)(h:iZ):(dY c b h).low<=c.low:=by
 unfold dY;cases a:c.put b h with
 |none=>exact au _
 |some i=>
  obtain⟨e,d,j⟩:=c;have a:(gD (Nat.blt b e) (dU (kM j (Nat.sub (Nat.sub e 1) b) h) λf=> @Bool.rec (λ_=>aa H) (some ⟨e,d,f⟩) (some ⟨e,b,f⟩) (Nat.blt b d)))=some i:=a;obtain⟨_,a⟩:=dR.1 a;obtain⟨f,_,a⟩:=dJ.1 a;show i.low<=d;cases g:Nat.blt b d<;>rw[g]at a<;>simp only[ar]at a<;>subst a
  ·exact au _
  ·rw[aH]at g;exact bD g
def ig.put{n:Nat}{a:H}(b:ig n a)(d:Nat)(e:iZ):ig n (dY a d e):=⟨by simpa using b.hp,by rw[fU];exact aS (Hh a d e) b.low,by rw[fU];exact b.sz⟩
structure qq(sz:Nat)(h h':H):Prop where
 get:∀c x,h.get c=some x->x.sz≠sz->h'.get c=some x
 ok:∀n,ig n h->ig n h'
 size:h.size<=h'.size
def qq.refl(d:Nat)(a:H):qq d a a:=⟨λ_ _ b _=>b,λ_ c=>c,au _⟩
def qq.trans{c:Nat}{e f g:H}(a:qq c e f)(b:qq c f g):qq c e g:=⟨λd j k h=>b.get d j (a.get d j k h) h,λi l=>b.ok i (a.ok i l),aS a.size b.size⟩
def qq.cons(e:Nat)(a:H)(c:iZ):qq e a (a.cons c):=⟨λf h b _=>by have:=H.ew b;rw[dV,ao dz];exact b,λg d=>d.cons c,by simp[H.cons]⟩
def qq.put{g:Nat}{d:H}{a:Nat}{x:iZ}(f:d.get a=some x)(i:x.sz=g)(h:iZ):qq g d (dY d a h):=⟨λc l b j=>by
 rw[dP f];by_cases e:c=a
 ·subst e;rw[f]at b;simp only[ar]at b;subst b;exact absurd i j
 ·rw[ao e];exact b,λn k=>k.put a h,dA⟩
def so.abM{cx:Ctx}{a:H}{d:T}{b:Nat}{e:List T}(l:so a 0 d b e){o p j:ab}{v w c:Ty}(B:cx.ty o=some v)(C:v.u= .slice j)(D:cx.ty j=some c)(E:cx.ty p=some w)(F:w.u= .slice j)(t:c.size=b)(r:1<=c.bytes)
 {x:T} {xs:List T} (I:a.jf x=some xs) (m:∀z∈xs,z.cells.length=b) (s:(e.length+xs.length)*c.bytes<=70368744177664):
 ∃y k,iO cx a o p d x=some (.val y k)/\so k 0 y b (e++xs)/\qq b a k:=by
 have G:iO cx a o p d x=jA (a.append c.size c.bytes d xs):=by
  unfold iO pM mV;rw[B,dX,E,dX];simp only[C,D,F,I,dX];rw[t,my m,iu]
 rw[G,t];cases xs with
 |nil=>
  refine⟨d,a,?_,by simpa using l,qq.refl _ _⟩;show jA (gD (oX d) (some (d,a)))=_;rcases l with⟨rfl,_⟩|⟨h,i,q,A,_,rfl,_⟩<;>rfl
 |cons f g=>
  rcases l with⟨rfl,rfl⟩|⟨h,i,q,A,J,rfl,n⟩
  ·refine⟨.arr a.size 0 0 (f::g).length false,a.cons ⟨b,0,0,false,false,f::g⟩,?_,.inr ⟨a.size,0,0,false,aw _,rfl,dA⟩,qq.cons _ _ _⟩;show jA (a.jc b c.bytes [] (f::g))=_;rw[o8 m r (by simpa using s)];rfl
  ·refine⟨.arr h (i+1) 0 (e++f::g).length false,dY a h ⟨b,i+1,q+1,false,false,e++f::g⟩,?_,.inr ⟨h,i+1,q+1,false,J,rfl,by rw[dP n,aq rfl]⟩,qq.put n rfl _⟩;show jA (a.mB b c.bytes h i e.length (f::g))=_;rw[wg n m r s];rfl
def so.U2{cx:Ctx}{g:H}{o:T}{b:Nat}{i:Type}{a:i->T}{f:List i}(t:so g 0 o b (f.map a)){h k:ab}{n d:Ty}(l:cx.ty h=some n)(m:n.u= .slice k)(p:cx.ty k=some d)(v:d.size=b)(q:1<=d.bytes)
 (r:∀x,Lw (a x)=b) (xs:List i) (s:(f.length+xs.length)*d.bytes<=70368744177664):
 ∃e c,iO cx g h h o (sl (xs.map a))=some (.val e c)/\so c 0 e b ((f++xs).map a)/\qq b g c:=by
 obtain⟨e,c,w,y,z⟩:=t.abM (x:=sl (xs.map a)) (xs:=xs.map a) l m p l m v q dA (by simpa using λj _=>show(a j).cells.length=b from r j) (by simpa using s);exact⟨e,c,w,by rw[List.map_append];exact y,z⟩
def so.Ky{cx:Ctx}{c:H}{n:T}{a:Nat}{i:Type}{b:i->T}{g:List i}(s:so c 0 n a (g.map b)){h j:ab}{m e:Ty}(k:cx.ty h=some m)(l:m.u= .slice j)(o:cx.ty j=some e)(t:e.size=a)(p:1<=e.bytes)
 (q:∀x,Lw (b x)=a) (x:i) (r:(g.length+1)*e.bytes<=70368744177664):
 ∃f d,iO cx (c.cons ⟨a,0,0,true,false,[b x]⟩) h h n (.arr c.size 0 0 1 false)=some (.val f d)/\so d 0 f a ((g++[x]).map b)/\qq a c d:=by
 obtain⟨f,d,v,w,y⟩:=(s.cons ⟨a,0,0,true,false,[b x]⟩).abM (x:= .arr c.size 0 0 1 false) (xs:=[b x]) k l o k l t p (by rw[gH];simp) (by simpa using show(b x).cells.length=a from q x) (by simpa using r);exact⟨f,d,v,by rw[List.map_append];exact w,(qq.cons _ _ _).trans y⟩
def nz{n:Env->H->Out}(d:Nat)(f:Nat->fW->H->Prop){l:iM}
 (q:∀k c a,k<=d->f k c a->W (n ⟨c,.nil⟩ a) (xQ (λb a=>b.tmps= .nil/\∃e,k<e/\e<=d/\f e b.vars a) l)) {j:Nat} (v:d<j) {k:Nat} (h:k<=d) {c:fW} {a:H} (g:f k c a):W (ox n j ⟨c,.nil⟩ a) l:=by
 refine Q9 (σ:=Nat) (I:=λk b a=>k<=d/\b.tmps= .nil/\f k b.vars a) (m:=λk=>d-k) ?_ j k _ _ dz ⟨h,rfl,g⟩;rintro k ⟨c,y⟩ a ⟨h,ht,g⟩;simp only at ht g;subst ht;obtain⟨o,b,p,r,i⟩:=q k c a h g;refine⟨o,b,p,r,?_⟩;cases o with
 |normal=>
  obtain⟨s,e,x,t,u⟩:=i;exact⟨e,dz,t,s,u⟩
 |exit w=>exact i
 |ret=>exact i
section
variable {cx:Ctx}
end
end
noncomputable section
section
variable {P:ai}{cx:Ctx}
def QC{f:aj}{t:List T}{b c:H}{F G:T}(O:qC P cx ⟨f,t,b,F,c⟩)(Y:Hp c)(z:b.size<=c.size)
 (R:∀a h,a<b.size->c.get a=some h->c.get a=b.get a\/∀m∈fw h.eY,pU b.size m) (S:jm c b.size F=some G):
 qC P cx ⟨f,t,b,cn G,⟨b.size,c.low,c.fx.drop (c.size-b.size)⟩⟩:=by
 intro J w r K q i;refine(O J w r K q i).mono λm al ⟨⟨s,ae,D,g,j⟩,p⟩=> ?_;have v:∀a e,r a=some e->a<b.size:=λa e d=>q.ew d;have j:yg r s b.size c.size:=j;have hl:∀a e h,a<b.size->s a=some e->c.get a=some h->∀m∈fw h.eY,pU b.size m:=by
  intro a e h d i B;rcases R a h d B with he|he
  ·rcases j.2.1 a (by rw[i];simp)with k|k
   ·obtain⟨I,N⟩:=Option.ne_none_iff_exists'.1 k;obtain⟨an,o,X⟩:=q.box a I N;rw[<-he,B]at o;simp only[ar]at o;subst o;exact X.low v
   ·omega
  ·exact he
 have u:=St.cut (low:=c.low) D z hl;have x:∀a,a<b.size->(⟨b.size,c.low,c.fx.drop (c.size-b.size)⟩:H).get a=c.get a:=λa d=>H9 Y z d;refine⟨⟨mz b.size s,(u4 D ae S).cn,u,⟨⟨g.ext.size,λZ U W=> ?_,λa e d=> ?_,g.ext.pw,g.ext.kept⟩,g.os,g.tape,g.output⟩,au _,λa d=> ?_,λa E l=>absurd E (by show¬b.size<=a;have l:a<b.size:=l;omega)⟩,?_⟩
 ·obtain⟨L,M⟩:=g.ext.nN Z U W;exact⟨L,wE M⟩
 ·rw[uo (v a e d)];exact g.ext.mu a e d
 ·left;obtain⟨e,i⟩:=Option.ne_none_iff_exists'.1 d;obtain⟨E,l⟩:=ka i;rcases j.2.1 a (by rw[l];simp)with k|k
  ·exact k
  ·omega
 ·refine⟨u.wf,au _,p.low,λa d V=> ?_,λa y C=> ?_⟩
  ·rw[x a d];exact p.kY a d V
  ·rw[x a (H.ew C)];exact p.ver a y C
def J6{g h:H}(t:∀b,h.get b=g.get b)(n:Nat):∀a,freeze h n a=freeze g n a:=by
 intro a;induction a with
 |zero=>rfl
 |succ a q=>
  funext u;cases u with
  |agg m=>
   show(dU (fN (freeze h n a) m) λc=>some (T.agg c))=(dU (fN (freeze g n a) m) λc=>some (T.agg c));rw[q]
  |arr b o s r p=>
   show gD (Nat.ble n b) (dU (h.get b) λl=> @iZ.rec (λ_=>aa T) (λ_ i _ exact k d=>
    gD (Nat.beq i o) (@Bool.rec (λ_=>aa T) (dU (dU (jX s d) λc=>takeN r c) λj=>dU (fN (freeze h n a) j) λe=>
     @List.rec T (λ_=>aa T) (@List.rec T (λ_=>aa T) (@Bool.rec (λ_=>aa T) (some .gu) (some (.dM [] false)) exact) (λ_ _ _=>some .gu) d) (λ_ _ _=>some (.dM e p)) e) none k)) l)=
    gD (Nat.ble n b) (dU (g.get b) λl=> @iZ.rec (λ_=>aa T) (λ_ i _ exact k d=>
    gD (Nat.beq i o) (@Bool.rec (λ_=>aa T) (dU (dU (jX s d) λc=>takeN r c) λj=>dU (fN (freeze g n a) j) λe=>
     @List.rec T (λ_=>aa T) (@List.rec T (λ_=>aa T) (@Bool.rec (λ_=>aa T) (some .gu) (some (.dM [] false)) exact) (λ_ _ _=>some .gu) d) (λ_ _ _=>some (.dM e p)) e) none k)) l)
   rw[q,t]
  |_=>rfl
def tv{a b:H}(i:∀e,b.get e=a.get e)(n:Nat)(c:T):jm b n c=jm a n c:=by
 have g:iJ b n=iJ a n:=by funext d;cases d<;>(unfold iJ;simp only[J6 i])
 have h:ks b n=ks a n:=by funext d;cases d<;>(unfold ks;simp only[g])
 cases c<;>(unfold jm;simp only[h])
end
def FT(e:H)(c:Nat->Prop):Nat->T->T->Prop
 |0,_,_=>False
 |d+1,a,g=>(jW a=true/\(∀b,a≠ .agg b)/\g=cn a)\/
  (∃h l o m f j k,a= .arr h l o m f/\c h/\e.jf a=some j/\iB (FT e c d) j k/\g=sl k)\/
  (∃b i,a= .agg b/\iB (FT e c d) b i/\g= .agg i)
def iB.imp_mem{α h:Type}{d R':α->h->Prop}{c:List α}{g:List h}(i:iB d c g)(e:∀a∈c,∀b,d a b->R' a b):iB R' c g:=by
 induction i with
 |nil=>exact .nil
 |cons a _ k=>exact .cons (e _ dA _ a) (k λl j b=>e l (by simp[j]) b)
def qg{α d:Type}{f:α->aa d}{b:List α}{c:List d}(g:iB (λa e=>f a=some e) b c):fN f b=some c:=by
 induction g with
 |nil=>rfl
 |cons a _ h=>rw[jH,a,h];rfl
def FT.xi{h:H}{V:Nat->Prop}:∀{d:Nat} {v t:T},FT h V d v t->TI.xi h d v=some t:=by
 intro d;induction d with
 |zero=>intro v t c;exact c.elim
 |succ d g=>
  intro v t c;rcases c with⟨j,k,rfl⟩|⟨e,p,u,s,f,q,r,rfl,_,l,a,rfl⟩|⟨m,o,rfl,a,rfl⟩
  ·unfold TI.xi;rw[sU h 0 d v j k];rfl
  ·rw[xU,l,dX,qg (a.imp λi e b=>g b)];rfl
  ·rw[SH,qg (a.imp λi e b=>g b)];rfl
def HU{c d:H}{a b g e:Nat}{f:Bool}(h:d.get a=c.get a):d.jf (.arr a b g e f)=c.jf (.arr a b g e f):=by
 rw[gH,gH,h]
def FT.mono{k h':H}{i j:Nat->Prop}(m:∀a,i a->j a/\h'.get a=k.get a):∀{b:Nat} {e d:T},FT k i b e d->FT h' j b e d:=by
 intro b;induction b with
 |zero=>intro e d c;exact c.elim
 |succ b o=>
  intro e d c;rcases c with c|⟨a,s,x,w,f,t,u,rfl,l,v,g,rfl⟩|⟨q,r,rfl,g,rfl⟩
  ·exact .inl c
  ·exact .inr (.inl ⟨a,s,x,w,f,t,u,rfl,(m a l).1,by rw[HU (m a l).2];exact v,g.imp λp a h=>o h,rfl⟩)
  ·exact .inr (.inr ⟨q,r,rfl,g.imp λp a h=>o h,rfl⟩)
def FT.deep{k:H}{j:Nat->Prop}:∀{b a:Nat} {e d:T},b<=a->FT k j b e d->FT k j a e d:=by
 intro b;induction b with
 |zero=>intro a e d _ c;exact c.elim
 |succ b l=>
  intro a e d y c;obtain⟨a,rfl⟩:∃q,a=q+1:=⟨a-1,dz⟩;rcases c with c|⟨g,r,x,w,f,s,t,rfl,u,v,h,rfl⟩|⟨o,p,rfl,h,rfl⟩
  ·exact .inl c
  ·exact .inr (.inl ⟨g,r,x,w,f,s,t,rfl,u,v,h.imp λm g i=>l dz i,rfl⟩)
  ·exact .inr (.inr ⟨o,p,rfl,h.imp λm g i=>l dz i,rfl⟩)
def FT.fz{h:H}{V:Nat->Prop}{v t:T}(l:FT h V 12 v t):TI.fz h v=some t:=by
 rcases l with⟨i,e,rfl⟩|⟨g,o,s,r,f,p,q,rfl,e,j,a,rfl⟩|⟨b,c,rfl,a,rfl⟩
 ·show(dU (iJ h 0 v) λv=>some (cn v))=_;rw[qy h i e];rfl
 ·rw[vX,j,dX,qg (a.imp λm g k=>k.xi)];rfl
 ·have:=FT.xi (h:=h) (V:=V) (d:=12) (v:= .agg b) (t:= .agg c) (.inr (.inr ⟨b,c,rfl,a,rfl⟩));exact this
@[simp] theorem fQ (d:H) (b:Nat->Prop) (c:Nat) (a:ak) (n:Int):FT d b (c+1) (.int a n) (.int a n):= .inl ⟨dA,dA,dA⟩
@[simp] theorem ke (d:H) (b:Nat->Prop) (c:Nat) (a:List Nat):FT d b (c+1) (.str a) (.str a):= .inl ⟨dA,dA,dA⟩
@[simp] theorem LW (d:H) (b:Nat->Prop) (c:Nat) (a:Bool):FT d b (c+1) (.bool a) (.bool a):= .inl ⟨dA,dA,dA⟩
def pj(g:H)(d:Nat->Prop)(e:Nat){a:List T}(c:∀b∈a,cn b=b):FT g d (e+1) (sl a) (sl a):=by
 refine .inl ⟨dA,by cases a<;>simp[sl],?_⟩;rw[Ly];congr 1;induction a with
 |nil=>rfl
 |cons b k i=>rw[aV,c b dA,<-i λj h=>c j (by simp[h])]
def jh(c:H)(a:Nat->Prop)(b:Nat)(f:Bool):FT c a (b+1) (.dM [] f) (sl []):= .inl ⟨dA,dA,by rw[ny];rfl⟩
section
variable {cx:Ctx}{cf:iY}{mask n:Nat}{dl:DL}
def aeZ{a:Bool}{h:af Oper}{c:aa Tmp}{g:Op}{e:List Oper}{j i:fW}{d:H}{b:iM}(k:a=true->GK (some true) cx cf mask h c g e j i d b)(l:a=false->GK (some false) cx cf mask h c g e j i d b):GK (some a) cx cf mask h c g e j i d b:=by
 cases a
 ·exact l rfl
 ·exact k rfl
def fF(b e:Code)(c:Env)(d:H)(a:iM):CK (some (.bool true)) cx cf n mask dl b e c d a=W (jB cx cf n mask dl b c d) a:=rfl
def fh(e b:Code)(c:Env)(d:H)(a:iM):CK (some (.bool false)) cx cf n mask dl e b c d a=W (jB cx cf n mask dl b c d) a:=rfl
def ee{a:Bool}{e g:Code}{c:Env}{d:H}{b:iM}(h:a=true->W (jB cx cf n mask dl e c d) b)(i:a=false->W (jB cx cf n mask dl g c d) b):CK (some (.bool a)) cx cf n mask dl e g c d b:=by
 cases a
 ·exact i rfl
 ·exact h rfl
end
def wR(P:ai)(cx:Ctx)(f:aj){α:Type}(A:α->List T)(pre:α->Prop)(Q:α->T->Prop):hU:=
 ⟨α,A,pre,λa=>Classical.epsilon λc=>(∀b,A b=A a->Q b c)/\lr P cx f (A a) c,λa b d=>by simp only[d]⟩
section
variable {P:ai}{cx:Ctx}{f:aj}{α:Type}{A:α->List T}{pre:α->Prop}{Q:α->T->Prop}
def KJ(h:∀a b,A a=A b->a=b){a:α}(j:∃c,Q a c/\lr P cx f (A a) c):Q a ((wR P cx f A pre Q).R a)/\lr P cx f (A a) ((wR P cx f A pre Q).R a):=by
 have d:∃c,(∀b,A b=A a->Q b c)/\lr P cx f (A a) c:=by
  obtain⟨c,e,g⟩:=j;exact⟨c,λb i=>by rw[h b a i];exact e,g⟩
 have:=Classical.epsilon_spec d;exact⟨this.1 a rfl,this.2⟩
def YP(d:∀a b,A a=A b->a=b)(g:∀a,pre a->∃c,Q a c/\lr P cx f (A a) c):(wR P cx f A pre Q).Ok P cx f:=λa e=>(KJ d (g a e)).2
def jt{tb:fJ}{c:Func}{mask:Nat}{dl:DL}(j:P.follows .mixedOrders=true)(ja:jg P cx)(m:GM P cx f c mask dl)(n:α->Nat)(h:∀a g,A a=A g->a=g)(hl:∀a,mP (A a)=true)(k:∀a,(A a).length<=c.ntmps)
 (l:∀a,pre a->∀i,nM i 0 (A a)->W (jB cx (qZ P cx tb) (n a) mask dl (c.body.getD .skip) ⟨i,.nil⟩ hE) (CC cx mask c.results.toList λo d=>∃b,Q a b/\Rm d o b)):(wR P cx f A pre Q).Ok P cx f/\∀a,pre a->Q a ((wR P cx f A pre Q).R a):=by
 have d:∀a,pre a->∃b,Q a b/\lr P cx f (A a) b:=λa e=>Vg j ja m (C9 P cx tb) (hl a) (k a) (n a) (l a e);exact⟨YP h d,λa e=>(KJ h (d a e)).1⟩
def nO(P:ai)(cx:Ctx)(f:aj)(A:α->List T)(pre:α->Prop)(Q:α->T->Prop):Prop:=(wR P cx f A pre Q).Ok P cx f/\∀a,pre a->Q a ((wR P cx f A pre Q).R a)
def Bm(d:α->Nat)(step:∀b,nO P cx f A (λa=>pre a/\d a<b) Q->nO P cx f A (λa=>pre a/\d a<b+1) Q):nO P cx f A pre Q:=by
 have e:∀b,nO P cx f A (λa=>pre a/\d a<b) Q:=by
  intro b;induction b with
  |zero=>exact⟨λa c=>absurd c.2 (Nat.not_lt_zero _),λa c=>absurd c.2 (Nat.not_lt_zero _)⟩
  |succ b g=>exact step b g
 exact⟨λa c=>(e (d a+1)).1 a ⟨c,df _⟩,λa c=>(e (d a+1)).2 a ⟨c,df _⟩⟩
end
def MZ(b:Prop)(c:T):Prop:=∃a,c= .bool a/\(a=true->b)
@[simp] theorem Yg (d:Prop) (a:Bool):MZ d (.bool a)=(a=true->d):=by
 unfold MZ;apply propext;constructor
 ·rintro⟨e,c,b⟩;simp at c;subst c;exact b
 ·exact λb=>⟨a,rfl,b⟩
@[simp] theorem aa7 (a:Bool):ER (.bool a)=True:=by simp[ER]
end
noncomputable section
attribute [-simp] fg ei
def gT(a:Bool)(b:T):T:=match a with|true=>b|false=> .undef
def mgT(a:Bool)(b c:T):T:=match a with|true=>b|false=>c
@[simp] theorem aaO (b:Bool) (a:T):mgT b a a=a:=by cases b<;>rfl
@[simp] theorem afi (a:Bool) (b:T):mgT a b .undef=gT a b:=by cases a<;>rfl
@[simp] theorem afh (a:Bool) (b:T):mgT a .undef b=gT (!a) b:=by cases a<;>rfl
@[simp] theorem afj (a b c:Bool):mgT a (.bool b) (.bool c)= .bool (bif a then b else c):=by cases a<;>rfl
def Wb(a:Bool)(b c:fW):fW:=match a with|true=>b|false=>c
@[simp] theorem aaM (b:Bool) (a:fW):Wb b a a=a:=by cases b<;>rfl
@[simp] theorem aaN (a:Bool) (b:Nat) (e g:T) (c d:fW):Wb a (.cons b e c) (.cons b g d)= .cons b (mgT a e g) (Wb a c d):=by cases a<;>rfl
def vf:fW->Nat->T->fW
 | .nil,_,_=> .nil
 | .cons a e b,c,d=>if a=c then .cons a d b else .cons a e (vf b c d)
@[simp] theorem Me (a c:Nat) (e d:T) (b:fW):vf (.cons a e b) c d=if a=c then .cons a d b else .cons a e (vf b c d):=id rfl
def tO:∀{c:fW} {b:Nat} {d:T},dL c b=some d->vf c b d=c
 | .nil,_,_,_=>rfl
 | .cons e i g,b,d,h=>by
  rw[lK]at h;rw[Me];by_cases a:e=b
  ·rw[aq a]at h;simp only[ar]at h;rw[aq a,h]
  ·rw[ao a]at h;rw[ao a,tO h]
def Dz(a:Nat):List Oper->List Oper
 | []=>[]
 |o::c=>match o.guard with|some (b,_)=>if a<=b then o::Dz a c else []|none=>[]
def Lp(b:Nat):List Oper->List Oper
 | []=>[]
 |o::a=>match o.guard with|some (c,_)=>if b<=c then Lp b a else o::a|none=>o::a
def NQ(b:Nat):∀a,Dz b a++Lp b a=a
 | []=>rfl
 |o::a=>by
  unfold Dz Lp;cases o.guard with
  |none=>rfl
  |some c=>
   simp only;split
   ·rw[cG,NQ b a]
   ·rfl
section
variable {cx:Ctx}{cf:iY}{mask:Nat}
@[simp] theorem afb (c:Nat) (b:aa Tmp) (e:Op) (i:ab) (g:String) (a:af Edge) (d:List Oper):Dz c (⟨b,e,i,g,a,none⟩::d)=[]:=id rfl
@[simp] theorem afu (i:Nat) (b:aa Tmp) (d:Op) (g:ab) (e:String) (a:af Edge) (c:List Oper):Lp i (⟨b,d,g,e,a,none⟩::c)=⟨b,d,g,e,a,none⟩::c:=id rfl
@[simp] theorem afc (a b:Nat) (d:Bool) (e:aa Tmp) (i:Op) (k:ab) (j:String) (c:af Edge) (g:List Oper):Dz a (⟨e,i,k,j,c,some (b,d)⟩::g)=if a<=b then⟨e,i,k,j,c,some (b,d)⟩::Dz a g else []:=id rfl
@[simp] theorem afv (a b:Nat) (e:Bool) (g:aa Tmp) (i:Op) (k:ab) (j:String) (d:af Edge) (c:List Oper):Lp a (⟨g,i,k,j,d,some (b,e)⟩::c)=if a<=b then Lp a c else⟨g,i,k,j,d,some (b,e)⟩::c:=id rfl
def vH(a:af Oper)(c:Oper)(g:List Oper)(b:Env)(h:H):
 kA cx cf mask a (c::g) b h=dU (ym cx cf mask a b h c) λi=>two i λj e=>dU (b.dst mask c.dst j) λd=>kA cx cf mask a g d e:=by
 show(dU (lH cx cf mask a b h c) λi=>two i λd e=>kA cx cf mask a g d e)=_;rw[qP]
def tc(b:af Oper):∀(c d:List Oper) (a:Env) (h:H),kA cx cf mask b (c++d) a h=dU (kA cx cf mask b c a h) λi=>two i λe g=>kA cx cf mask b d e g
 | [],_,_,_=>rfl
 |o::c,d,a,h=>by
  rw[cG,vH,vH];cases ym cx cf mask b a h o with
  |none=>rfl
  |some i=>
   obtain⟨j,g⟩:=i;simp only[dX,kG];cases a.dst mask o.dst j with
   |none=>rfl
   |some e=>simp only[dX];exact tc b c d e g
def qQ(cx:Ctx)(cf:iY)(mask:Nat)(b:af Oper)(a:List Oper)(d c:fW)(h:H):aa (Env×H):=kA cx cf mask b a ⟨d,c⟩ h
def SG(l:aa (T×H))(cx:Ctx)(cf:iY)(mask:Nat)(e:af Oper)(a:aa Tmp)(d:List Oper)(k i:fW):aa (Env×H):=
 dU l λg=>two g λj c=>dU (Env.dst mask ⟨k,i⟩ a j) λb=>kA cx cf mask e d b c
@[simp] theorem Z1 (c:af Oper) (b a:fW) (h:H):qQ cx cf mask c [] b a h=some (⟨b,a⟩,h):=id rfl
def Qd(d b:fW)(a:Tmp)(c:T):Env.dst mask ⟨d,b⟩ (some a) c=some (if(mask>>>a)&&&1=1 then⟨put d a c,b⟩else⟨d,.cons a c b⟩):=by
 show @Bool.rec (λ_=>aa Env) (some ⟨d,.cons a c b⟩) (dU (lV d a c) λe=>some ⟨e,b⟩) (kh mask a)=_;rw[pq];have:=CA mask a;cases hl:kh mask a with
 |true=>rw[aq (by rw[<-this];exact hl)];rfl
 |false=>rw[ao (by rw[<-this,hl];simp)]
@[simp] theorem adm (e:T) (h:H) (c:af Oper) (a:Tmp) (b:List Oper) (g d:fW):SG (some (e,h)) cx cf mask c (some a) b g d=
 if(mask>>>a)&&&1=1 then qQ cx cf mask c b (put g a e) d h else qQ cx cf mask c b g (.cons a e d) h:=by
 unfold SG;rw[dX,kG,Qd,dX];split<;>rfl
def G3(o:aa Tmp)(i:aa Bool)(m:Nat)(l:Bool)(cx:Ctx)(cf:iY)(mask:Nat)(g:af Oper)(c:aa Tmp)(e:Op)(p:ab)(n:String)(k:af Edge)(d:List Oper)(b a:fW)(h:H):aa (Env×H):=
 SG (dU i λj=> @Bool.rec (λ_=>aa (T×H)) (some (.undef,h)) (fin cf h (jp e cx mask ⟨b,a⟩ h)) j) cx cf mask g c d b a
def Jd(a:af Oper)(j:aa Tmp)(k:Op)(m:ab)(l:String)(i:af Edge)(c:Nat)(b:Bool)(d:List Oper)(g e:fW)(h:H)(n:aa Tmp):
 qQ cx cf mask a (⟨j,k,m,l,i,some (c,b)⟩::d) g e h=G3 n (kw a mask ⟨g,e⟩ (some (c,b))) c b cx cf mask a j k m l i d g e h:=vH a _ d _ h
@[simp] theorem G7 (b:List Oper) (i:aa Tmp) (k:Op) (m:ab) (l:String) (g:af Edge) (a:Nat) (c:Bool) (j:List Oper) (e d:fW) (h:H):
 qQ cx cf mask b.toArray (⟨i,k,m,l,g,some (a,c)⟩::j) e d h=G3 (dU (b[a]?) λn=>n.dst) (kw b.toArray mask ⟨e,d⟩ (some (a,c))) a c cx cf mask b.toArray i k m l g j e d h:=Jd b.toArray i k m l g a c j e d h _
@[simp] theorem ads (m:aa Tmp) (k:Nat) (j:Bool) (g:af Oper) (c:aa Tmp) (e:Op) (n:ab) (l:String) (i:af Edge) (d:List Oper) (b a:fW) (h:H):G3 m (some true) k j cx cf mask g c e n l i d b a h=SG (fin cf h (jp e cx mask ⟨b,a⟩ h)) cx cf mask g c d b a:=id rfl
@[simp] theorem ab2 (m:aa Tmp) (j:Nat) (i:Bool) (c:af Oper) (a:aa Tmp) (k:Op) (n:ab) (l:String) (g:af Edge) (b:List Oper) (e d:fW) (h:H):G3 m (some false) j i cx cf mask c a k n l g b e d h=SG (some (.undef,h)) cx cf mask c a b e d:=id rfl
def XL(a:Bool)(g i:aa (Env×H))(cx:Ctx)(cf:iY)(mask:Nat)(c:af Oper)(e:List Oper):aa (Env×H):=dU (bif a then g else i) λd=>two d λb h=>kA cx cf mask c e b h
@[congr] theorem YL {a b:Bool} {g i j k:aa (Env×H)} {c:af Oper} {d e:List Oper} (l:a=b) (m:g=i) (n:j=k) (hr:d=e):XL a g j cx cf mask c d=XL b i k cx cf mask c e:=by rw[l,m,n,hr]
@[simp] theorem adz (a:Bool) (g d i e:fW) (h:H) (b:af Oper) (c:List Oper):XL a (some (⟨g,d⟩,h)) (some (⟨i,e⟩,h)) cx cf mask b c=qQ cx cf mask b c (Wb a g i) (Wb a d e) h:=by cases a<;>rfl
def Lo{e c:fW}{a:Tmp}{d:T}(g:(mask>>>a)&&&1=0)(b:Env.get mask ⟨e,c⟩ a=some d):dL c a=some d:=by
 rw[Bx,ao dz]at b;exact b
def N7{b:List Oper}{g:Tmp}{i:Bool}{a:List Oper}{d c:fW}{h:H}(e:Nat)(n:(mask>>>g)&&&1=0)(m:Env.get mask ⟨d,c⟩ g=some (.bool i)):
 qQ cx cf mask b.toArray a d c h=XL i (qQ cx cf mask b.toArray (Dz e a) d (vf c g (.bool true)) h) (qQ cx cf mask b.toArray (Dz e a) d (vf c g (.bool false)) h) cx cf mask b.toArray (Lp e a):=by
 have j:=Lo n m;have:qQ cx cf mask b.toArray a d c h=dU (qQ cx cf mask b.toArray (Dz e a) d c h) λo=>two o λk l=>kA cx cf mask b.toArray (Lp e a) k l:=by
  show kA cx cf mask b.toArray a ⟨d,c⟩ h=_
  conv=>lhs;rw[<-NQ e a]
  exact tc _ _ _ _ _
 rw[this];cases i
 ·conv=>lhs;rw[<-tO j]
  rfl
 ·conv=>lhs;rw[<-tO j]
  rfl
def Rk(d:List Oper)(b:Tmp)(o:Bool)(a:Nat)(c:Bool)(g:aa Tmp)(j:Op)(l:ab)(k:String)(e:af Edge)(i:List Oper)(n m:fW)(h:H)(r:Bool)
 (s:(mask>>>b)&&&1=0) (p:(dU (d[a]?) λu=>u.dst)=some b) (q:Env.get mask ⟨n,m⟩ b=some (.bool o)) (t:r=(o==c)):
 G3 (some b) (some r) a c cx cf mask d.toArray g j l k e i n m h=
  XL o (qQ cx cf mask d.toArray (Dz a (⟨g,j,l,k,e,some (a,c)⟩::i)) n (vf m b (.bool true)) h) (qQ cx cf mask d.toArray (Dz a (⟨g,j,l,k,e,some (a,c)⟩::i)) n (vf m b (.bool false)) h) cx cf mask d.toArray (Lp a (⟨g,j,l,k,e,some (a,c)⟩::i)):=by
 subst t;rw[<-N7 a s q,G7,p,BO,p,dX,q,BN]
@[simp low] theorem adt (c:List Oper) (b:Tmp) (e:Bool) (a:Nat) (g:aa Tmp) (j:Op) (l:ab) (k:String) (d:af Edge) (i:List Oper) (n m:fW) (h:H)
 (q:(mask>>>b)&&&1=0) (o:(dU (c[a]?) λr=>r.dst)=some b) (p:Env.get mask ⟨n,m⟩ b=some (.bool e)):
 G3 (some b) (some e) a true cx cf mask c.toArray g j l k d i n m h=
  XL e (qQ cx cf mask c.toArray (Dz a (⟨g,j,l,k,d,some (a,true)⟩::i)) n (vf m b (.bool true)) h) (qQ cx cf mask c.toArray (Dz a (⟨g,j,l,k,d,some (a,true)⟩::i)) n (vf m b (.bool false)) h) cx cf mask c.toArray (Lp a (⟨g,j,l,k,d,some (a,true)⟩::i)):=
 Rk c b e a true g j l k d i n m h e q o p dA 
@[simp low] theorem adu (d:List Oper) (b:Tmp) (c:Bool) (a:Nat) (g:aa Tmp) (j:Op) (l:ab) (k:String) (e:af Edge) (i:List Oper) (n m:fW) (h:H)
 (q:(mask>>>b)&&&1=0) (o:(dU (d[a]?) λr=>r.dst)=some b) (p:Env.get mask ⟨n,m⟩ b=some (.bool !c)):
 G3 (some b) (some c) a false cx cf mask d.toArray g j l k e i n m h=
  XL (!c) (qQ cx cf mask d.toArray (Dz a (⟨g,j,l,k,e,some (a,false)⟩::i)) n (vf m b (.bool true)) h) (qQ cx cf mask d.toArray (Dz a (⟨g,j,l,k,e,some (a,false)⟩::i)) n (vf m b (.bool false)) h) cx cf mask d.toArray (Lp a (⟨g,j,l,k,e,some (a,false)⟩::i)):=
 Rk d b (!c) a false g j l k e i n m h c q o p (by cases c<;>rfl)
def G2(o:aa Tmp)(j:aa Bool)(m:Nat)(l:Bool)(cx:Ctx)(cf:iY)(mask:Nat)(e:af Oper)(b:aa Tmp)(d:Op)(p:ab)(n:String)(k:af Edge)(c:List Oper)(i g:fW)(h:H)(a:iM):Prop:=GK j cx cf mask e b d c i g h a
@[simp] theorem Nx (b:List Oper) (j:aa Tmp) (l:Op) (n:ab) (m:String) (i:af Edge) (a:Nat) (c:Bool) (k:List Oper) (e d:fW) (h:H) (g:iM):
 RK cx cf mask b.toArray (⟨j,l,n,m,i,some (a,c)⟩::k) e d h g=G2 (dU (b[a]?) λo=>o.dst) (kw b.toArray mask ⟨e,d⟩ (some (a,c))) a c cx cf mask b.toArray j l n m i k e d h g:=fg b.toArray j l n m i a c k e d h g
@[simp] theorem adv (n:aa Tmp) (l:Nat) (k:Bool) (i:af Oper) (d:aa Tmp) (g:Op) (o:ab) (m:String) (j:af Edge) (e:List Oper) (b a:fW) (h:H) (c:iM):G2 n (some true) l k cx cf mask i d g o m j e b a h c=XK (fin cf h (jp g cx mask ⟨b,a⟩ h)) cx cf mask i d e b a c:=id rfl
@[simp] theorem ab3 (n:aa Tmp) (k:Nat) (j:Bool) (d:af Oper) (b:aa Tmp) (l:Op) (o:ab) (m:String) (i:af Edge) (c:List Oper) (g e:fW) (h:H) (a:iM):G2 n (some false) k j cx cf mask d b l o m i c g e h a=XK (some (.undef,h)) cx cf mask d b c g e a:=by
 unfold XK;rw[zg];rfl
def BG(c:Bool)(g i:aa (Env×H))(cx:Ctx)(cf:iY)(mask:Nat)(d:af Oper)(e:List Oper)(b:iM):Prop:=
 (c=true->∃a h,g=some (a,h)/\RK cx cf mask d e a.vars a.tmps h b)/\(c=false->∃a h,i=some (a,h)/\RK cx cf mask d e a.vars a.tmps h b)
@[congr] theorem aca {b c:Bool} {i j k l:aa (Env×H)} {d:af Oper} {e g:List Oper} {a:iM} (m:b=c) (n:i=j) (o:k=l) (hr:e=g):BG b i k cx cf mask d e a=BG c j l cx cf mask d g a:=by rw[m,n,o,hr]
@[simp] theorem ae2 (c:Bool) (l j m k:fW) (h:H) (g:af Oper) (i:List Oper) (e:iM):BG c (some (⟨l,j⟩,h)) (some (⟨m,k⟩,h)) cx cf mask g i e=RK cx cf mask g i (Wb c l m) (Wb c j k) h e:=by
 unfold BG;apply propext;cases c
 ·constructor
  ·intro a;obtain⟨n,o,b,hr⟩:=a.2 rfl;simp only[ar,ay]at b;obtain⟨rfl,rfl⟩:=b;exact hr
  ·exact λa=>⟨λd=>by simp at d,λ_=>⟨_,_,rfl,a⟩⟩
 ·constructor
  ·intro a;obtain⟨n,o,b,hr⟩:=a.1 rfl;simp only[ar,ay]at b;obtain⟨rfl,rfl⟩:=b;exact hr
  ·exact λa=>⟨λ_=>⟨_,_,rfl,a⟩,λd=>by simp at d⟩
def XA(e:af Oper)(g q:List Oper)(j i:fW)(h:H)(k:iM):RK cx cf mask e (g++q) j i h k=∃l a,qQ cx cf mask e g j i h=some (l,a)/\RK cx cf mask e q l.vars l.tmps a k:=by
 apply propext;show(∃b a,kA cx cf mask e (g++q) ⟨j,i⟩ h=some (b,a)/\k.n ⟨b.vars,.nil⟩ a)↔_;rw[tc];constructor
 ·rintro⟨b,a,c,p⟩;obtain⟨⟨m,o⟩,d,c⟩:=dJ.1 c;exact⟨m,o,d,b,a,c,p⟩
 ·rintro⟨m,o,d,b,a,c,p⟩;have d:kA cx cf mask e g ⟨j,i⟩ h=some (m,o):=d;exact⟨b,a,by rw[d];exact c,p⟩
def Rl(j:List Oper)(l:Tmp)(p:Bool)(a:Nat)(b:Bool)(d:aa Tmp)(i:Op)(m:ab)(k:String)(c:af Edge)(g:List Oper)(o n:fW)(h:H)(q:iM)(v:Bool)
 (x:(mask>>>l)&&&1=0) (s:(dU (j[a]?) λz=>z.dst)=some l) (t:Env.get mask ⟨o,n⟩ l=some (.bool p)) (y:v=(p==b)):
 G2 (some l) (some v) a b cx cf mask j.toArray d i m k c g o n h q=
  BG p (qQ cx cf mask j.toArray (Dz a (⟨d,i,m,k,c,some (a,b)⟩::g)) o (vf n l (.bool true)) h) (qQ cx cf mask j.toArray (Dz a (⟨d,i,m,k,c,some (a,b)⟩::g)) o (vf n l (.bool false)) h) cx cf mask j.toArray (Lp a (⟨d,i,m,k,c,some (a,b)⟩::g)) q:=by
 subst y;have u:=Lo x t;have w:G2 (some l) (some (p==b)) a b cx cf mask j.toArray d i m k c g o n h q=RK cx cf mask j.toArray (⟨d,i,m,k,c,some (a,b)⟩::g) o n h q:=by
  rw[Nx,s,BO,s,dX,t,BN]
 rw[w]
 conv=>lhs;rw[<-NQ a (⟨d,i,m,k,c,some (a,b)⟩::g)]
 rw[XA];unfold BG;apply propext;cases p
 ·conv=>lhs;rw[<-tO u]
  exact⟨λe=>⟨λr=>by simp at r,λ_=>e⟩,λe=>e.2 rfl⟩
 ·conv=>lhs;rw[<-tO u]
  exact⟨λe=>⟨λ_=>e,λr=>by simp at r⟩,λe=>e.1 rfl⟩
@[simp low] theorem adw (c:List Oper) (b:Tmp) (e:Bool) (a:Nat) (g:aa Tmp) (j:Op) (l:ab) (k:String) (d:af Edge) (i:List Oper) (n m:fW) (h:H) (o:iM)
 (r:(mask>>>b)&&&1=0) (p:(dU (c[a]?) λs=>s.dst)=some b) (q:Env.get mask ⟨n,m⟩ b=some (.bool e)):
 G2 (some b) (some e) a true cx cf mask c.toArray g j l k d i n m h o=
  BG e (qQ cx cf mask c.toArray (Dz a (⟨g,j,l,k,d,some (a,true)⟩::i)) n (vf m b (.bool true)) h) (qQ cx cf mask c.toArray (Dz a (⟨g,j,l,k,d,some (a,true)⟩::i)) n (vf m b (.bool false)) h) cx cf mask c.toArray (Lp a (⟨g,j,l,k,d,some (a,true)⟩::i)) o:=
 Rl c b e a true g j l k d i n m h o e r p q dA 
@[simp low] theorem adx (d:List Oper) (b:Tmp) (c:Bool) (a:Nat) (g:aa Tmp) (j:Op) (l:ab) (k:String) (e:af Edge) (i:List Oper) (n m:fW) (h:H) (o:iM)
 (r:(mask>>>b)&&&1=0) (p:(dU (d[a]?) λs=>s.dst)=some b) (q:Env.get mask ⟨n,m⟩ b=some (.bool !c)):
 G2 (some b) (some c) a false cx cf mask d.toArray g j l k e i n m h o=
  BG (!c) (qQ cx cf mask d.toArray (Dz a (⟨g,j,l,k,e,some (a,false)⟩::i)) n (vf m b (.bool true)) h) (qQ cx cf mask d.toArray (Dz a (⟨g,j,l,k,e,some (a,false)⟩::i)) n (vf m b (.bool false)) h) cx cf mask d.toArray (Lp a (⟨g,j,l,k,e,some (a,false)⟩::i)) o:=
 Rl d b (!c) a false g j l k e i n m h o c r p q (by cases c<;>rfl)
def XM{c:Bool}{g i:aa (Env×H)}{d:af Oper}{e:List Oper}{b:iM}(j:c=true->∃a h,g=some (a,h)/\RK cx cf mask d e a.vars a.tmps h b)(k:c=false->∃a h,i=some (a,h)/\RK cx cf mask d e a.vars a.tmps h b):BG c g i cx cf mask d e b:=⟨j,k⟩
def Jt{a d e:Bool}{h:H}{b c:aa lN}(g:a=true->b=some (.val (.bool d) h))(i:a=false->c=some (.val (.bool e) h)):mZ (some (.bool a)) b c=some (.val (.bool (bif a then d else e)) h):=by
 cases a
 ·exact i rfl
 ·exact g rfl
@[simp] theorem acp (a b:aa lN):mZ (some (.bool true)) a b=a:=id rfl
@[simp] theorem aai (b a:aa lN):mZ (some (.bool false)) b a=a:=id rfl
@[simp] theorem aff (a b c:Bool) (h:H):mZ (some (.bool a)) (some (.val (.bool b) h)) (some (.val (.bool c) h))=some (.val (.bool (bif a then b else c)) h):=Jt (λ_=>rfl) (λ_=>rfl)
@[simp] theorem afe (a c d b:Bool) (h:H) (g:a=false->b=true):mZ (some (.bool a)) (some (.val (.bool c) h)) (some (.val (gT b (.bool d)) h))=some (.val (.bool (bif a then c else d)) h):=Jt (λ_=>rfl) (λe=>by rw[g e];rfl)
@[simp] theorem afd (a c d b:Bool) (h:H) (g:a=true->b=true):mZ (some (.bool a)) (some (.val (gT b (.bool c)) h)) (some (.val (.bool d) h))=some (.val (.bool (bif a then c else d)) h):=Jt (λe=>by rw[g e];rfl) (λ_=>rfl)
end
def km(th:aj->aa lf):Op->Bool
 | .move _| .assign _| .pick .. | .load .. | .nilCheck _| .unOp .. | .binOp .. | .fieldAddr .. | .field .. | .indexAddr .. | .index .. | .extract .. | .slice .. =>true
 | .call b=>(match b.callee with
  | .builtin a=>(match a with| .len| .min| .max=>true|_=>false)
  | .value c=>(match c with| .func f=>(th f).isNone|_=>false)
  |_=>false)
 |_=>false
section
variable {th:aj->aa lf}
@[simp] theorem acm (a:ah):km th (.move a)=true:=id rfl
@[simp] theorem XY (a:ah):km th (.assign a)=true:=id rfl
@[simp] theorem ack (a b c:ah):km th (.pick a b c)=true:=id rfl
@[simp] theorem acn (a:ab) (b:ah):km th (.load a b)=true:=id rfl
@[simp] theorem Uo (a:ah):km th (.nilCheck a)=true:=id rfl
@[simp] theorem acj (a:UnOp) (b:ab) (c:ah):km th (.unOp a b c)=true:=id rfl
@[simp] theorem aae (a:BinOp) (b:ab) (d e:ah) (c:ab):km th (.binOp a b d e c)=true:=id rfl
@[simp] theorem RT (a:ab) (b:ah) (f:Nat):km th (.fieldAddr a b f)=true:=id rfl
@[simp] theorem aab (a:ab) (b:ah) (f:Nat):km th (.field a b f)=true:=id rfl
@[simp] theorem RS (a:ab) (b c:ah):km th (.indexAddr a b c)=true:=id rfl
@[simp] theorem VH (b:ah) (a:Nat):km th (.extract b a)=true:=id rfl
@[simp] theorem aaa (d:ab) (e:ah) (a b c:aa ah):km th (.slice d e a b c)=true:=id rfl
@[simp] theorem aac (f:aj) (a:af ah) (b:af ab):km th (.call ⟨.value (.func f),a,b⟩)=(th f).isNone:=id rfl
@[simp] theorem adT (a:af ah) (b:af ab):km th (.call ⟨.builtin .len,a,b⟩)=true:=id rfl
@[simp] theorem adS (a:af ah) (b:af ab):km th (.call ⟨.builtin .min,a,b⟩)=true:=id rfl
@[simp] theorem aaf (a:ab):km th (.alloc a)=false:=id rfl
@[simp] theorem Z9 (a:ab) (b c:ah):km th (.store a b c)=false:=id rfl
@[simp] theorem aad (b:ab) (a:af (Nat×ah)):km th (.build b a)=false:=id rfl
@[simp] theorem Rw (c:ab) (a:Nat) (b:af (Nat×ah)):km th (.buildSlice c a b)=false:=id rfl
end
def Kp(th:aj->aa lf)(h:H)(e:aa lN):Prop:=∀a,e=some a->(∀d b,a= .val d b->b=h)/\∀f c,a= .call f c->th f=none
section
variable {th:aj->aa lf}{h:H}
def Kp.val(c:aa T):Kp th h (val h c):=by
 intro d a;obtain⟨e,_,a⟩:=dJ.1 a;simp only[ar]at a;subst a;exact⟨λ_ _ b=>by simp at b;exact b.2.symm,λ_ _ b=>by simp at b⟩
def Kp.one(a:T):Kp th h (some (.val a h)):=Kp.val (some a)
def Kp.none:Kp th h none:=by intro b a;simp at a
def Kp.dU{α:Type}{e:aa α}{f:α->aa lN}(d:∀a,Kp th h (f a)):Kp th h (dU e f):=by
 intro c b;obtain⟨a,_,b⟩:=dJ.1 b;exact d a c b
def Kp.gD{b:Bool}{a:aa lN}(e:Kp th h a):Kp th h (gD b a):=by
 intro c d;exact e c (dR.1 d).2
def VR{o:Op}(d:km th o=true)(cx:Ctx)(mask:Nat)(t:Env):Kp th h (jp o cx mask t h):=by
 cases o<;>first|(simp[km]at d;done)|skip
 case move x=>exact Kp.val _
 case assign x=>exact Kp.val _
 case pick m k l=>
  rw[Sq];unfold mZ;refine Kp.dU λa=> ?_;cases a<;>first|exact Kp.none|(rename_i b;cases b<;>exact Kp.val _)
 case load b k=>exact Kp.dU λ_=>Kp.dU λ_=>Kp.val _
 case nilCheck x=>exact Kp.dU λa=>by cases a<;>first|exact Kp.none|exact Kp.one _
 case unOp j b x=>exact Kp.dU λ_=>Kp.val _
 case binOp j b x q F=>
  cases j<;>first
   |exact Kp.dU λ_=>Kp.dU λ_=>Kp.val _
   |exact Kp.dU λ_=>Kp.dU λ_=>Kp.dU λ_=>Kp.gD (Kp.dU λ_=>Kp.val _)
 case fieldAddr b x f=>
  exact Kp.dU λv=>Kp.dU λa=>by
   cases a<;>first|exact Kp.none|exact Kp.dU λ_=>Kp.one _
 case field b x f=>
  exact Kp.dU λv=>Kp.dU λ_=>Kp.dU λa=>by
   cases a<;>first|exact Kp.none|exact Kp.dU λ_=>Kp.val _
 case indexAddr b x g=>
  exact Kp.dU λe=>Kp.dU λa=>Kp.dU λ_=>Kp.dU λg=>by
   cases e.u<;>first|exact Kp.none|(refine Kp.dU λy=> ?_;first
    |(cases a<;>first|exact Kp.none|exact Kp.dU λ_=>Kp.gD (Kp.one _)|exact Kp.gD (Kp.dU λ_=>Kp.gD (Kp.gD (Kp.dU λ_=>Kp.one _))))
    |(refine Kp.gD ?_;cases a<;>first|exact Kp.none|exact Kp.dU λ_=>Kp.one _|(refine Kp.dU λr=> ?_;cases Nat.beq r.sz y.size<;>first|exact Kp.dU λ_=>Kp.one _|exact Kp.gD (Kp.dU λ_=>Kp.one _))))
 case index b x g=>
  exact Kp.dU λe=>Kp.dU λa=>Kp.dU λ_=>Kp.dU λg=>by
   cases e.u<;>first|exact Kp.none|(cases a<;>first|exact Kp.none|exact Kp.dU λ_=>Kp.val _|exact Kp.dU λ_=>Kp.gD (Kp.dU λ_=>Kp.val _))
 case extract x g=>exact Kp.dU λa=>by cases a<;>first|exact Kp.none|exact Kp.val _
 case slice b x k l m=>exact Kp.dU λ_=>Kp.dU λ_=>Kp.gD (Kp.dU λ_=>Kp.dU λ_=>Kp.dU λ_=>Kp.gD (Kp.val _))
 rename_i m;obtain⟨s,z,E⟩:=m;cases s with
 |builtin l=>
  refine Kp.dU λn=> ?_;cases l<;>first
   |(simp[km]at d;done)
   |(match n with
    | []=>exact Kp.none
    | [x]=>first|exact Kp.none|(refine Kp.dU λb=>Kp.dU λe=> ?_;cases e.u<;>first|exact Kp.none|exact Kp.val _|(cases x<;>first|exact Kp.none|exact Kp.val _))
    | [x,q]=>first|exact Kp.val _|exact Kp.none
    |x::q::G::n=>exact Kp.none)
 |value j=>
  cases j with
  |func f=>
   have w:(th f).isNone=true:=d;refine Kp.dU λn=> ?_;intro B c;obtain⟨a,p,c⟩:=dJ.1 c;simp only[Mq,ar]at p;subst p;obtain⟨D,_,c⟩:=dJ.1 c;simp only[ar]at c;subst c;exact⟨λ_ _ i=>by simp at i,λC k i=>by simp at i;rw[<-i.1];simpa using w⟩
  |_=>simp[km]at d
 |_=>simp[km]at d
end
section
variable {P:ai}{cx:Ctx}{tb:fJ}{mask:Nat}
def P9{j:Op}(o:km tb.h j=true){e:Env}{h:H}{k:T}{c:H}(a:fin (qZ P cx tb) h (jp j cx mask e h)=some (k,c)):c=h:=by
 obtain⟨d,m,a⟩:=dJ.1 a;obtain⟨p,q⟩:=VR o cx mask e d m;rcases d with⟨t,r⟩|⟨f,b⟩
 ·simp only[ar,ay]at a;rw[<-a.2];exact p _ _ rfl
 ·have n:=q _ _ rfl;have a:qZ P cx tb f b h=some (k,c):=a;have g:hl P cx tb f b h=none:=by unfold hl;rw[n]
  rw[QB]at a;cases i:QX h b with
  |none=>rw[i,Qz,g]at a;simp at a
  |some l=>
   rw[i,Qy,g]at a;cases hr:rl P cx tb f l with
   |none=>rw[hr]at a;simp at a
   |some s=>
    rw[hr,QA]at a;split at a
    ·simp only[ar,ay]at a;exact a.2.symm
    ·simp at a
def Dq(j:af Oper)(l:List (Nat×Nat))(Q:fW->H->Prop):∀(i:List Oper) (g:Nat) (n:List (Nat×Nat)) (e:List (Nat×H×H)) (b a:fW) (h:H),(i.all λo=>km tb.h o.op)=true->(∀k∈e,k.2.1=k.2.2)->
 KA cx (qZ P cx tb) mask j l i g n e b a h Q=WR cx (qZ P cx tb) mask j i b a h Q
 | [],g,n,e,b,a,h,_,_=>by rw[LR,Re]
 |o::i,g,n,e,b,a,h,hp,q=>by
  simp only[cE,aB]at hp;rw[IH,GJ];unfold ym;cases kw j mask ⟨b,a⟩ o.guard with
  |none=>apply propext;constructor<;>(first|exact False.elim|(rintro⟨d,c,G,_⟩;simp[dU]at G))
  |some J=>
   rw[dX];cases J with
   |false=>
    rw[II,zg];congr 1;funext b a;exact Dq j l Q i _ n e b a h hp.2 q
   |true=>
    rw[LS];apply propext;have y:∀d c,fin (qZ P cx tb) h (jp o.op cx mask ⟨b,a⟩ h)=some (d,c)->
     ((DK cx mask l g n e o.op ⟨b,a⟩ h c λn e=>WD mask o.dst d b a λb a=>KA cx (qZ P cx tb) mask j l i (g+1) n e b a c Q)↔WD mask o.dst d b a λb a=>WR cx (qZ P cx tb) mask j i b a c Q):=by
     intro d c C;have D:=P9 hp.1 C;subst D;have E:∀p,mJ l g p e:=λp k hp _=>by rw[q k hp];exact Fc p
     have F:∀u v d,o.op≠ .store u v d:=λu v d m=>by have:=hp.1;rw[m]at this;simp[km]at this
     have x:∀t r,(∀k∈r,k.2.1=k.2.2)->((WD mask o.dst d b a λb a=>KA cx (qZ P cx tb) mask j l i (g+1) t r b a c Q)↔WD mask o.dst d b a λb a=>WR cx (qZ P cx tb) mask j i b a c Q):=by
      intro t r z;rw[show(λb a=>KA cx (qZ P cx tb) mask j l i (g+1) t r b a c Q)=λb a=>WR cx (qZ P cx tb) mask j i b a c Q from by funext b a;exact Dq j l Q i _ t r b a c hp.2 z]
     unfold DK;split
     ·rw[Kd];show(True/\_)/\(WD mask o.dst d b a λb a=>KA cx (qZ P cx tb) mask j l i (g+1) n (if lL l g=true then(g,c,c)::e else e) b a c Q)↔_;have B:∀k∈(if lL l g=true then(g,c,c)::e else e),k.2.1=k.2.2:=by
       split
       ·intro k hp;rcases List.mem_cons.1 hp with rfl|hp
        ·rfl
        ·exact q k hp
       ·exact q
      rw[x _ _ B];exact⟨λm=>m.2,λm=>⟨⟨trivial,λu v d p I=>absurd I (F u v d)⟩,m⟩⟩
     ·cases gG cx mask ⟨b,a⟩ c o.op with
      |none=>exact x _ _ q
      |some p=>simp only;rw[x _ _ q];exact⟨λm=>m.2,λm=>⟨E p,m⟩⟩
    show(∃d c,_/\_)↔∃d c,_/\_;constructor
    ·rintro⟨d,c,s,w⟩;exact⟨d,c,s,(y d c s).1 w⟩
    ·rintro⟨d,c,s,w⟩;exact⟨d,c,s,(y d c s).2 w⟩
@[simp high] theorem ado (a:List Oper) (d:List (Nat×Nat)) (b:fW) (h:H) (c:iM) (e:(a.all λi=>km tb.h i.op)=true):QK cx (qZ P cx tb) mask a (some d) b h c=RK cx (qZ P cx tb) mask a.toArray a b .nil h c:=
 Dq a.toArray d (λb h=>c.n ⟨b,.nil⟩ h) a 0 [] [] b .nil h e (λj g=>by simp at g)
end
def EQ(b:T):Prop:=∃a,b= .int .i64 a
@[simp] theorem acy (a:Int):EQ (.int .i64 a)=True:=by simp[EQ]
section
variable {P:ai}{cx:Ctx}{f:aj}{α:Type}{A:α->List T}{pre:α->Prop}{Q:α->T->Prop}
noncomputable abbrev nO.jv(_:nO P cx f A pre Q):hU:=wR P cx f A pre Q
def nO.use(c:nO P cx f A pre Q)(a:α)(b:pre a):∃d,Q a d/\∀{tb:fJ},tb.p f=some (wR P cx f A pre Q)->rl P cx tb f (A a)=some d:=⟨_,c.2 a b,λht=>im ht c.1 a b⟩
end
section
variable {P:ai}{cx:Ctx}{f:aj}{α γ:Type}{A:α->List T}{pre:α->Prop}
def nO.fnI(d:nO P cx f A pre (λ_=>EQ))(b:γ->α)(c:∀a,pre (b a)):∃e:γ->Int,∀{tb:fJ},tb.p f=some (wR P cx f A pre (λ_=>EQ))->∀a,rl P cx tb f (A (b a))=some (.int .i64 (e a)):=by
 refine⟨λa=>(d.2 (b a) (c a)).choose,λht a=> ?_⟩;exact(im ht d.1 (b a) (c a)).trans (bQ some (d.2 (b a) (c a)).choose_spec)
end
@[simp] theorem afz (a:iZ):ig 1 (hE.cons a)=True:=by simp;exact⟨dA,dA,dA⟩
@[simp] theorem afy (a b:iZ):ig 2 ((hE.cons a).cons b)=True:=by simp;exact⟨dA,dA,dA⟩
@[simp] theorem afx (b c d a:iZ):ig 4 ((((hE.cons b).cons c).cons d).cons a)=True:=by simp;exact⟨dA,dA,dA⟩
def ou(a:ak)(b c:Int):binop .add (.int a b) (.int a c)=some (.int a (a.wrap (b+c))):=by
 show gD (Dx a a) (pY a (b+c))=_;simp
def uu(a:ak)(b c:Int):binop .sub (.int a b) (.int a c)=some (.int a (a.wrap (b-c))):=by
 show gD (Dx a a) (pY a (b-c))=_;simp
def aaJ(a:ak)(b c:Int):binop .mul (.int a b) (.int a c)=some (.int a (a.wrap (b*c))):=by
 show gD (Dx a a) (pY a (b*c))=_;simp
def HV(c:T):Prop:=∃a b,c= .tuple [.int .i64 a,.int .i64 b]
@[simp] theorem acz (a b:Int):HV (.tuple [.int .i64 a,.int .i64 b])=True:=by simp[HV]
end
noncomputable section
section
variable {cx:Ctx}{mask:Nat}{e:Env}
@[simp] theorem V5 (a:ak) (b:Int):oh (.int a b)=some (.int a b):=id rfl
@[simp] theorem UI:oh (.slice none 0 0)=some (.dM [] false):=id rfl
@[simp] theorem V4 (a:ByteArray):oh (.string a)=some (.str (a.data.toList.map UInt8.toNat)):=ON (cx:=⟨λ_=>none,λ_=>none,λ_=>none⟩) (mask:=0) (e:=⟨.nil,.nil⟩) a
@[simp] theorem aal (a:List am):fP cx mask e (.const (.agg a.toArray))=dU (fN oh a) λb=>some (.agg b):=id rfl
end
@[simp] theorem QV (a:List T):dS (sl a)=none:=by cases a<;>rfl
@[simp] theorem oT1 (a:T):jK [a]=a:=id rfl
@[simp] theorem oT2 (a b:T) (c:List T):jK (a::b::c)= .tuple (a::b::c):=id rfl
@[simp] theorem oT0:jK []= .tuple []:=id rfl
@[simp] theorem aex (a:H):(hr a).low=a.size:=id rfl
@[simp] theorem VB (a:H) (d f:iZ) (b:Nat) (c:¬b=a.size):fc (a.cons d) (a.cons f) b=true:=by
 unfold fc;rw[dV,dV,ao c,ao c];cases a.get b<;>simp
def fk{h h':H}{b:Nat}(a:h'.get b=h.get b):fc h h' b=true:=by
 unfold fc;rw[a];cases h.get b<;>simp
def Fp(d:H)(b a:Nat):Prop:=a=b\/∃c,d.get b=some c/\∃f∈fw c.eY,dS f=some a
structure Step(w:Nat)(h h':H):Prop where
 ok:ig h.size h'
 get:∀b,b<h.size->¬Fp h w b->h'.get b=h.get b
 fp:∀b,Fp h' w b->Fp h w b\/h.size<=b
def iW{c d:H}{a:Nat}(f:d.get a=c.get a)(b:Nat):Fp d a b=Fp c a b:=by unfold Fp;rw[f]
def Step.refl{d:Nat}{a:H}(b:ig 0 a):Step d a a:=⟨⟨b.hp,b.low,au _⟩,λ_ _ _=>rfl,λ_ c=> .inl c⟩
def Step.trans{g:Nat}{h d i:H}(a:Step g h d)(c:Step g d i):Step g h i:=by
 refine⟨⟨c.ok.hp,c.ok.low,aS a.ok.sz c.ok.sz⟩,λb f j=> ?_,λb f=> ?_⟩
 ·have d:=a.get b f j;have:=a.ok.sz;rw[c.get b dz (λk=>(a.fp b k).elim j λk=>absurd k dz),d]
 ·rcases c.fp b f with k|k
  ·exact a.fp b k
  ·exact .inr (aS a.ok.sz k)
structure Lb(w:Nat)(h:H)(b:Nat)(x:iZ):Prop where
 get:h.get b=some x
 nf:¬Fp h w b
def Lb.lt{d:Nat}{b:H}{a:Nat}{f:iZ}(c:Lb d b a f):a<b.size:=H.ew c.get
def Lb.ne{a:Nat}{c:H}{b:Nat}{g:iZ}(f:Lb a c b g):b≠a:=λd=>f.nf (.inl d)
def Lb.step{d:Nat}{f g:H}{b:Nat}{i:iZ}(a:Lb d f b i)(h:Step d f g):Lb d g b i:=
 ⟨by rw[h.get b a.lt a.nf];exact a.get,λc=>(h.fp b c).elim a.nf λc=>absurd c (by have:=a.lt;omega)⟩
def Step.cons{w:Nat}{a:H}(d:ig 0 a)(i:w<a.size)(b:iZ):Step w a (a.cons b):=by
 have g:(a.cons b).get w=a.get w:=by rw[dV,ao dz]
 exact⟨⟨(d.cons b).hp,(d.cons b).low,dA⟩,λf h _=>by rw[dV,ao dz],λf c=>by rw[iW g]at c;exact .inl c⟩
def Lb.new{a:Nat}{h:H}(j:a<h.size)(g:∀b,Fp h a b->b<h.size)(c:iZ):Lb a (h.cons c) h.size c:=by
 have i:(h.cons c).get a=h.get a:=by rw[dV,ao dz]
 exact⟨dA,λd=>by rw[iW i]at d;have:=g _ d;omega⟩
def Step.sq{c:Nat}{b:H}(k:ig 0 b){a:Nat}{o:iZ}(h:Lb c b a o)(d:iZ)(g:H)(i:Step c g b)(p:g.size<=a):Step c g (dY b a d):=by
 have m:(dY b a d).get c=b.get c:=by rw[dP h.get,ao (bo h.ne)]
 refine⟨⟨(k.put a d).hp,(k.put a d).low,by rw[fU];exact i.ok.sz⟩,λf l n=> ?_,λf j=> ?_⟩
 ·rw[dP h.get,ao dz];exact i.get f l n
 ·rw[iW m]at j;exact i.fp f j
def Step.put{b:Nat}{a:H}(k:ig 0 a){x:iZ}(j:a.get b=some x)(d:iZ)(p:∀i∈fw d.eY,∀f,dS i=some f->Fp a b f\/a.size<=f):Step b a (dY a b d):=by
 refine⟨⟨(k.put b d).hp,(k.put b d).low,by rw[fU];exact au _⟩,λc q m=> ?_,λc h=> ?_⟩
 ·rw[dP j,ao (λh=>m (.inl h))]
 ·rcases h with rfl|⟨r,g,i,o,l⟩
  ·exact .inl (.inl rfl)
  ·rw[dP j,aq rfl]at g;simp only[ar]at g;subst g;exact p i o c l
def Step.Z8{c:Nat}{b:H}(h:ig 0 b){a:Nat}{n:iZ}(g:b.get a=some n)(j:Fp b c a)(l:a≠c)(f:iZ):Step c b (dY b a f):=by
 have m:(dY b a f).get c=b.get c:=by rw[dP g,ao (bo l)]
 refine⟨⟨(h.put a f).hp,(h.put a f).low,by rw[fU];exact au _⟩,λi o k=> ?_,λi d=> ?_⟩
 ·rw[dP g,ao (λd=>k (by rw[d];exact j))]
 ·rw[iW m]at d;exact .inl d
def Step.KU{f:Nat}{g c:H}(d:Step f g c){b:H}(h:∀a,b.get a=c.get a)(m:b.size=c.size)(j:ig 0 b):Step f g b:=
 ⟨⟨j.hp,j.low,by rw[m];exact d.ok.sz⟩,λa k l=>by rw[h];exact d.get a k l,λa i=>by rw[iW (h f)]at i;exact d.fp a i⟩
def Vb(b:H)(c a:Nat):Fp (hr b) c a=Fp b c a:=iW (gh b c) a
def Step.hr{f:Nat}{c d:H}(a:Step f (hr c) d):Step f c d:=
 ⟨⟨a.ok.hp,a.ok.low,a.ok.sz⟩,λb g h=>by rw[a.get b g (by rw[Vb];exact h),gh],λb i=>by have:=a.fp b i;rw[Vb]at this;exact this⟩
def ig.hr{b:Nat}{a:H}(c:ig b a):ig b (hr a):=⟨by rw[aba];exact c.hp,au _,c.sz⟩
def Gr(h:H)(d:T)(i:Nat)(a:List T):Prop:=
 (d= .dM [] false/\a=[])\/∃b c j g f,d= .arr b c 0 a.length false/\h.get b=some ⟨i,c,j,g,false,f⟩/\f.take a.length=a
def Gr.nil(a:H)(b:Nat):Gr a (.dM [] false) b []:= .inl ⟨rfl,rfl⟩
def Gr.il{d:H}{a:T}{f:Nat}{b:List T}(c:Gr d a f b):a.il=true:=by
 rcases c with⟨rfl,_⟩|⟨g,h,j,i,k,rfl,_⟩<;>rfl
def Gr.cells{d:H}{a:T}{f:Nat}{b:List T}(c:Gr d a f b):a.cells=[a]:=by
 rcases c with⟨rfl,_⟩|⟨g,h,j,i,k,rfl,_⟩<;>rfl
def Gr.mono{d h':H}{b:T}{f:Nat}{c:List T}(i:Gr d b f c)(l:∀a,dS b=some a->h'.get a=d.get a):Gr h' b f c:=by
 rcases i with⟨rfl,rfl⟩|⟨a,g,m,h,n,rfl,j,k⟩
 ·exact .inl ⟨rfl,rfl⟩
 ·exact .inr ⟨a,g,m,h,n,rfl,by rw[l a rfl];exact j,k⟩
def Gr.box{j:H}{f:T}{k:Nat}{i:List T}(l:Gr j f k i){b:Nat}(d:dS f=some b):∃a g c h,j.get b=some ⟨k,a,g,c,false,h⟩/\f= .arr b a 0 i.length false:=by
 rcases l with⟨rfl,_⟩|⟨n,a,g,c,h,rfl,m,o⟩
 ·simp at d
 ·simp only[wO,ar]at d;subst d;exact⟨a,g,c,h,m,rfl⟩
def Gr.ne{c:H}{g h:T}{d f:Nat}{i wU:List T}(j:Gr c g d i)(k:Gr c h f wU)(m:d≠f):∀b,dS g=some b->dS h≠some b:=λb l n=>by
 obtain⟨_,_,_,_,o,_⟩:=j.box l;obtain⟨_,_,_,_,a,_⟩:=k.box n;rw[o]at a;simp at a;exact m a.1
def Gr.jf{b:H}{d:T}{h:Nat}{a:List T}(f:Gr b d h a):b.jf d=some a:=by
 rcases f with⟨rfl,rfl⟩|⟨j,k,m,l,i,rfl,g,c⟩
 ·rfl
 ·have hl:a.length<=i.length:=by have:=bQ List.length c;rw[List.length_take]at this;omega
  rw[gH,g];simp[hl,c]
def Gr.len{cx:Ctx}{h:H}{f:T}{i:Nat}{a:List T}(g:Gr h f i a)(b:H)(d:Ty)(j:ab)(c:d.u= .slice j):DJ cx b d f=some (.val (.int .i64 a.length) b):=by
 rcases g with⟨rfl,rfl⟩|⟨k,l,p,m,q,rfl,n,o⟩
 ·exact EN _ _ _ _ c
 ·rw[PT _ _ _ _ _ _ _ c]
def Gr.JS{f:H}{k:T}{j:Nat}{b:List T}(o:Gr f k j b){te:Ty}(q:te.size=j){i:Nat}(g:i<b.length):∃a d l h c,dS k=some a/\kK f te k i=some (.val (.ptr a d i 0) f)/\f.get a=some ⟨j,d,l,h,false,c⟩/\c[i]? =some b[i]:=by
 rcases o with⟨rfl,rfl⟩|⟨a,d,l,h,c,rfl,m,p⟩
 ·simp at g
 ·refine⟨a,d,l,h,c,rfl,?_,m,?_⟩
  ·rw[PZ,m];simp[g,q]
  ·have n:(c.take b.length)[i]? =b[i]? :=by rw[p]
   rw[bO,aq g,az g]at n;exact n
def Gr.qJ{a:H}{d:T}{l:Nat}{h:Type}{f:h->T}{b:List h}(c:Gr a d l (b.map f))(j:∀g,xi a 11 (f g)=some (f g)):TI.qJ a d=some (sl (b.map f)):=by
 have k:=c.jf;rcases c with⟨rfl,i⟩|⟨m,n,r,o,s,rfl,p,q⟩
 ·rw[i];rfl
 ·rw[Gb,vX,k,dX,Cu _ _ _ j];rfl
def Gr.cut{cx:Ctx}{b:H}{i:T}{h:Nat}{a:List T}(m:Gr b i h a){ty te:Ty}{f:ab}(r:ty.u= .slice f)(ht:cx.ty f=some te)(q:te.size=h){n:Nat}(c:n<=a.length)(p:0<a.length):
 ∃j,KR cx b ty i none (some n) none=some (.val j b)/\Gr b j h (a.take n)/\dS j=dS i:=by
 rcases m with⟨rfl,rfl⟩|⟨d,g,s,l,t,rfl,k,o⟩
 ·simp at p
 ·refine⟨.arr d g 0 n false,KQ ty te f d g 0 a.length n false _ r ht k (by simp[q]) c,.inr ⟨d,g,s,l,t,by rw[List.length_take,cA c],k,?_⟩,rfl⟩;rw[List.length_take,cA c,<-o,List.take_take,cA c]
def Bl(c:H)(h:T)(j:Nat)(g:List T)(k:T)(d:H):Prop:=∃a f l i,k= .arr a f 0 g.length false/\d.get a=some ⟨j,f,l,i,false,g⟩/\
 (dS h=some a\/(dS h=none/\a=c.size))/\(∀b,b≠a->b<c.size->d.get b=c.get b)/\ig c.size d
def Bl.gr{j:H}{l:T}{c:Nat}{a:List T}{d:T}{b:H}(f:Bl j l c a d b):Gr b d c a:=by
 obtain⟨g,h,m,i,rfl,k,_⟩:=f;exact .inr ⟨g,h,m,i,a,rfl,k,aO⟩
def Bl.set{i:H}{n:T}{d b c h:Nat}{f:Bool}{a:List T}{g:H}(p:Bl i n d a (.arr b c 0 a.length false) g)(l:g.get b=some ⟨d,c,h,f,false,a⟩)(m:Nat)(o:T):
 Bl i n d (a.set m o) (.arr b c 0 a.length false) (dY g b ⟨d,c,h+1,f,false,a.set m o⟩):=by
 obtain⟨u,v,y,w,j,x,r,s,t⟩:=p;simp only[T.arr.injEq,and_true]at j;obtain⟨rfl,rfl⟩:=j;exact⟨b,c,h+1,f,by rw[cS],by rw[dP l,aq rfl],r,λq k hl=>by rw[dP l,ao k];exact s q k hl,t.put _ _⟩
def Gr.app{cx:Ctx}{a:H}{j:T}{f:Nat}{d:List T}(E:Gr a j f d)(l:ig 0 a){r s m:ab}{A B g:Ty}(F:cx.ty r=some A)(G:A.u= .slice m)(I:cx.ty m=some g)(J:cx.ty s=some B)(K:B.u= .slice m)(y:g.size=f)(w:1<=g.bytes)
 {x:T} {xs:List T} (N:a.jf x=some xs) (q:∀e∈xs,e.cells.length=f) (M:xs≠ []) (p:(d.length+xs.length)*g.bytes<=70368744177664):
 ∃C v,iO cx a r s j x=some (.val C v)/\Bl a j f (d++xs) C v:=by
 have L:iO cx a r s j x=jA (a.append g.size g.bytes j xs):=by
  unfold iO pM mV;rw[F,dX,J,dX];simp only[G,I,K,N,dX];rw[y,my q,iu]
 rw[L,y];obtain⟨b,c,rfl⟩:∃b c,xs=b::c:=by cases xs with|nil=>exact absurd rfl M|cons b c=>exact⟨b,c,rfl⟩
 rcases E with⟨rfl,rfl⟩|⟨h,i,t,Q,O,rfl,k,z⟩
 ·refine⟨_,a.cons ⟨f,0,0,false,false,b::c⟩,?_,a.size,0,0,false,rfl,dA,.inr ⟨rfl,rfl⟩,λD o _=>by rw[dV,ao o],(l.cons _).hp,(l.cons _).low,dA⟩;show jA (a.jc f g.bytes [] (b::c))=_;rw[o8 q w (by simpa using p)];rfl
 ·refine⟨.arr h (i+1) 0 (d++b::c).length false,dY a h ⟨f,i+1,t+1,false,false,d++b::c⟩,?_,h,i+1,t+1,false,rfl,by rw[dP k,aq rfl],.inl rfl,λD o _=>by rw[dP k,ao o],(l.put _ _).hp,(l.put _ _).low,by rw[fU];exact au _⟩;show jA (a.mB f g.bytes h i d.length (b::c))=_;have hl:d.length<=O.length:=by have:=bQ List.length z;rw[List.length_take]at this;omega
  have:a.mB f g.bytes h i d.length (b::c)=some (.arr h (i+1) 0 (d++b::c).length false,dY a h ⟨f,i+1,t+1,false,false,d++b::c⟩):=by
   unfold H.mB;rw[k];simp only[dX,nR,hl,bh,z,pT,jE,iE,my q,yv k];simp at p;simp[w,p,aT]
  rw[this];rfl
def Xt(b:H)(d:T)(h:Nat)(g:List T)(f:T)(c:H):Prop:=Gr c f h g/\(∀a,a<b.size->dS d≠some a->c.get a=b.get a)/\(∀a,dS f=some a->dS d=some a\/b.size<=a)/\ig b.size c
def Bl.xt{g:H}{k:T}{j:Nat}{f:List T}{l:T}{h:H}(d:Bl g k j f l h):Xt g k j f l h:=by
 have n:=d.gr;obtain⟨m,r,u,e,rfl,s,a,o,p⟩:=d;refine⟨n,λc b q=> ?_,λc b=> ?_,p⟩
 ·by_cases i:c=m
  ·subst i;rcases a with a|⟨_,a⟩
   ·exact absurd a q
   ·omega
  ·exact o c i b
 ·simp only[wO,ar]at b;subst b;exact a.imp id λt=>by omega
def Xt.refl{a:H}{b:T}{f:Nat}{c:List T}(g:Gr a b f c)(d:ig 0 a):Xt a b f c b a:=⟨g,λ_ _ _=>rfl,λ_ h=> .inl h,d.hp,d.low,au _⟩
def Xt.trans{f g h:H}{j l m:T}{d:Nat}{s wU:List T}(n:Xt f j d s l g)(o:Xt g l d wU m h):Xt f j d wU m h:=by
 obtain⟨_,a2,a3,a4⟩:=n;obtain⟨p,q,r,b⟩:=o;have:=a4.sz;refine⟨p,λa c i=> ?_,λa c=> ?_,b.hp,b.low,aS a4.sz b.sz⟩
 ·rw[q a dz (λk=>(a3 a k).elim i (λt=>by omega)),a2 a c i]
 ·rcases r a c with k|k
  ·exact a3 a k
  ·exact .inr dz 
def Xt.cons{c d:H}{g h:T}{f:Nat}{b:List T}(i:Xt c g f b h d)(a:iZ):Xt c g f b h (d.cons a):=by
 obtain⟨a1,a2,a3,a4⟩:=i;have:=a4.sz;refine⟨a1.mono λo k=> ?_,λj l m=> ?_,a3,(a4.cons a).hp,(a4.cons a).low,(a4.cons a).sz⟩
 ·obtain⟨_,_,_,_,n,_⟩:=a1.box k;have:=H.ew n;rw[dV,ao dz]
 ·rw[dV,ao dz];exact a2 j l m
def wD{b:Nat}{d f:H}{l s:T}{y w F i:Nat}{C:Bool}{G:List T}{o:List T}(bi:ig 0 d)(X:∀a,Fp d b a->a<d.size)(p:d.get b=some ⟨w,0,F,C,false,[.agg o]⟩)(ap:o[i]? =some l)(an:y≠w)
 {W:List T} (ae:Gr d l y W) (Z:Xt d l y G s f):f.get b=d.get b/\∀h,h=(⟨w,0,F+1,C,false,[.agg (o.set i s)]⟩:iZ)->
  Step b d (dY f b h)/\(∀a,Fp (dY f b h) b a->a<(dY f b h).size)/\Gr (dY f b h) s y G/\
   ∀t A wU,t∈o->Gr d t A wU->(∀a,dS l=some a->dS t≠some a)->A≠w->Gr (dY f b h) t A wU/\∀a,dS s=some a->dS t≠some a:=by
 have aA:=H.ew p;have R:l∈o:=ax ap;obtain⟨J,E,U,Y⟩:=Z;have M:∀a,dS l=some a->a≠b:=λa c k=>by
  subst k;obtain⟨_,_,_,_,q,_⟩:=ae.box c;rw[p]at q;simp at q;exact an q.1.symm
 have a7:Step b d f/\f.get b=d.get b/\(∀a,dS s=some a->a≠b/\(dS l=some a\/d.size<=a))/\(∀a,a≠b->dS l≠some a->a<d.size->f.get a=d.get a):=by
  have S:f.get b=d.get b:=E b aA λq=>M b q rfl;refine⟨⟨Y,λn m x=>E n m λq=>x (.inr ⟨_,p,l,by simpa[fw,T.cells]using R,q⟩),λn m=>by rw[iW S]at m;exact .inl m⟩,S,λn m=>⟨?_,U n m⟩,λn _ m hl=>E n hl m⟩;rcases U n m with q|q
  ·exact M n q
  ·omega
 obtain⟨v,I,B,aN⟩:=a7;refine⟨I,λh aE=> ?_⟩;have u:f.get b=some ⟨w,0,F,C,false,[.agg o]⟩:=I.trans p;have Q:(dY f b h).get b=some h:=by rw[dP u,aq rfl]
 have L:∀g∈fw h.eY,g∈o\/g=s:=by
  intro g j;subst aE;simp only[fw,aQ,cj,bL,T.cells]at j;exact cg j
 have O:∀g∈o,∀a,dS g=some a->Fp d b a:=λg j a c=> .inr ⟨_,p,g,by simpa[fw,T.cells]using j,c⟩;have a6:Step b d (dY f b h):=by
  have V:ig 0 f:=⟨v.ok.hp,v.ok.low,aw _⟩;refine⟨⟨(V.put b h).hp,(V.put b h).low,by rw[fU];exact v.ok.sz⟩,λa c x=> ?_,λa c=> ?_⟩
  ·rw[dP u,ao (λk=>x (.inl k))];exact v.get a c x
  ·rcases c with rfl|⟨z,r,g,j,c⟩
   ·exact .inl (.inl rfl)
   ·rw[Q]at r;simp only[ar]at r;subst r;rcases L g j with j|rfl
    ·exact .inl (O g j a c)
    ·rcases(B a c).2 with q|q
     ·exact .inl (O l R a q)
     ·exact .inr dz
 have av:∀a,dS s=some a->a<f.size:=λa c=>by obtain⟨_,_,_,_,q,_⟩:=J.box c;exact H.ew q
 refine⟨a6,λa c=> ?_,?_,λt A wU a8 D N al=>⟨?_,λa c k=> ?_⟩⟩
 ·rw[fU];rcases c with rfl|⟨z,r,g,j,c⟩
  ·exact H.ew u
  ·rw[Q]at r;simp only[ar]at r;subst r;rcases L g j with j|rfl
   ·have:=X a (.inr ⟨_,p,g,by simpa[fw,T.cells]using j,c⟩);have:d.size<=f.size:=v.ok.sz;omega
   ·exact av a c
 ·exact J.mono λa c=>by rw[dP u,ao (B a c).1]
 ·refine D.mono λa c=> ?_;obtain⟨_,_,_,_,q,_⟩:=D.box c;have K:a≠b:=λk=>by subst k;rw[p]at q;simp at q;exact al q.1.symm
  rw[dP u,ao K];exact aN a K (λk=>N a k c) (H.ew q)
 ·rcases(B a c).2 with q|q
  ·exact N a q k
  ·obtain⟨_,_,_,_,aX,_⟩:=D.box k;have:=H.ew aX;omega
section
variable {P:ai}{cx:Ctx}{tb:fJ}{mask:Nat}
def abP{f:aj}{a:lf}{d:List T}{g:H}{l:af Oper}{j:aa Tmp}{k:List Oper}{n m:fW}{i:iM}(o:a.Ok P cx f)(ht:tb.h f=some a)(p:a.pre d g)
 (r:∀c b,a.post d g c b->XK (some (c,b)) cx (qZ P cx tb) mask l j k n m i):XK (hl P cx tb f d g) cx (qZ P cx tb) mask l j k n m i:=by
 obtain⟨c,b,e,q⟩:=ET ht o p;rw[e];exact r c b q
def XJ{g:aj}{b:lf}{f:List T}{a:H}{q:af Oper}{j:List (Nat×Nat)}{k:aa Tmp}{p:Op}{n:List Oper}{m:Nat}{o:List (Nat×Nat)}{l:List (Nat×H×H)}{s r:fW}{i:iM}(t:b.Ok P cx g)(ht:tb.h g=some b)(u:b.pre f a)
 (w:∀d c,b.post f a d c->Rq (some (d,c)) cx (qZ P cx tb) mask q j k p n m o l s r a i):Rq (hl P cx tb g f a) cx (qZ P cx tb) mask q j k p n m o l s r a i:=by
 obtain⟨d,c,e,v⟩:=ET ht t u;rw[e];exact w d c v
def hlB{c:aj}{d:lf}(m:d.Ok P cx c)(n:∀b a g f,d.post b a g f->f=a/\ER g):∃k:List T->H->Bool,∀{tb:fJ},tb.h c=some d->∀b a,d.pre b a->hl P cx tb c b a=some (.bool (k b a),a):=by
 let i:fJ:=⟨λ_=>none,λ_=>some d⟩
 refine⟨λb a=>match hl P cx i c b a with|some (.bool j,_)=>j|_=>false,λ{tb} ht b a o=> ?_⟩;have l:hl P cx tb c b a=hl P cx i c b a:=by unfold hl;rw[ht]
 obtain⟨g,f,e,p⟩:=ET (tb:=i) rfl m o;obtain⟨rfl,j,rfl⟩:=n _ _ _ _ p;rw[l];simp only[e]
def hlI{c:aj}{d:lf}(m:d.Ok P cx c)(n:∀b a g f,d.post b a g f->f=a/\EQ g):∃k:List T->H->Int,∀{tb:fJ},tb.h c=some d->∀b a,d.pre b a->hl P cx tb c b a=some (.int .i64 (k b a),a):=by
 let i:fJ:=⟨λ_=>none,λ_=>some d⟩
 refine⟨λb a=>match hl P cx i c b a with|some (.int _ j,_)=>j|_=>0,λ{tb} ht b a o=> ?_⟩;have l:hl P cx tb c b a=hl P cx i c b a:=by unfold hl;rw[ht]
 obtain⟨g,f,e,p⟩:=ET (tb:=i) rfl m o;obtain⟨rfl,j,rfl⟩:=n _ _ _ _ p;rw[l];simp only[e]
end
def lO(b a:H):H:=⟨a.size,if a.low<b.low then a.low else b.low,a.fx⟩
def fO(c b:H)(a:Nat):(lO c b).get a=b.get a:=H.rC b _ a
@[simp] theorem wB (b a:H):(lO b a).size=a.size:=id rfl
def ig.out{c:Nat}{b:H}(a:ig c b)(h:H):ig c (lO h b):=⟨a.hp,by have:=a.low;unfold lO;simp only;split<;>omega,a.sz⟩
def Step.out{c:Nat}{h a:H}(b:Step c (TI.hr h) a):Step c h (lO h a):=b.hr.KU (fO h a) rfl ⟨(b.ok.out h).hp,(b.ok.out h).low,aw _⟩
def Gr.out{a:H}{d:T}{c:Nat}{b:List T}(g:Gr a d c b)(h:H):Gr (lO h a) d c b:=g.mono λf _=>fO h a f
def jw(ι:Type)(pre:ι->List T->H->Prop)(post:ι->List T->H->T->H->Prop):lf:=⟨λa b=>∃c,pre c a b,λa b f d=>∀c,pre c a b->post c a b f d⟩
section
variable {P:ai}{cx:Ctx}{mask:Nat}{ι:Type}{pre:ι->List T->H->Prop}{post:ι->List T->H->T->H->Prop}
def jo{tb:fJ}(I:P.follows .mixedOrders=true)(ja:jg P cx){s:aj}{d:Func}{r:DL}(k:GM P cx s d mask r)(l:List T->H->Nat)(J:∀c p a,pre c p a->p.length<=d.ntmps)
 (O:∀c b a,pre c b a->∀y,nM y 0 b->W (jB cx (qZ P cx tb) (l b a) mask r (d.body.getD .skip) ⟨y,.nil⟩ (hr a)) (CC cx mask d.results.toList λn C=>post c b a (jK n) (lO a C))):(jw ι pre post).Ok P cx s:=by
 intro b a ⟨R,K⟩;have w:∀c,pre c b a->∃i h,sX cx (qZ P cx tb) (l b a) d mask true b a=some (i,h)/\post c b a i h:=by
  intro c j;obtain⟨x,N,_,E⟩:=mF mask d.ntmps 0 b (J c b a j);obtain⟨V,e,t,g,Q,n,L,m⟩:=Dm (O c b a j x E);have g:=qm _ k.dr _ _ _ g;obtain⟨A,f⟩:=zd k.ok;rw[f]at g;refine⟨_,_,?_,m⟩;unfold sX;rw[f];obtain⟨o,v,q⟩:=a;simp only;rw[N,dX];have g:j4 cx (qZ P cx tb) (l b ⟨o,v,q⟩) mask A ⟨x,.nil⟩ ⟨o,o,q⟩=some (V,e,t):=g;rw[g,dX,kS];have M:=oK L;have G:=vQ v (jK n) t;rcases Q with rfl|rfl<;>(simp only;rw[M,dX];exact G)
 obtain⟨i,h,u,_⟩:=w R K;refine⟨i,h,λc j=> ?_,λz U X B S D=>pF (F:=⟨d,mask,true,none⟩) I ja k.at_ k.ok _ (C9 P cx tb) (l b a) b a i h u z U X B S D⟩;obtain⟨Z,Y,f,m⟩:=w c j;rw[u]at f;simp only[ar,ay]at f;rw[f.1,f.2];exact m
def iq{tb:fJ}{f:aj}{d:List T}{g:H}{m:af Oper}{j:aa Tmp}{l:List Oper}{o n:fW}{i:iM}(p:(jw ι pre post).Ok P cx f)(ht:tb.h f=some (jw ι pre post))(b:ι)(k:pre b d g)
 (r:∀c a,post b d g c a->XK (some (c,a)) cx (qZ P cx tb) mask m j l o n i):XK (hl P cx tb f d g) cx (qZ P cx tb) mask m j l o n i:=
 abP p ht ⟨b,k⟩ λc a q=>r c a (q b k)
def li{tb:fJ}{g:aj}{f:List T}{a:H}{r:af Oper}{j:List (Nat×Nat)}{k:aa Tmp}{q:Op}{o:List Oper}{n:Nat}{p:List (Nat×Nat)}{l:List (Nat×H×H)}{t s:fW}{i:iM}(u:(jw ι pre post).Ok P cx g)(ht:tb.h g=some (jw ι pre post))(c:ι)(m:pre c f a)
 (w:∀d b,post c f a d b->Rq (some (d,b)) cx (qZ P cx tb) mask r j k q o n p l t s a i):Rq (hl P cx tb g f a) cx (qZ P cx tb) mask r j k q o n p l t s a i:=
 XJ u ht ⟨c,m⟩ λd b v=>w d b (v c m)
def uY(g:ι->Nat){f:aj}(step:∀b,(jw ι (λa d c=>pre a d c/\g a<b) post).Ok P cx f->(jw ι (λa d c=>pre a d c/\g a<b+1) post).Ok P cx f)(b:Nat):(jw ι (λa d c=>pre a d c/\g a<b) post).Ok P cx f:=by
 induction b with
 |zero=>intro j c ⟨a,_,h⟩;exact absurd h (Nat.not_lt_zero _)
 |succ b i=>exact step b i
end
def Bt{f l r:Nat}{o:Bool}{d:H}{m cells':List T}(z:ig 0 d)(u:∀b,Fp d f b->b<d.size)(g:d.get f=some ⟨l,0,r,o,false,[.agg m]⟩)(w:∀a∈cells',a∈m\/dS a=none\/∃q∈m,dS a=dS q):
 ∀h,h=(⟨l,0,r+1,o,false,[.agg cells']⟩:iZ)->Step f d (dY d f h)/\(∀b,Fp (dY d f h) f b->b<(dY d f h).size)/\(dY d f h).get f=some h/\∀a j n,Gr d a j n->j≠l->Gr (dY d f h) a j n:=by
 rintro h rfl;have t:∀a∈cells',∀b,dS a=some b->Fp d f b:=λa i b c=>by
  rcases w a i with k|k|⟨q,y,k⟩
  ·exact .inr ⟨_,g,a,by simpa[fw,T.cells]using k,c⟩
  ·rw[k]at c;simp at c
  ·exact .inr ⟨_,g,q,by simpa[fw,T.cells]using y,by rw[<-k];exact c⟩
 have A:=Step.put z g ⟨l,0,r+1,o,false,[.agg cells']⟩ (λa i b c=> .inl (t a (by simpa[fw,T.cells]using i) b c));refine⟨A,λb c=> ?_,by rw[dP g,aq rfl],λa j n s x=>s.mono λb v=> ?_⟩
 ·rw[fU];rcases c with rfl|⟨B,p,a,i,c⟩
  ·exact H.ew g
  ·rw[dP g,aq rfl]at p;simp only[ar]at p;subst p;exact u b (t a (by simpa[fw,T.cells]using i) b c)
 ·obtain⟨_,_,_,_,c,_⟩:=s.box v;rw[dP g,ao (λk=>by subst k;rw[g]at c;simp at c;exact x c.1.symm)]
def XH(c:H)(d:Nat)(a:T×aa (Nat×List T)):Prop:=match a.2 with
 |none=>dS a.1=none
 |some b=>Gr c a.1 b.1 b.2/\b.1≠d
structure nW(h:H)(w szw ver:Nat)(F:List (T×aa (Nat×List T))):Prop where
 ok:ig 0 h
 get:h.get w=some ⟨szw,0,ver,true,false,[.agg (F.map (·.1))]⟩
 SI:∀f∈F,XH h szw f
 UW:∀(j k:Nat),j≠k->∀a b,F[j]? =some a->F[k]? =some b->∀c,dS a.1=some c->dS b.1≠some c
def nW.lt{a:H}{b f g:Nat}{c:List (T×aa (Nat×List T))}(d:nW a b f g c):b<a.size:=H.ew d.get
def nW.fp{b:H}{h m n:Nat}{i:List (T×aa (Nat×List T))}(f:nW b h m n i):∀a,Fp b h a->a<b.size:=by
 rintro a (rfl|⟨p,d,o,g,c⟩)
 ·exact f.lt
 rw[f.get]at d;simp only[ar]at d;subst d;simp only[fw,aQ,cj,bL,T.cells]at g;obtain⟨j,k,rfl⟩:=List.mem_map.1 g;have:=f.SI j k;unfold XH at this;split at this
 ·rw[this]at c;simp at c
 ·obtain⟨_,_,_,_,l,_⟩:=this.1.box c;exact H.ew l
def nW.gr{c:H}{l j k:Nat}{a:List (T×aa (Nat×List T))}(i:nW c l j k a){f:T}{d:Nat}{b:List T}(h:Nat)(g:a[h]? =some (f,some (d,b))):Gr c f d b:=(i.SI _ (ax g)).1
def nW.By{c:H}{d j k:Nat}{a:List (T×aa (Nat×List T))}(i:nW c d j k a){f:T×aa (Nat×List T)}(h:f∈a){b:Nat}(g:dS f.1=some b):Fp c d b:= .inr ⟨_,i.get,f.1,by simp only[fw,aQ,cj,bL,T.cells];exact List.mem_map_of_mem h,g⟩
def nW.step{d f:H}{c j k:Nat}{g:List (T×aa (Nat×List T))}(b:nW d c j k g)(n:ig 0 f)(i:∀a,Fp d c a->f.get a=d.get a):nW f c j k g:=by
 refine⟨n,by rw[i c (.inl rfl)];exact b.get,λl h=> ?_,b.UW⟩;have:=b.SI l h;unfold XH at this|-;split at this
 ·exact this
 ·exact⟨this.1.mono λa m=>i a (b.By h m),this.2⟩
def nW.cons{c:H}{w d f:Nat}{b:List (T×aa (Nat×List T))}(a:nW c w d f b)(g:iZ):nW (c.cons g) w d f b:=a.step (a.ok.cons g) λh i=>by rw[dV,ao (by have:=a.fp h i;omega)]
def nW.sq{b:H}{c h i:Nat}{d:List (T×aa (Nat×List T))}(f:nW b c h i d){a:Nat}{m:iZ}(g:Lb c b a m)(j:iZ):nW (dY b a j) c h i d:=f.step (f.ok.put a j) λn k=>by rw[dP g.get,ao (λl=>g.nf (by rw[<-l];exact k))]
def nW.Z0{t i:H}{f j q o:Nat}{k:List (T×aa (Nat×List T))}(v:nW t f j q k)(l:T×aa (Nat×List T)){m:iZ}(D:m=⟨j,0,q+1,true,false,[.agg ((k.set o l).map (·.1))]⟩)(B:i.get f=t.get f)(E:ig 0 i)
 (A:XH (dY i f m) j l) (n:∀(d:Nat) h,d≠o->k[d]? =some h->XH (dY i f m) j h/\(∀g,dS l.1=some g->dS h.1≠some g)):nW (dY i f m) f j (q+1) (k.set o l):=by
 have C:=B.trans v.get;refine⟨E.put _ _,by rw[dP C,aq rfl,D],λh z=> ?_,λd w u r s b a g=> ?_⟩
 ·obtain⟨d,c⟩:=cT z;rw[bW]at c;split at c
  ·split at c
   ·simp only[ar]at c;subst c;exact A
   ·simp at c
  ·exact(n d h dz c).1
 ·rw[bW]at b a;split at b
  ·rename_i p;subst p;split at b
   ·simp only[ar]at b;subst b;rw[ao dz]at a;exact(n w s (bo u) a).2 g
   ·simp at b
  ·split at a
   ·split at a
    ·simp only[ar]at a;subst a;rename_i p _;subst p;exact λx y=>(n d r dz b).2 g y x
    ·simp at a
   ·exact v.UW d w u r s b a g
def nW.app{j d:H}{c l m k:Nat}{b:List (T×aa (Nat×List T))}(a:nW j c l m b){s t:T}{G o:List T}(g:Nat)(q:b[g]? =some (s,some (k,G)))(v:Xt j s k o t d):
 d.get c=some ⟨l,0,m,true,false,[.agg (b.map (·.1))]⟩/\fc j d c=true/\∀h,h=(⟨l,0,m+1,true,false,[.agg ((b.set g (t,some (k,o))).map (·.1))]⟩:iZ)->Step c j (dY d c h)/\nW (dY d c h) c l (m+1) (b.set g (t,some (k,o))):=by
 have p:=a.SI _ (ax q);have L:(b.map (·.1))[g]? =some s:=by rw[aU,q];rfl
 obtain⟨r,S⟩:=wD a.ok a.fp a.get L p.2 p.1 v;refine⟨r.trans a.get,fk r,λh z=> ?_⟩;obtain⟨U,i,J,Q⟩:=S h (by rw[z,bY]);have R:ig 0 d:=by obtain⟨_,_,_,A⟩:=v;exact⟨A.hp,A.low,aw _⟩
 refine⟨U,a.Z0 _ z r R ⟨J,p.2⟩ λO i N w=> ?_⟩;have y:=ax w;have f:=a.SI i y;have M:i.1∈b.map (·.1):=List.mem_map_of_mem y;obtain⟨u,I⟩:=i;cases I with
 |none=>exact⟨f,λV _ C=>by rw[show dS u=none from f]at C;simp at C⟩
 |some B=>
  obtain⟨E,F⟩:=Q u B.1 B.2 M f.1 (λD K=>a.UW g O (bo N) _ _ q w D K) f.2;exact⟨⟨E,f.2⟩,F⟩
def nW.adI{g:H}{c m n:Nat}{b:List (T×aa (Nat×List T))}(a:nW g c m n b)(j:Nat){v':T}(i:dS v'=none)(x:∃p,b[j]? =some (p,none)):
 ∀d,d=(⟨m,0,n+1,true,false,[.agg ((b.set j (v',none)).map (·.1))]⟩:iZ)->Step c g (dY g c d)/\nW (dY g c d) c m (n+1) (b.set j (v',none)):=by
 intro d o;obtain⟨u,f,w,t⟩:=Bt a.ok a.fp a.get (cells':=(b.set j (v',none)).map (·.1)) (λp l=>by
  obtain⟨f,k,rfl⟩:=List.mem_map.1 l;rcases cg k with q|q
  ·exact .inl (List.mem_map_of_mem q)
  ·rw[q];exact .inr (.inl i)) d o
 refine⟨u,a.Z0 _ o rfl a.ok i λz f y k=> ?_⟩;have l:=ax k;have h:=a.SI f l;obtain⟨v,s⟩:=f;cases s with
 |none=>exact⟨h,λr q=>by rw[show dS v'=none from i]at q;simp at q⟩
 |some A=>exact⟨⟨t _ _ _ h.1 h.2,h.2⟩,λr q=>by rw[show dS v'=none from i]at q;simp at q⟩
def nW.elem{q:H}{A K L g m n u:Nat}{o:Bool}{v:List T}{b:List (T×aa (Nat×List T))}(a:nW q A K L b){t:T}{y:List T}(i:Nat)(k:b[i]? =some (t,some (g,y)))(r:dS t=some m)(c:q.get m=some ⟨g,n,u,o,false,v⟩)(j:Nat)(x:T):
 Step A q (dY q m ⟨g,n,u+1,o,false,v.set j x⟩)/\nW (dY q m ⟨g,n,u+1,o,false,v.set j x⟩) A K L (b.set i (t,some (g,y.set j x))):=by
 have C:=a.SI _ (ax k);have J:m≠A:=λf=>by subst f;rw[a.get]at c;simp at c;exact C.2 c.1.symm
 have an:=Step.Z8 a.ok c (a.By (ax k) r) J ⟨g,n,u+1,o,false,v.set j x⟩;have ae:(b.set i (t,some (g,y.set j x))).map (·.1)=b.map (·.1):=by
  rw[bY];simp only;apply cZ;intro s;rw[bW];split
  ·rename_i f;subst f;rw[aU,k];split
   ·rfl
   ·rename_i f;rw[aG]at f;have:=aM (l:=b) (i:=i) dz;rw[k]at this;simp at this
  ·rfl
 refine⟨an,a.ok.put _ _,by rw[dP c,ao (bo J),ae];exact a.get,λI Z=> ?_,λs l al M B W D=> ?_⟩
 ·obtain⟨s,d⟩:=cT Z;rw[bW]at d;split at d
  ·split at d
   ·simp only[ar]at d;subst d;refine⟨?_,C.2⟩;rcases C.1 with⟨rfl,z⟩|⟨O,ap,aE,av,aN,rfl,z,V⟩
    ·simp at r
    ·simp only[wO,ar]at r;subst r;rw[c]at z;simp only[ar,iZ.mk.injEq]at z;obtain⟨_,rfl,rfl,rfl,_,rfl⟩:=z;exact .inr ⟨O,n,u+1,o,v.set j x,by rw[cS],by rw[dP c,aq rfl],by rw[cS,List.take_set,V]⟩
   ·simp at d
  ·rename_i f;have E:=a.SI I (ax d);obtain⟨aA,U⟩:=I;cases U with
   |none=>exact E
   |some p=>exact⟨E.1.mono λB D=>by rw[dP c,ao (λe=>by subst e;exact a.UW i s dz _ _ k d B r D)],E.2⟩
 ·have:∀(F:Nat) (w:T×aa (Nat×List T)),(b.set i (t,some (g,y.set j x)))[F]? =some w->∃G,b[F]? =some G/\G.1=w.1:=by
   intro F w h;rw[bW]at h;split at h
   ·rename_i f;subst f;split at h
    ·simp only[ar]at h;subst h;exact⟨_,k,rfl⟩
    ·simp at h
   ·exact⟨w,h,rfl⟩
  obtain⟨N,X,R⟩:=this s M W;obtain⟨Q,Y,S⟩:=this l B D;rw[<-R,<-S];exact a.UW s l al N Q X Y
def Gr.fz{b:H}{f:T}{k:Nat}{h:Type}{a:h->T}{c:List h}(d:Gr b f k (c.map a))(j:∀g,xi b 11 (a g)=some (a g)):TI.fz b f=some (sl (c.map a)):=by
 have:=d.qJ j;rcases d with⟨rfl,i⟩|⟨l,m,q,n,r,rfl,o,p⟩
 ·rw[i];rfl
 ·rwa[Gb]at this
def Xt.out{h b:H}{d f:T}{c:Nat}{a:List T}(g:Xt (TI.hr h) d c a f b):Xt h d c a f (lO h b):=by
 obtain⟨a1,a2,a3,a4⟩:=g;exact⟨a1.out h,λi j k=>by rw[fO,a2 i j k,gh],a3,(a4.out h).hp,(a4.out h).low,a4.sz⟩
def Gr.nd{cx:Ctx}{b:H}{j:T}{a:Nat}{k:Type}{f:k->T}{h:List k}(s:Gr b j a (h.map f))(o:ig 0 b){i l:ab}{p d:Ty}(m:cx.ty i=some p)(n:p.u= .slice l)(t:cx.ty l=some d)(z:d.size=a)(v:1<=d.bytes)(w:∀x,Lw (f x)=a)(x:k)(y:(h.length+1)*d.bytes<=70368744177664):
 ∃g c,iO cx (b.cons ⟨a,0,0,true,false,[f x]⟩) i i j (.arr b.size 0 0 1 false)=some (.val g c)/\Xt b j a ((h++[x]).map f) g c:=by
 have q:=(Xt.refl s o).cons ⟨a,0,0,true,false,[f x]⟩;obtain⟨g,c,e,r⟩:=Gr.app (cx:=cx) q.1 (o.cons _) (x:= .arr b.size 0 0 1 false) (xs:=[f x]) m n t m n z v (by rw[gH];simp) (by simpa using show(f x).cells.length=a from w x) dA (by simpa using y);exact⟨g,c,e,by rw[List.map_append];exact q.trans r.xt⟩
end
noncomputable section
def nW.start{h:H}{w szw ver:Nat}{F:List (T×aa (Nat×List T))}(o:ig 0 h)(g:h.get w=some ⟨szw,0,ver,true,false,[.agg (F.map (·.1))]⟩)
 (f:∀a∈F,(a.2=none/\dS a.1=none)\/(a.1= .dM [] false/\∃e,a.2=some (e,[])/\e≠szw)):nW h w szw ver F/\∀c,Fp h w c->c=w:=by
 have i:∀a∈F,dS a.1=none:=λa h=>by
  rcases f a h with k|k
  ·exact k.2
  ·rw[k.1];rfl
 refine⟨⟨o,g,λa h=> ?_,λs k _ l c m r q b=>by rw[i l (ax m)]at b;simp at b⟩,λc b=> ?_⟩
 ·obtain⟨p,t⟩:=a;rcases f _ h with⟨rfl,k⟩|⟨rfl,e,rfl,k⟩
  ·exact k
  ·exact⟨Gr.nil _ _,k⟩
 ·rcases b with rfl|⟨u,d,p,j,b⟩
  ·rfl
  ·rw[g]at d;simp only[ar]at d;subst d;simp only[fw,aQ,cj,bL,T.cells]at j;obtain⟨a,n,rfl⟩:=List.mem_map.1 j;rw[i a n]at b;simp at b
def nW.other{b e:H}{d l m g:Nat}{i:List (T×aa (Nat×List T))}(h:nW b d l m i)(j:∀a,Fp b d a->¬Fp b g a)(f:Step g b e):nW e d l m i/\∀a,Fp e d a->¬Fp e g a:=by
 have k:∀a,Fp b d a->e.get a=b.get a:=λa c=>f.get a (h.fp a c) (j a c);refine⟨h.step ⟨f.ok.hp,f.ok.low,aw _⟩ k,λa c n=> ?_⟩;rw[iW (k d (.inl rfl))]at c;rcases f.fp a n with q|q
 ·exact j a c q
 ·have:=h.fp a c;omega
structure Sm(b:Nat)(h h':H):Prop where
 ok:ig 0 h'
 size:h'.size=h.size
 get:∀c,c≠b->h'.get c=h.get c
def Sm.refl{b:Nat}{a:H}(c:ig 0 a):Sm b a a:=⟨c,rfl,λ_ _=>rfl⟩
def Sm.put{a:Nat}{e b:H}(d:Sm a e b){x:iZ}(h:b.get a=some x)(g:iZ):Sm a e (dY b a g):=⟨d.ok.put a g,by rw[fU];exact d.size,λc f=>by rw[dP h,ao f];exact d.get c f⟩
def Sm.iD{d:Nat}{a e:H}{b g h:Nat}{c:List (T×aa (Nat×List T))}(f:Sm d a e)(l:nW a b g h c)(j:¬Fp a b d):nW e b g h c:=l.step f.ok λi k=>f.get i λm=>j (by rw[<-m];exact k)
def iB.ft{b c:H}{V V':Nat->Prop}{d:Nat}{e f:List T}(g:iB (FT b V d) e f)(h:∀a,V a->V' a/\c.get a=b.get a):iB (FT c V' d) e f:=g.imp λ_ _ i=>i.mono h
def Gr.Ic{a:H}{V:Nat->Prop}{g:T}{l d:Nat}{b c:List T}(f:Gr a g l b)(h:d<=11)(e:iB (FT a V d) b c):TI.fz a g=some (sl c):=by
 have j:fN (xi a 11) b=some c:=qg (e.imp λ_ _ k=>(k.deep h).xi);have i:=f.jf;rcases f with⟨rfl,rfl⟩|⟨m,n,r,o,s,rfl,p,q⟩
 ·cases e;rfl
 ·rw[vX,i,dX,j];rfl
def iB.left{a f:Type}{b:a->f->Prop}{d:List a}{j:List f}(h:iB b d j){e:a}(c:e∈d):∃k,b e k:=by
 induction h with
 |nil=>simp at c
 |cons g _ i=>
  rcases List.mem_cons.1 c with rfl|q
  ·exact⟨_,g⟩
  ·exact i q
def FT.fzN{a:H}{z:Nat->Prop}{h:Nat}(E:∀c,z c->h<=c):∀{b:Nat} {j y:T},FT a z b j y->freeze a h b j=freeze a 0 b j:=by
 intro b;induction b with
 |zero=>intro j y v;exact v.elim
 |succ b C=>
  intro j y v;rcases v with⟨A,B,rfl⟩|⟨c,l,i,g,s,n,r,rfl,F,f,t,rfl⟩|⟨p,L,rfl,t,rfl⟩
  ·rw[sU a h b j A B,sU a 0 b j A B]
  ·have u:fN (freeze a h b) n=fN (freeze a 0 b) n:=ni λk w=>by
    obtain⟨K,x⟩:=t.left w;exact C x
   have D:∀q,freeze a q (b+1) (.arr c l i g s)=gD (Nat.ble q c) (dU (a.get c) λk=>iZ.casesOn k λ_ m _ exact o e=>
    gD (Nat.beq m l) (Bool.casesOn o (dU (dU (jX i e) λd=>takeN g d) λn=>dU (fN (freeze a q b) n) λr=>
     List.casesOn r (List.casesOn e (Bool.casesOn exact (some .gu) (some (.dM [] false))) λ_ _=>some .gu) λ_ _=>some (.dM r s)) none)):=λq=>rfl
   rw[D,D];have I:a.jf (.arr c l i g s)=dU (a.get c) λk=>iZ.casesOn k λ_ m _ _ o e=>gD (Nat.beq m l) (Bool.casesOn o (dU (jX i e) λd=>takeN g d) none):=rfl;rw[I]at f;rw[show Nat.ble h c=true from ci (E c F),show Nat.ble 0 c=true from ci (aw c)];show(dU (a.get c) _)=(dU (a.get c) _);cases G:a.get c with
   |none=>rfl
   |some k=>
    rw[G]at f;obtain⟨N,m,O,M,o,e⟩:=k;simp only[dX]at f|-;cases J:Nat.beq m l with
    |false=>rfl
    |true=>
     rw[J]at f;cases o with
     |true=>rfl
     |false=>
      have f:(dU (jX i e) λd=>takeN g d)=some n:=f;show(dU (dU (jX i e) λd=>takeN g d) _)=(dU (dU (jX i e) λd=>takeN g d) _);rw[f,dX,dX,u]
  ·have u:fN (freeze a h b) p=fN (freeze a 0 b) p:=ni λk w=>by
    obtain⟨K,x⟩:=t.left w;exact C x
   show(dU (fN (freeze a h b) p) _)=(dU (fN (freeze a 0 b) p) _);rw[u]
def FT.top{b:H}{V:Nat->Prop}{h d:Nat}(F:d<=11)(q:∀a,V a->h<=a){c f:List T}(r:iB (FT b V d) c f):∃i,jm b h (.agg c)=some i/\cn i= .agg f:=by
 have u:fN (iJ b h) c=fN (iJ b 0) c:=ni λA x=>by
  obtain⟨G,s⟩:=r.left x;have l:=(s.deep (show d<=12 by omega)).fzN q;rcases(s.deep (show d<=12 by omega))with⟨m,n,rfl⟩|⟨a,j,p,o,k,C,D,rfl,w,E,v,rfl⟩|⟨c,f,rfl,v,rfl⟩
  ·cases A<;>first|exact l|(simp[jW]at m)
  ·have t:∀e,iJ b e (.arr a j p o k)=(Bool.casesOn (Nat.ble e a) (some (.arr a j p o k)) (freeze b e 12 (.arr a j p o k)):aa T):=λe=>rfl;rw[t,t,show Nat.ble h a=true from ci (q a w),show Nat.ble 0 a=true from ci (aw a),l]
  ·exact l
 have g:qJ b (.agg c)=some (.agg f):=by
  rw[SF,qg (r.imp λB a e=>(e.deep (show d<=12 by omega)).fz)];rfl
 have g:(dU (dU (fN (iJ b 0) c) λy=>some (T.agg y)) λz=>some (cn z))=some (.agg f):=g;rw[<-u]at g;obtain⟨i,m,n⟩:=dJ.1 g;simp only[ar]at n;exact⟨i,m,n⟩
def Lb.kY{b:Nat}{c d:H}{a:Nat}{f:iZ}(e:Lb b c a f)(h:d.get b=c.get b)(g:d.get a=c.get a):Lb b d a f:=⟨by rw[g];exact e.get,by rw[iW h];exact e.nf⟩
def uR(a b:H):H:=⟨a.size,(lO a b).low,(lO a b).fx.drop ((lO a b).size-a.size)⟩
def yY{h a:H}(d:Hp a)(e:h.size<=a.size){b:Nat}(c:b<h.size):(uR h a).get b=a.get b:=
 (H9 (h:=lO h a) (by unfold Hp at*;exact d) e c).trans (fO h a b)
def ig.cut{a b:H}(c:ig 0 a)(d:Hp b)(e:a.size<=b.size):ig 0 (uR a b):=
 ⟨by unfold Hp at*;unfold uR lO;simp;omega,by have:=c.low;unfold uR lO;simp only;split<;>omega,aw _⟩
def yh(a:H)(f:T)(b:H)(post:T->H->Prop):Prop:=
 Hp b/\a.size<=b.size/\(∀c e,c<a.size->b.get c=some e->b.get c=a.get c\/∀g∈fw e.eY,pU a.size g)/\∃d,jm b a.size f=some d/\post (cn d) (uR a b)
section
variable {P:ai}{cx:Ctx}{mask:Nat}{ι:Type}{pre:ι->List T->H->Prop}{post:ι->List T->H->T->H->Prop}
def qN{tb:fJ}(S:P.follows .mixedOrders=true)(ja:jg P cx){m:aj}{g:Func}{t:DL}(j:GM P cx m g mask t)(k:List T->H->Nat)(U:∀d q a,pre d q a->q.length<=g.ntmps)
 (al:∀d b a,pre d b a->∀C,nM C 0 b->W (jB cx (qZ P cx tb) (k b a) mask t (g.body.getD .skip) ⟨C,.nil⟩ (hr a)) (CC cx mask g.results.toList λo L=>yh a (jK o) L (post d b a))):(jw ι pre post).Ok P cx m:=by
 intro b a ⟨ap,V⟩;have A:∀d,pre d b a->∃h c,sX cx (qZ P cx tb) (k b a) g mask true b a=some (h,lO a c)/\yh a h c (post d b a):=by
  intro d i;obtain⟨B,ae,_,N⟩:=mF mask g.ntmps 0 b (U d b a i);obtain⟨x,J,c,e,an,o,Y,X⟩:=Dm (al d b a i B N);have e:=qm _ j.dr _ _ _ e;obtain⟨G,f⟩:=zd j.ok;rw[f]at e;refine⟨_,c,?_,X⟩;unfold sX;rw[f];obtain⟨p,z,r⟩:=a;simp only;rw[ae,dX];have e:j4 cx (qZ P cx tb) (k b ⟨p,z,r⟩) mask G ⟨B,.nil⟩ ⟨p,p,r⟩=some (x,J,c):=e;rw[e,dX,kS];have Z:=oK Y;have R:=vQ z (jK o) c;rcases an with rfl|rfl<;>(simp only;rw[Z,dX];exact R)
 obtain⟨h,c,u,av,aA,aE,aN,l,a6⟩:=A ap V;have O:qC P cx ⟨m,b,a,h,lO a c⟩:=λE w aX I s M=>pF (F:=⟨g,mask,true,none⟩) S ja j.at_ j.ok _ (C9 P cx tb) (k b a) b a h (lO a c) u E w aX I s M;have Q:=QC O (by unfold Hp at*;exact av) aA (λD y f v=>by rw[fO]at v|-;exact aE D y f v) (by rw[tv (fO a c)];exact l);refine⟨cn aN,uR a c,λd i=> ?_,Q⟩;obtain⟨r2,n,f,p1,p2,p3,a7,p4,p5⟩:=A d i;rw[u]at f;simp only[ar,ay]at f;obtain⟨rfl,e⟩:=f;have K:jm c a.size h=jm n a.size h:=by rw[<-tv (fO a c),e,tv (fO a n)]
 rw[K,p4]at l;simp only[ar]at l;subst l;have:uR a c=uR a n:=by unfold uR;rw[e]
 rw[this];exact p5
end
end
end Go.TI
