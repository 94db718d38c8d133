/- Texts P20 to P20. -/
import Derived.Test.YtmaeadedikngoaaGreatDoorA8
set_option linter.all false
set_option maxRecDepth 100000
set_option maxHeartbeats 8000000
namespace Go.Proofs.YtmaeadedikngoaaGreatDoor
noncomputable section
open Go Go.TI
structure GX where
 w:ee
 ev:List eK
 st:List fK
def GX.e(b:GX)(a:Int):eK:=qV b.ev a
def GX.s(b:GX)(a:Int):fK:=(xr b.st a).getD default
def GX.UJ(d:GX)(a b:Int)(c:eK->Bool):Bool:=((d.ev.drop a.toNat).take (b-a).toNat).all c
def GX.wV(a:GX)(c b:Int):Bool:=
 if(a.e b).dZ=(a.e c).dZ then false
 else if(a.e b).kind=6\/(a.e b).kind=10 then decide ((mE (a.s c) (a.e b).obj).iW=(a.e c).dZ)||decide ((a.e c).dZ∈(mE (a.s c) (a.e b).obj).eY)
 else if(a.e b).kind=8 then decide ((mE (a.s c) (a.e b).obj).iW=(a.e c).dZ)
 else if(a.e b).kind=17 then decide ((r6 a.w (a.s c) (a.e b).obj).iW=(a.e c).dZ)
 else if(a.e b).kind=21 then decide ((a.e b).obj=(a.e c).dZ)
 else false
def GX.qy(b:GX)(a c:Int):Bool:=qp (b.e a).kind&&b.wV a c
def GX.M5{b:GX}{j a:Int}(c:b.wV j a=true):qp (b.e a).kind=true:=by
 unfold GX.wV at c;unfold qp;by_cases h:(b.e a).kind=6
 ·simp[h]
 by_cases d:(b.e a).kind=10
 ·simp[d]
 by_cases i:(b.e a).kind=8
 ·simp[i]
 by_cases f:(b.e a).kind=17
 ·simp[f]
 by_cases g:(b.e a).kind=21
 ·simp[g]
 simp[h,d,i,f,g]at c
def GX.Ie(c:GX)(d:Int->Int->Bool)(a:List Int):Bool:=
 decide (2<=a.length)&&decide (a.length<=4)&&(a.all λb=>jt b c.ev.length)&&(List.range a.length).all λb=>
  !decide (a.getD b 0<a.getD 0 0)&&d (a.getD ((b+1)% a.length) 0) (a.getD b 0)&&(List.range b).all λf=> !decide ((c.e (a.getD b 0)).dZ=(c.e (a.getD f 0)).dZ)
def GX.PV(e:GX)(d:List Int):e.Ie e.qy d=e.Ie e.wV d:=by
 unfold GX.Ie;by_cases hl:2<=d.length;rotate_left
 ·simp[hl]
 congr 1;rw[br,cv,cv];constructor
 ·intro a c f;have:=a c f;simp only[ay,GX.qy]at this|-;exact⟨⟨this.1.1,this.1.2.2⟩,this.2⟩
 ·intro a c f;have b:=a c f;have g:=a ((c+1)% d.length) (by rw[bQ];exact Nat.mod_lt _ dB);simp only[ay,GX.qy]at b g|-;exact⟨⟨b.1.1,GX.M5 g.1.2,b.1.2⟩,b.2⟩
def GX.dead(g:GX)(f:Int->Int->Bool)(e:ik):Bool:=decide (e.a=0)&&decide (e.b=0)&&decide (e.c=0)&&decide (e.d=0)&&g.Ie f e.jD
def GX.XL(a:GX)(b c:Int):Bool:=decide (b<c)&& !decide ((a.e b).dZ=(a.e c).dZ)&&lV (a.e b) (a.e c)&& !((xr a.w.cells (a.e b).obj).getD default).tK
def GX.VW(a:GX)(b c:Int):Bool:=
 decide (c<b)&&(decide ((a.e b).kind=18)||decide ((a.e b).kind=19))&&decide ((a.e c).kind=16)&&decide ((a.e b).obj=(a.e c).obj)&& !decide ((a.e b).dZ=(a.e c).dZ)&&
  a.UJ (c+1) b (λd=> !decide (d.dZ=(a.e c).dZ))&&decide ((pS (a.s b) (a.e c).dZ).iN=3)&&(decide ((a.e b).kind=19)||decide ((a.e b).value=(a.e c).dZ))
def GX.D7(b:Int)(a:eK):Bool:= !(decide (a.dZ=b)&&decide (a.kind=15))
def GX.Ir(b:GX)(a c:Int):Bool:=
 decide (a<c)&&decide ((b.e c).dZ=(b.e a).dZ)&&(pS (b.s a) (b.e a).dZ).atomic&&b.UJ (a+1) c (GX.D7 (b.e a).dZ)
def GX.Xa(a:GX)(d f b c:Int):Bool:=
 decide (b<=c)&&decide ((a.e b).dZ=(a.e c).dZ)&& !decide ((a.e b).dZ=(a.e d).dZ)&&lV (a.e d) (a.e b)&&lV (a.e c) (a.e f)
def GX.QF(a:GX)(b c d f:Int):Bool:=
 decide (b<c)&&decide (d<=f)&&decide ((a.e b).dZ=(a.e c).dZ)&&decide ((a.e d).dZ=(a.e f).dZ)&& !decide ((a.e b).dZ=(a.e d).dZ)&&lV (a.e b) (a.e d)&&lV (a.e f) (a.e c)&&
  a.UJ b c (GX.D7 (a.e b).dZ)&&(pS (a.s b) (a.e b).dZ).atomic
def GX.z9(b:GX)(a:Int):Bool:=jt a b.ev.length
def GX.vR(f:GX)(e:ik):Bool:=
 if e.kind=2 then f.dead f.wV e
 else if(f.z9 e.a&&f.z9 e.b&&f.z9 e.c&&f.z9 e.d)=true then
  (
   if e.kind=1 then decide (e.c=0)&&decide (e.d=0)&&decide (e.jD=[])&&f.XL e.a e.b
   else if e.kind=3 then decide (e.c=0)&&decide (e.d=0)&&decide (e.jD=[])&&f.VW e.a e.b
   else if e.kind=4 then decide (e.jD=[])&&f.QF e.a e.b e.c e.d
   else false)
 else false
def GX.vG(f:GX)(e:ik):Bool:=
 if e.kind=1 then decide (e.c=0)&&decide (e.d=0)&&decide (e.jD=[])&&(f.z9 e.a&&f.z9 e.b)&&f.XL e.a e.b
 else if e.kind=2 then f.dead f.qy e
 else if e.kind=3 then decide (e.c=0)&&decide (e.d=0)&&decide (e.jD=[])&&(f.z9 e.a&&f.z9 e.b)&&f.VW e.a e.b
 else if e.kind=4 then decide (e.jD=[])&&(f.z9 e.a&&f.z9 e.b&&f.z9 e.c&&f.z9 e.d)&&f.Ir e.a e.b&&f.Xa e.a e.b e.c e.d
 else false
def GX.in0{a:GX}{b:Int}(c:a.z9 b=true):a.z9 0=true:=by
 unfold GX.z9 at*
 rw[fw]at*
 omega
def GX.W9{b:GX}{a c g r:Int}(u:b.z9 a=true):(b.Ir a c&&b.Xa a c g r)=b.QF a c g r:=by
 have w:lV (b.e a) (b.e g)=true->a<c->b.UJ a c (GX.D7 (b.e a).dZ)=b.UJ (a+1) c (GX.D7 (b.e a).dZ):=by
  intro d q;obtain⟨t,f⟩:=fw.1 u;unfold GX.UJ;have s:b.ev.drop a.toNat=b.e a::b.ev.drop (a+1).toNat:=by
   rw[show(a+1).toNat=a.toNat+1 by omega,aI f];congr 1;unfold GX.e qV xr;rw[aq t];simp[f]
  rw[s,show(c-a).toNat=(c-(a+1)).toNat+1 by omega,List.take_succ_cons,cJ];have v:GX.D7 (b.e a).dZ (b.e a)=true:=by
   unfold GX.D7;unfold lV qY at d;simp only[ay,cm,aJ]at d;rcases d.1.1.1 with h|h<;>simp[h]
  rw[v,bO]
 unfold GX.Ir GX.Xa GX.QF;by_cases d:lV (b.e a) (b.e g)=true
 ·by_cases q:a<c
  ·rw[w d q];rw[br];simp only[ay,aJ,ci,bU];constructor
   ·rintro⟨⟨⟨⟨f,i⟩,j⟩,k⟩,⟨⟨⟨l,m⟩,n⟩,o⟩,p⟩;exact⟨⟨⟨⟨⟨⟨⟨⟨f,l⟩,i.symm⟩,m⟩,λh=>n h.symm⟩,o⟩,p⟩,k⟩,j⟩
   ·rintro⟨⟨⟨⟨⟨⟨⟨⟨f,l⟩,i⟩,m⟩,n⟩,o⟩,p⟩,k⟩,j⟩;exact⟨⟨⟨⟨f,i.symm⟩,j⟩,k⟩,⟨⟨⟨l,m⟩,λh=>n h.symm⟩,o⟩,p⟩
  ·simp[q]
 ·rw[Bool.not_eq_true]at d;simp[d]
def GX.Rr(f:GX)(e:ik):f.vG e=f.vR e:=by
 unfold GX.vG GX.vR;by_cases g:e.kind=1
 ·rw[aq g,ao dB,aq g];by_cases j:e.c=0;rotate_left
  ·simp[j]
  by_cases k:e.d=0;rotate_left
  ·simp[k]
  rw[j,k];cases i:f.z9 e.a with
  |false=>simp
  |true=>rw[GX.in0 i];cases f.z9 e.b<;>simp
 rw[ao g];by_cases l:e.kind=2
 ·rw[aq l,aq l];unfold GX.dead;rw[GX.PV]
 rw[ao l,ao l];by_cases h:e.kind=3
 ·rw[aq h,ao g,aq h];by_cases j:e.c=0;rotate_left
  ·simp[j]
  by_cases k:e.d=0;rotate_left
  ·simp[k]
  rw[j,k];cases i:f.z9 e.a with
  |false=>simp
  |true=>rw[GX.in0 i];cases f.z9 e.b<;>simp
 rw[ao h];by_cases m:e.kind=4
 ·rw[aq m,ao g,ao h,aq m];cases i:f.z9 e.a with
  |false=>simp
  |true=>
   rw[<-GX.W9 i];cases (f.z9 e.b)<;>cases f.z9 e.c<;>cases f.z9 e.d<;>simp[Bool.and_assoc]
 rw[ao m,ao g,ao h,ao m];simp
def gC(a:List Int):ik:=⟨2,0,0,0,0,a⟩
def js(a b:Nat):List Nat:=List.range' a (b-a)
def wU(d:Nat)(b:List Int->Bool)(go:List Int->Int->Bool):Nat->List Int->List (List Int)
 |0,a=>if b a=true then [a]else []
 |k+1,a=>(if b a=true then [a]else [])++(js ((a.getD 0 0).toNat+1) d).flatMap λ(c:Nat)=>if go a c=true then wU d b go k (a++[(c:Int)])else []
def F9{k:Nat}{e:List Int->Bool}{go:List Int->Int->Bool}:∀(b:Nat) (c a:List Int),a∈wU k e go b c->e a=true/\∃d,a=c++d:=by
 intro b;induction b with
 |zero=>
  intro c a h;unfold wU at h;split at h
  ·simp at h;subst h;exact⟨by assumption,[],dC⟩
  ·simp at h
 |succ b i=>
  intro c a h;unfold wU at h;rw[cF]at h;rcases h with h|h
  ·split at h
   ·simp at h;subst h;exact⟨by assumption,[],dC⟩
   ·simp at h
  ·rw[aO]at h;obtain⟨j,_,h⟩:=h;split at h
   ·obtain⟨f,d,g⟩:=i _ _ h;exact⟨f,(j:Int)::d,by rw[g];simp⟩
   ·simp at h
def Ga{n:Nat}{ok:List Int->Bool}{go:List Int->Int->Bool}(g:∀(a e:List Int) (b:Int),ok (a++b::e)=true->go a b=true):∀(c:Nat) (a:List Int),wU n ok go c a=wU n ok (λ_ _=>true) c a:=by
 intro c;induction c with
 |zero=>intro a;rfl
 |succ c i=>
  intro a;unfold wU;congr 1;congr 1;funext b;rw[aq rfl,<-i];by_cases d:go a b=true
  ·rw[aq d]
  ·rw[ao d];symm;rw[List.eq_nil_iff_forall_not_mem];intro j h;obtain⟨f,e,rfl⟩:=F9 _ _ _ h;exact d (g a e b (by simpa using f))
def Wq{c:Nat}{a b:List Int->Bool}{go:List Int->Int->Bool}(e:∀d,a d=b d):wU c a go=wU c b go:=by
 rw[show a=b from funext e]
def mY(a:List Int):Int:=a.getD (a.length-1) 0
def GX.CW{o:GX}{h:Int->Int->Bool}{a d:List Int}{b:Int}(n:a≠ [])(e:o.Ie h (a++b::d)=true):h b (mY a)=true/\b∉a:=by
 unfold GX.Ie at e;simp only[ay,cv]at e;have p:0<a.length:=List.length_pos_iff.2 n;have g:(a++b::d).length=a.length+1+d.length:=dD;have i:(a++b::d).getD a.length 0=b:=by simp[List.getD]
 refine⟨?_,λm=> ?_⟩
 ·have c:=(e.2 (a.length-1) (by rw[bQ,g];omega)).1.2;rw[show a.length-1+1=a.length by omega,Nat.mod_eq_of_lt (by rw[g];omega),i]at c;have f:(a++b::d).getD (a.length-1) 0=mY a:=by
   unfold mY;simp[List.getD,bY (show a.length-1<a.length by omega)]
  rwa[f]at c
 ·obtain⟨k,j,l⟩:=List.getElem_of_mem m;have c:=(e.2 a.length (by rw[bQ,g];omega)).2 k (by rw[bQ];omega);rw[i]at c;have f:(a++b::d).getD k 0=b:=by
   simp only[List.getD,bY j,aB j,l,Option.getD_some]
  rw[f]at c;simp at c
def GX.Id(b:GX)(d:Nat):List (List Int):=wU b.ev.length (λa=>b.vR (gC a)) (λa c=> !decide (c∈a)&&b.wV c (mY a)) 3 [(d:Int)]
def GX.J6(b:GX)(c:Nat):List (List Int):=wU b.ev.length (λa=>decide (2<=a.length)&&b.vG (gC a)) (λa d=>b.qy d (mY a)) 3 [(c:Int)]
def GX.Nv(a:GX)(b:List Int):a.vR (gC b)=a.Ie a.wV b:=by
 unfold GX.vR GX.dead gC;simp
def J5{d:Nat}{e:List Int->Bool}{go go':List Int->Int->Bool}(f:∀(a:List Int) (b:Int),a≠ []->go a b=go' a b):∀(c:Nat) (a:List Int),a≠ []->wU d e go c a=wU d e go' c a:=by
 intro c;induction c with
 |zero=>intro a _;rfl
 |succ c h=>
  intro a g;unfold wU;congr 1;congr 1;funext b;rw[f a b g,h (a++[(b:Int)]) dC]
def GX.PU(b:GX)(g:Nat):b.J6 g=b.Id g:=by
 unfold GX.J6 GX.Id;have j:∀a,(decide (2<=a.length)&&b.vG (gC a))=b.vR (gC a):=by
  intro a;rw[GX.Rr,GX.Nv];by_cases d:2<=a.length
  ·simp[d]
  ·unfold GX.Ie;simp[d]
 rw[Wq j];have h:=Ga (n:=b.ev.length) (ok:=λa=>b.vR (gC a)) (go:=λa f=>decide (a=[])||b.qy f (mY a)) (λa m f d=>by
  by_cases c:a=[]
  ·simp[c]
  ·rw[GX.Nv,<-GX.PV]at d;simp[(GX.CW c d).1]) 3 [(g:Int)]
 have i:=Ga (n:=b.ev.length) (ok:=λa=>b.vR (gC a)) (go:=λa e=>decide (a=[])||(!decide (e∈a)&&b.wV e (mY a))) (λa m f d=>by
  by_cases c:a=[]
  ·simp[c]
  ·rw[GX.Nv]at d;obtain⟨k,l⟩:=GX.CW c d;simp[k,l]) 3 [(g:Int)]
 rw[J5 (go':=λa f=>decide (a=[])||b.qy f (mY a)) (λa f c=>by simp[c]) 3 _ dC,
  J5 (go:=λa e=> !decide (e∈a)&&b.wV e (mY a)) (go':=λa e=>decide (a=[])||(!decide (e∈a)&&b.wV e (mY a))) (λa f c=>by simp[c]) 3 _ dC,h,i]
def GX.n(a:GX):Nat:=a.ev.length
def jr(b:ik->Bool)(a:ik):List ik:=if b a=true then [a]else []
def gR(a b:Nat):ik:=⟨1,a,b,0,0,[]⟩
def gL(a b:Nat):ik:=⟨3,a,b,0,0,[]⟩
def gA(a b c d:Nat):ik:=⟨4,a,b,c,d,[]⟩
def GX.vS(a:GX):List ik:=
 ((List.range a.n).flatMap λ(b:Nat)=>(List.range a.n).flatMap λ(c:Nat)=>jr a.vR (gR b c))++
 ((List.range a.n).flatMap λ(b:Nat)=>(a.Id b).map gC)++
 ((List.range a.n).flatMap λ(b:Nat)=>(List.range a.n).flatMap λ(c:Nat)=>jr a.vR (gL b c))++
 ((
  List.range a.n).flatMap λ(b:Nat)=>(js (b+1) a.n).flatMap λ(c:Nat)=>
  if(a.e b).dZ=(a.e c).dZ/\qY (a.e b)=true/\qY (a.e c)=true then(List.range a.n).flatMap λ(d:Nat)=>(js d a.n).flatMap λ(f:Nat)=>jr a.vR (gA b c d f)else [])
def GX.mX(a:GX):List ik:=
 ((List.range a.n).flatMap λ(b:Nat)=>(js (b+1) a.n).flatMap λ(c:Nat)=>jr a.vG (gR b c))++
 ((List.range a.n).flatMap λ(b:Nat)=>(a.J6 b).map gC)++
 ((List.range a.n).flatMap λ(b:Nat)=>(List.range b).flatMap λ(c:Nat)=>jr a.vG (gL b c))++
 ((
  List.range a.n).flatMap λ(b:Nat)=>(js (b+1) a.n).flatMap λ(c:Nat)=>
  if a.Ir b c=true then(List.range a.n).flatMap λ(d:Nat)=>(js d a.n).flatMap λ(e:Nat)=>jr a.vG (gA b c d e)else [])
def AB{a b:Nat}(c:a<=b):List.range b=List.range a++List.range' a (b-a):=by
 rw[List.range_eq_range',List.range_eq_range',show b=a+(b-a)by omega,<-List.range'_append_1];simp
def qU{b e:Type}{l:List b}{a:b->List e}(c:∀d∈l,a d=[]):l.flatMap a=[]:=by
 rw[List.flatMap_eq_nil_iff];exact c
def m8{f j:Type}{a:List f}{c d:f->List j}(e:∀b∈a,c b=d b):a.flatMap c=a.flatMap d:=by
 induction a with
 |nil=>rfl
 |cons b a h=>simp only[bA];rw[e b dC,h λi g=>e i (by simp[g])]
def GX.yI(a:GX):a.mX=a.vS:=by
 have p:a.vG=a.vR:=funext a.Rr;unfold GX.mX GX.vS;rw[p];congr 1
 ·congr 1
  ·congr 1
   ·refine m8 λb h=> ?_;rw[bQ]at h;rw[AB (show b+1<=a.n by omega),List.flatMap_append];rw[qU (l:=List.range (b+1)),cz];rfl;intro d i;rw[bQ]at i;unfold jr;rw[ao];unfold GX.vR gR GX.XL;have:¬((b:Int)<d):=dB;simp[this]
   ·exact m8 λb h=>by rw[GX.PU]
  ·refine m8 λb h=> ?_;rw[bQ]at h;rw[AB (show b<=a.n by omega),List.flatMap_append,qU (l:=List.range' b (a.n-b)),bL];intro d i;rw[List.mem_range'_1]at i;unfold jr;rw[ao];unfold GX.vR gL GX.VW;have:¬((d:Int)<b):=dB;simp[this]
 ·refine m8 λb h=>m8 λd i=> ?_;have none:∀{m:Prop},(∀f g,a.vR (gA b d f g)=true->m)->¬m->((List.range a.n).flatMap λ(f:Nat)=>(js f a.n).flatMap λ(g:Nat)=>jr a.vR (gA b d f g))=[]:=by
   intro m c o;refine qU λf _=>qU λg _=> ?_;unfold jr;exact ao λq=>o (c f g q)
  by_cases j:a.Ir b d=true
  ·rw[aq j];by_cases k:(a.e b).dZ=(a.e d).dZ/\qY (a.e b)=true/\qY (a.e d)=true
   ·rw[aq k]
   ·rw[ao k];refine none (λf g c=> ?_) k;unfold GX.vR gA at c;simp only[show¬((4:Int)=2)by omega,show¬((4:Int)=1)by omega,show¬((4:Int)=3)by omega,bo,bg]at c;split at c
    ·unfold GX.QF lV at c;simp only[ay,aJ]at c;obtain⟨_,⟨⟨⟨⟨⟨⟨⟨_,_⟩,r⟩,_⟩,_⟩,s⟩,t⟩,_⟩,_⟩:=c;exact⟨r,s.1.1.1,t.1.1.2⟩
    ·simp at c
  ·rw[ao j];split
   ·symm;refine none (λf g c=> ?_) j;rw[<-GX.Rr]at c;unfold GX.vG gA at c;simp only[show¬((4:Int)=2)by omega,show¬((4:Int)=1)by omega,show¬((4:Int)=3)by omega,bo,bg]at c;simp only[ay]at c;exact c.1.2
   ·rfl
end
end Go.Proofs.YtmaeadedikngoaaGreatDoor
