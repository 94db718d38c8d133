/- Texts P20 to P20. -/
import Derived.Test.YtmaeadedikngoaaGreatDoorA8
set_option linter.all false
set_option maxRecDepth 100000
set_option maxHeartbeats 8000000
namespace Go.Proofs.YtmaeadedikngoaaGreatDoor
noncomputable section
open Go Go.TI
structure GX where
 w:d8
 ev:List ez
 st:List fH
def GX.e(b:GX)(a:Int):ez:=qz b.ev a
def GX.s(b:GX)(a:Int):fH:=(wV b.st a).getD default
def GX.UZ(d:GX)(a b:Int)(c:ez->Bool):Bool:=((d.ev.drop a.toNat).take (b-a).toNat).all c
def GX.nK(a:GX)(c b:Int):Bool:=
 if(a.e b).dT=(a.e c).dT then false
 else if(a.e b).kind=6\/(a.e b).kind=10 then decide ((mK (a.s c) (a.e b).obj).iX=(a.e c).dT)||decide ((a.e c).dT∈(mK (a.s c) (a.e b).obj).eJ)
 else if(a.e b).kind=8 then decide ((mK (a.s c) (a.e b).obj).iX=(a.e c).dT)
 else if(a.e b).kind=17 then decide ((r9 a.w (a.s c) (a.e b).obj).iX=(a.e c).dT)
 else if(a.e b).kind=21 then decide ((a.e b).obj=(a.e c).dT)
 else false
def GX.qB(b:GX)(a c:Int):Bool:=qr (b.e a).kind&&b.nK a c
def GX.Nm{b:GX}{j a:Int}(c:b.nK j a=true):qr (b.e a).kind=true:=by
 unfold GX.nK at c;unfold qr;by_cases h:(b.e a).kind=6
 ·simp[h]
 by_cases d:(b.e a).kind=10
 ·simp[d]
 by_cases i:(b.e a).kind=8
 ·simp[i]
 by_cases f:(b.e a).kind=17
 ·simp[f]
 by_cases g:(b.e a).kind=21
 ·simp[g]
 simp[h,d,i,f,g]at c
def GX.Gk(c:GX)(d:Int->Int->Bool)(a:List Int):Bool:=
 decide (2<=a.length)&&decide (a.length<=4)&&(a.all λb=>je b c.ev.length)&&(List.range a.length).all λb=>
  !decide (a.getD b 0<a.getD 0 0)&&d (a.getD ((b+1)% a.length) 0) (a.getD b 0)&&(List.range b).all λf=> !decide ((c.e (a.getD b 0)).dT=(c.e (a.getD f 0)).dT)
def GX.Qh(e:GX)(d:List Int):e.Gk e.qB d=e.Gk e.nK d:=by
 unfold GX.Gk;by_cases hl:2<=d.length;rotate_left
 ·simp[hl]
 congr 1;rw[bI,cB,cB];constructor
 ·intro a c f;have:=a c f;simp only[aB,GX.qB]at this|-;exact⟨⟨this.1.1,this.1.2.2⟩,this.2⟩
 ·intro a c f;have b:=a c f;have g:=a ((c+1)% d.length) (by rw[dc];exact Nat.mod_lt _ dz);simp only[aB,GX.qB]at b g|-;exact⟨⟨b.1.1,GX.Nm g.1.2,b.1.2⟩,b.2⟩
def GX.dead(g:GX)(f:Int->Int->Bool)(e:f6):Bool:=decide (e.a=0)&&decide (e.b=0)&&decide (e.c=0)&&decide (e.d=0)&&g.Gk f e.jJ
def GX.Rv(a:GX)(b c:Int):Bool:=decide (b<c)&& !decide ((a.e b).dT=(a.e c).dT)&&kC (a.e b) (a.e c)&& !((wV a.w.cells (a.e b).obj).getD default).tJ
def GX.PR(a:GX)(b c:Int):Bool:=
 decide (c<b)&&(decide ((a.e b).kind=18)||decide ((a.e b).kind=19))&&decide ((a.e c).kind=16)&&decide ((a.e b).obj=(a.e c).obj)&& !decide ((a.e b).dT=(a.e c).dT)&&
  a.UZ (c+1) b (λd=> !decide (d.dT=(a.e c).dT))&&decide ((pW (a.s b) (a.e c).dT).iL=3)&&(decide ((a.e b).kind=19)||decide ((a.e b).value=(a.e c).dT))
def GX.yS(b:Int)(a:ez):Bool:= !(decide (a.dT=b)&&decide (a.kind=15))
def GX.Iz(b:GX)(a c:Int):Bool:=
 decide (a<c)&&decide ((b.e c).dT=(b.e a).dT)&&(pW (b.s a) (b.e a).dT).atomic&&b.UZ (a+1) c (GX.yS (b.e a).dT)
def GX.Xm(a:GX)(d f b c:Int):Bool:=
 decide (b<=c)&&decide ((a.e b).dT=(a.e c).dT)&& !decide ((a.e b).dT=(a.e d).dT)&&kC (a.e d) (a.e b)&&kC (a.e c) (a.e f)
def GX.Iy(a:GX)(b c d f:Int):Bool:=
 decide (b<c)&&decide (d<=f)&&decide ((a.e b).dT=(a.e c).dT)&&decide ((a.e d).dT=(a.e f).dT)&& !decide ((a.e b).dT=(a.e d).dT)&&kC (a.e b) (a.e d)&&kC (a.e f) (a.e c)&&
  a.UZ b c (GX.yS (a.e b).dT)&&(pW (a.s b) (a.e b).dT).atomic
def GX.AV(b:GX)(a:Int):Bool:=je a b.ev.length
def GX.vR(f:GX)(e:f6):Bool:=
 if e.kind=2 then f.dead f.nK e
 else if(f.AV e.a&&f.AV e.b&&f.AV e.c&&f.AV e.d)=true then
  (
   if e.kind=1 then decide (e.c=0)&&decide (e.d=0)&&decide (e.jJ=[])&&f.Rv e.a e.b
   else if e.kind=3 then decide (e.c=0)&&decide (e.d=0)&&decide (e.jJ=[])&&f.PR e.a e.b
   else if e.kind=4 then decide (e.jJ=[])&&f.Iy e.a e.b e.c e.d
   else false)
 else false
def GX.vG(f:GX)(e:f6):Bool:=
 if e.kind=1 then decide (e.c=0)&&decide (e.d=0)&&decide (e.jJ=[])&&(f.AV e.a&&f.AV e.b)&&f.Rv e.a e.b
 else if e.kind=2 then f.dead f.qB e
 else if e.kind=3 then decide (e.c=0)&&decide (e.d=0)&&decide (e.jJ=[])&&(f.AV e.a&&f.AV e.b)&&f.PR e.a e.b
 else if e.kind=4 then decide (e.jJ=[])&&(f.AV e.a&&f.AV e.b&&f.AV e.c&&f.AV e.d)&&f.Iz e.a e.b&&f.Xm e.a e.b e.c e.d
 else false
def GX.in0{a:GX}{b:Int}(c:a.AV b=true):a.AV 0=true:=by
 unfold GX.AV at*
 rw[fq]at*
 omega
def GX.Xl{b:GX}{a c g r:Int}(u:b.AV a=true):(b.Iz a c&&b.Xm a c g r)=b.Iy a c g r:=by
 have w:kC (b.e a) (b.e g)=true->a<c->b.UZ a c (GX.yS (b.e a).dT)=b.UZ (a+1) c (GX.yS (b.e a).dT):=by
  intro d q;obtain⟨t,f⟩:=fq.1 u;unfold GX.UZ;have s:b.ev.drop a.toNat=b.e a::b.ev.drop (a+1).toNat:=by
   rw[show(a+1).toNat=a.toNat+1 by omega,aJ f];congr 1;unfold GX.e qz wV;rw[aq t];simp[f]
  rw[s,show(c-a).toNat=(c-(a+1)).toNat+1 by omega,List.take_succ_cons,cE];have v:GX.yS (b.e a).dT (b.e a)=true:=by
   unfold GX.yS;unfold kC mo at d;simp only[aB,bV,aK]at d;rcases d.1.1.1 with h|h<;>simp[h]
  rw[v,bP]
 unfold GX.Iz GX.Xm GX.Iy;by_cases d:kC (b.e a) (b.e g)=true
 ·by_cases q:a<c
  ·rw[w d q];rw[bI];simp only[aB,aK,bR,bw];constructor
   ·rintro⟨⟨⟨⟨f,i⟩,j⟩,k⟩,⟨⟨⟨l,m⟩,n⟩,o⟩,p⟩;exact⟨⟨⟨⟨⟨⟨⟨⟨f,l⟩,i.symm⟩,m⟩,λh=>n h.symm⟩,o⟩,p⟩,k⟩,j⟩
   ·rintro⟨⟨⟨⟨⟨⟨⟨⟨f,l⟩,i⟩,m⟩,n⟩,o⟩,p⟩,k⟩,j⟩;exact⟨⟨⟨⟨f,i.symm⟩,j⟩,k⟩,⟨⟨⟨l,m⟩,λh=>n h.symm⟩,o⟩,p⟩
  ·simp[q]
 ·rw[Bool.not_eq_true]at d;simp[d]
def GX.Vh(f:GX)(e:f6):f.vG e=f.vR e:=by
 unfold GX.vG GX.vR;by_cases g:e.kind=1
 ·rw[aq g,ao dz,aq g];by_cases j:e.c=0;rotate_left
  ·simp[j]
  by_cases k:e.d=0;rotate_left
  ·simp[k]
  rw[j,k];cases i:f.AV e.a with
  |false=>simp
  |true=>rw[GX.in0 i];cases f.AV e.b<;>simp
 rw[ao g];by_cases l:e.kind=2
 ·rw[aq l,aq l];unfold GX.dead;rw[GX.Qh]
 rw[ao l,ao l];by_cases h:e.kind=3
 ·rw[aq h,ao g,aq h];by_cases j:e.c=0;rotate_left
  ·simp[j]
  by_cases k:e.d=0;rotate_left
  ·simp[k]
  rw[j,k];cases i:f.AV e.a with
  |false=>simp
  |true=>rw[GX.in0 i];cases f.AV e.b<;>simp
 rw[ao h];by_cases m:e.kind=4
 ·rw[aq m,ao g,ao h,aq m];cases i:f.AV e.a with
  |false=>simp
  |true=>
   rw[<-GX.Xl i];cases (f.AV e.b)<;>cases f.AV e.c<;>cases f.AV e.d<;>simp[Bool.and_assoc]
 rw[ao m,ao g,ao h,ao m];simp
def gC(a:List Int):f6:=⟨2,0,0,0,0,a⟩
def iw(a b:Nat):List Nat:=List.range' a (b-a)
def yi(d:Nat)(b:List Int->Bool)(go:List Int->Int->Bool):Nat->List Int->List (List Int)
 |0,a=>if b a=true then [a]else []
 |k+1,a=>(if b a=true then [a]else [])++(iw ((a.getD 0 0).toNat+1) d).flatMap λ(c:Nat)=>if go a c=true then yi d b go k (a++[(c:Int)])else []
def Lq{k:Nat}{e:List Int->Bool}{go:List Int->Int->Bool}:∀(b:Nat) (c a:List Int),a∈yi k e go b c->e a=true/\∃d,a=c++d:=by
 intro b;induction b with
 |zero=>
  intro c a h;unfold yi at h;split at h
  ·simp at h;subst h;exact⟨by assumption,[],dA⟩
  ·simp at h
 |succ b i=>
  intro c a h;unfold yi at h;rw[List.mem_append]at h;rcases h with h|h
  ·split at h
   ·simp at h;subst h;exact⟨by assumption,[],dA⟩
   ·simp at h
  ·rw[cF]at h;obtain⟨j,_,h⟩:=h;split at h
   ·obtain⟨f,d,g⟩:=i _ _ h;exact⟨f,(j:Int)::d,by rw[g];simp⟩
   ·simp at h
def Lr{n:Nat}{ok:List Int->Bool}{go:List Int->Int->Bool}(g:∀(a e:List Int) (b:Int),ok (a++b::e)=true->go a b=true):∀(c:Nat) (a:List Int),yi n ok go c a=yi n ok (λ_ _=>true) c a:=by
 intro c;induction c with
 |zero=>intro a;rfl
 |succ c i=>
  intro a;unfold yi;congr 1;congr 1;funext b;rw[aq rfl,<-i];by_cases d:go a b=true
  ·rw[aq d]
  ·rw[ao d];symm;rw[List.eq_nil_iff_forall_not_mem];intro j h;obtain⟨f,e,rfl⟩:=Lq _ _ _ h;exact d (g a e b (by simpa using f))
def WK{c:Nat}{a b:List Int->Bool}{go:List Int->Int->Bool}(e:∀d,a d=b d):yi c a go=yi c b go:=by
 rw[show a=b from funext e]
def kX(a:List Int):Int:=a.getD (a.length-1) 0
def GX.Ik{o:GX}{h:Int->Int->Bool}{a d:List Int}{b:Int}(n:a≠ [])(e:o.Gk h (a++b::d)=true):h b (kX a)=true/\b∉a:=by
 unfold GX.Gk at e;simp only[aB,cB]at e;have p:0<a.length:=List.length_pos_iff.2 n;have g:(a++b::d).length=a.length+1+d.length:=dB;have i:(a++b::d).getD a.length 0=b:=by simp[List.getD]
 refine⟨?_,λm=> ?_⟩
 ·have c:=(e.2 (a.length-1) (by rw[dc,g];omega)).1.2;rw[show a.length-1+1=a.length by omega,Nat.mod_eq_of_lt (by rw[g];omega),i]at c;have f:(a++b::d).getD (a.length-1) 0=kX a:=by
   unfold kX;simp[List.getD,cm (show a.length-1<a.length by omega)]
  rwa[f]at c
 ·obtain⟨k,j,l⟩:=List.getElem_of_mem m;have c:=(e.2 a.length (by rw[dc,g];omega)).2 k (by rw[dc];omega);rw[i]at c;have f:(a++b::d).getD k 0=b:=by
   simp only[List.getD,cm j,az j,l,Option.getD_some]
  rw[f]at c;simp at c
def GX.Aw(b:GX)(d:Nat):List (List Int):=yi b.ev.length (λa=>b.vR (gC a)) (λa c=> !decide (c∈a)&&b.nK c (kX a)) 3 [(d:Int)]
def GX.Kh(b:GX)(c:Nat):List (List Int):=yi b.ev.length (λa=>decide (2<=a.length)&&b.vG (gC a)) (λa d=>b.qB d (kX a)) 3 [(c:Int)]
def GX.Vj(a:GX)(b:List Int):a.vR (gC b)=a.Gk a.nK b:=by
 unfold GX.vR GX.dead gC;simp
def Qe{d:Nat}{e:List Int->Bool}{go go':List Int->Int->Bool}(f:∀(a:List Int) (b:Int),a≠ []->go a b=go' a b):∀(c:Nat) (a:List Int),a≠ []->yi d e go c a=yi d e go' c a:=by
 intro c;induction c with
 |zero=>intro a _;rfl
 |succ c h=>
  intro a g;unfold yi;congr 1;congr 1;funext b;rw[f a b g,h (a++[(b:Int)]) dA]
def GX.Qg(b:GX)(g:Nat):b.Kh g=b.Aw g:=by
 unfold GX.Kh GX.Aw;have j:∀a,(decide (2<=a.length)&&b.vG (gC a))=b.vR (gC a):=by
  intro a;rw[GX.Vh,GX.Vj];by_cases d:2<=a.length
  ·simp[d]
  ·unfold GX.Gk;simp[d]
 rw[WK j];have h:=Lr (n:=b.ev.length) (ok:=λa=>b.vR (gC a)) (go:=λa f=>decide (a=[])||b.qB f (kX a)) (λa m f d=>by
  by_cases c:a=[]
  ·simp[c]
  ·rw[GX.Vj,<-GX.Qh]at d;simp[(GX.Ik c d).1]) 3 [(g:Int)]
 have i:=Lr (n:=b.ev.length) (ok:=λa=>b.vR (gC a)) (go:=λa e=>decide (a=[])||(!decide (e∈a)&&b.nK e (kX a))) (λa m f d=>by
  by_cases c:a=[]
  ·simp[c]
  ·rw[GX.Vj]at d;obtain⟨k,l⟩:=GX.Ik c d;simp[k,l]) 3 [(g:Int)]
 rw[Qe (go':=λa f=>decide (a=[])||b.qB f (kX a)) (λa f c=>by simp[c]) 3 _ dA,
  Qe (go:=λa e=> !decide (e∈a)&&b.nK e (kX a)) (go':=λa e=>decide (a=[])||(!decide (e∈a)&&b.nK e (kX a))) (λa f c=>by simp[c]) 3 _ dA,h,i]
def GX.n(a:GX):Nat:=a.ev.length
def iN(b:f6->Bool)(a:f6):List f6:=if b a=true then [a]else []
def gR(a b:Nat):f6:=⟨1,a,b,0,0,[]⟩
def gL(a b:Nat):f6:=⟨3,a,b,0,0,[]⟩
def gA(a b c d:Nat):f6:=⟨4,a,b,c,d,[]⟩
def GX.nV(a:GX):List f6:=
 ((List.range a.n).flatMap λ(b:Nat)=>(List.range a.n).flatMap λ(c:Nat)=>iN a.vR (gR b c))++
 ((List.range a.n).flatMap λ(b:Nat)=>(a.Aw b).map gC)++
 ((List.range a.n).flatMap λ(b:Nat)=>(List.range a.n).flatMap λ(c:Nat)=>iN a.vR (gL b c))++
 ((
  List.range a.n).flatMap λ(b:Nat)=>(iw (b+1) a.n).flatMap λ(c:Nat)=>
  if(a.e b).dT=(a.e c).dT/\mo (a.e b)=true/\mo (a.e c)=true then(List.range a.n).flatMap λ(d:Nat)=>(iw d a.n).flatMap λ(f:Nat)=>iN a.vR (gA b c d f)else [])
def GX.nG(a:GX):List f6:=
 ((List.range a.n).flatMap λ(b:Nat)=>(iw (b+1) a.n).flatMap λ(c:Nat)=>iN a.vG (gR b c))++
 ((List.range a.n).flatMap λ(b:Nat)=>(a.Kh b).map gC)++
 ((List.range a.n).flatMap λ(b:Nat)=>(List.range b).flatMap λ(c:Nat)=>iN a.vG (gL b c))++
 ((
  List.range a.n).flatMap λ(b:Nat)=>(iw (b+1) a.n).flatMap λ(c:Nat)=>
  if a.Iz b c=true then(List.range a.n).flatMap λ(d:Nat)=>(iw d a.n).flatMap λ(e:Nat)=>iN a.vG (gA b c d e)else [])
def AK{a b:Nat}(c:a<=b):List.range b=List.range a++List.range' a (b-a):=by
 rw[List.range_eq_range',List.range_eq_range',show b=a+(b-a)by omega,<-List.range'_append_1];simp
def qY{b e:Type}{l:List b}{a:b->List e}(c:∀d∈l,a d=[]):l.flatMap a=[]:=by
 rw[List.flatMap_eq_nil_iff];exact c
def m9{f j:Type}{a:List f}{c d:f->List j}(e:∀b∈a,c b=d b):a.flatMap c=a.flatMap d:=by
 induction a with
 |nil=>rfl
 |cons b a h=>simp only[aQ];rw[e b dA,h λi g=>e i (by simp[g])]
def GX.FG(a:GX):a.nG=a.nV:=by
 have p:a.vG=a.vR:=funext a.Vh;unfold GX.nG GX.nV;rw[p];congr 1
 ·congr 1
  ·congr 1
   ·refine m9 λb h=> ?_;rw[dc]at h;rw[AK (show b+1<=a.n by omega),cQ];rw[qY (l:=List.range (b+1)),cD];rfl;intro d i;rw[dc]at i;unfold iN;rw[ao];unfold GX.vR gR GX.Rv;have:¬((b:Int)<d):=dz;simp[this]
   ·exact m9 λb h=>by rw[GX.Qg]
  ·refine m9 λb h=> ?_;rw[dc]at h;rw[AK (show b<=a.n by omega),cQ,qY (l:=List.range' b (a.n-b)),bL];intro d i;rw[List.mem_range'_1]at i;unfold iN;rw[ao];unfold GX.vR gL GX.PR;have:¬((d:Int)<b):=dz;simp[this]
 ·refine m9 λb h=>m9 λd i=> ?_;have none:∀{m:Prop},(∀f g,a.vR (gA b d f g)=true->m)->¬m->((List.range a.n).flatMap λ(f:Nat)=>(iw f a.n).flatMap λ(g:Nat)=>iN a.vR (gA b d f g))=[]:=by
   intro m c o;refine qY λf _=>qY λg _=> ?_;unfold iN;exact ao λq=>o (c f g q)
  by_cases j:a.Iz b d=true
  ·rw[aq j];by_cases k:(a.e b).dT=(a.e d).dT/\mo (a.e b)=true/\mo (a.e d)=true
   ·rw[aq k]
   ·rw[ao k];refine none (λf g c=> ?_) k;unfold GX.vR gA at c;simp only[show¬((4:Int)=2)by omega,show¬((4:Int)=1)by omega,show¬((4:Int)=3)by omega,br,bh]at c;split at c
    ·unfold GX.Iy kC at c;simp only[aB,aK]at c;obtain⟨_,⟨⟨⟨⟨⟨⟨⟨_,_⟩,r⟩,_⟩,_⟩,s⟩,t⟩,_⟩,_⟩:=c;exact⟨r,s.1.1.1,t.1.1.2⟩
    ·simp at c
  ·rw[ao j];split
   ·symm;refine none (λf g c=> ?_) j;rw[<-GX.Vh]at c;unfold GX.vG gA at c;simp only[show¬((4:Int)=2)by omega,show¬((4:Int)=1)by omega,show¬((4:Int)=3)by omega,br,bh]at c;simp only[aB]at c;exact c.1.2
   ·rfl
end
end Go.Proofs.YtmaeadedikngoaaGreatDoor
