/- W09h -/
import Derived.Test.YtajpdafdickapaaGreatDoorA22
import Derived.Test.YtajpdafdickapaaGreatDoorA25
set_option linter.all false
set_option maxRecDepth 100000
set_option maxHeartbeats 8000000
namespace Go.Proofs.YtajpdafdickapaaGreatDoor
noncomputable section
open Go Go.TI Tryz
attribute [-simp] List.map_take List.map_drop List.map_append fy fa eg Bool.not_or Bool.not_and
attribute [simp] fw fc
def aer(b:T):Prop:=∃(a:km) (c:iQ),b= .tuple [a.t,c.t]/\KJ a.dL/\a.dL.length<=80
def Lz:nS prog cx 40 (λi:jR×List fX=>[i.1.t,sl (i.2.map fX.t)]) (λi=>(∀o∈i.1.dH,o.jm.length<=10000001)/\i.2.length<=80) (λ_=>aer):=by
 refine yL (tb:=⟨pt [(88,xl.jv),(90,FB.jv)],ht [(89,jM IFr Vl Pw)]⟩) iR iE (iX 1271 [(3,[(0,2),(2,8),(4,8)]),(4,[(4,5)])] func40) (λ_=>105) (λi r l=>by simp at l;exact aC (jR.inj l.1) (jx (λ_ _ l=>fX.inj l) l.2)) dy nl9 ?_;rintro⟨k,A⟩ ⟨n,x⟩ av y;simp only at n x;simp at y;obtain⟨w,I⟩:=y;obtain⟨_,⟨r,rfl,ap⟩,u⟩:=xl.use k n;obtain⟨_,⟨O,rfl,Q,D⟩,B⟩:=FB.use k n;cases r with
 |false=>
  simp[f40,w,u];exact⟨⟨⟨[],[],[],[],[],[]⟩,[]⟩,⟨⟨[],0,[],[]⟩,[],[],[]⟩,rfl,λe K=>by simp at K,dy⟩
 |true=>
  simp[f40,w,I,u,B];generalize j:((hE.cons _).cons _).cons _=h;have N:il 0 h:=by rw[<-j];exact⟨dy,dy,dy⟩
  have an:h.size=3:=by rw[<-j];rfl
  have U:h.get 0=some (dE 7 0 [k.t]):=by rw[<-j];simp
  have V:h.get 1=some (dE 7 0 [.agg [dD,dD,dD,dD,dD,dD,dD]]):=by rw[<-j];simp
  have W:h.get 2=some (dE 7 0 [.agg [dD,Z 0,dD,dD,dD,dD,dD]]):=by rw[<-j];simp
  clear j;refine mF Qg dy ⟨k,O,A⟩ ⟨rfl,N,n,Q,D,x⟩ ?_;rintro _ b ⟨z,d,T,rfl,m,s,f,C,hl⟩;have al:=f.ok.sz;rw[an]at s al;have a0:=(f.get 0 J).trans U;have a1:=(f.get 1 J).trans V;have a2:=(f.get 2 J).trans W;have sv:=λa (L:a<h.size)=>fG (f.get a L);have R:=sv 0 J;have X:(0=b.size)=False:=dz;have Y:(1=b.size)=False:=dz;have ae:(2=b.size)=False:=dz;have M:=f.ok.low;have P:fk h b b.size=true:=jf (lz _ f.ok.sz);have okB:il 0 (b.cons (dE 7 1 [d.t])):=il.cons ⟨f.ok.hp,f.ok.low,ax _⟩ _;have q:∀a,(b.cons (dE 7 1 [d.t])).get a=if a=b.size then some (dE 7 1 [d.t])else b.get a:=λa=>dS ..;have v:=(q 1).trans ((aq J).trans a1);have p:∀c a,(dZ (b.cons (dE 7 1 [d.t])) 1 c).get a=if a=1 then some c else if a=b.size then some (dE 7 1 [d.t])else b.get a:=λc a=>(dN v c a).trans (by rw[q]);have G:=λc=>(p c 2).trans ((aq J).trans ((aq J).trans a2));have G2:∀c g a,(dZ (dZ (b.cons (dE 7 1 [d.t])) 1 c) 2 g).get a=if a=2 then some g else if a=1 then some c else if a=b.size then some (dE 7 1 [d.t])else b.get a:=λc g a=>(dN (G c) g a).trans (by rw[p]);have S:∀c,fk (b.cons (dE 7 1 [d.t])) (dZ (b.cons (dE 7 1 [d.t])) 1 c) b.size=true:=λc=>nd v J c;have aA:(b.size=1)=False:=dz;have E:∀c g,TI.fz (dZ (dZ (b.cons (dE 7 1 [d.t])) 1 c) 2 g) T=some (sl (z.map ez.t)):=λc g=>(m.mono (h':=dZ (dZ (b.cons (dE 7 1 [d.t])) 1 c) 2 g) λa o=>by
   have⟨_,_,_,_,F,_⟩:=m.box o;have:=H.fh F;have:=s a o;rw[G2,aq J,aq J,aq J]).fz dy
  simp[m.iy,m.cells,a0,a1,a2,R,X,Y,ae,M,P,dX,p,G2,S,E,q,f.ok.hp];exact⟨⟨k.em,z⟩,d,rfl,C,hl⟩
def Iq:nS prog cx 41 (λc:List Int=>[sl (c.map (T.int .u8))]) okB (λ_ l=>∃a:jR,l=a.t/\∀m∈a.dH,m.jm.length<=10000001):=by
 refine jh [(91,P9.jv),(57,Bl.jv)] (iX 13 [] func41) (λ_=>105) (λn o b=>by simp at b;exact jx (λ_ _ b=>by simpa using b) b) ?_;rintro c g r d;simp at d;obtain⟨_,⟨k,rfl,i,j⟩,e⟩:=P9.use c g;obtain⟨_,⟨a,p,q,rfl,h⟩,f⟩:=Bl.use k ⟨i,j⟩;simp[f41,d,e,f];exact⟨a,rfl,h⟩
def aei(b:T):Prop:=∃a:km,b=a.t/\KJ a.dL/\a.dL.length<=80
def Fy:nS prog cx 16 (λa:List Int×List Int=>[sl (a.1.map (T.int .u8)),sl (a.2.map (T.int .u8))]) (λa=>okB a.1/\okB a.2/\a.2.length<=80) (λ_=>aei):=by
 refine jh [(41,Iq.jv),(42,FG.jv),(40,Lz.jv)] (iX 51 [] func16) (λ_=>105) (λa s b=>by simp at b;exact aC (jx (λ_ _ b=>by simpa using b) b.1) (jx (λ_ _ b=>by simpa using b) b.2)) ?_;rintro⟨i,h⟩ ⟨e,d,p⟩ v f;simp only at e d p;simp at f;obtain⟨n,o⟩:=f;obtain⟨_,⟨j,rfl,q⟩,k⟩:=Iq.use i e;obtain⟨_,⟨g,rfl,t⟩,l⟩:=FG.use h ⟨d,J⟩;obtain⟨_,⟨r,u,rfl,m,hl⟩,c⟩:=Lz.use (j,g) ⟨q,dA⟩;simp only at c;simp[f16,n,o,k,l,c];exact⟨r,rfl,m,hl⟩
end
noncomputable section
open Go Go.TI
structure mZ where
 program:List Int
 schedule:List Int
 Fj:List Int
 size:Int
 vn:Int
 deriving DecidableEq,Inhabited
def mZ.cs(a:mZ):List T:=[sl (a.program.map (T.int .u8)),sl (a.schedule.map (T.int .u8)),sl (a.Fj.map (T.int .u8)),.int .u8 a.size,.int .u8 a.vn]
def mZ.t(a:mZ):T:= .agg a.cs
@[simp]def mZ.ag (a:mZ):qP a.t [sl (a.program.map (T.int .u8)),sl (a.schedule.map (T.int .u8)),sl (a.Fj.map (T.int .u8)),.int .u8 a.size,.int .u8 a.vn] 5:=by
 unfold mZ.t mZ.cs;exact⟨rfl,rfl,λ_ _=>rfl,rfl,by simp[jN],λ_=>by simp,λ_ _=>by simp,dy,dy⟩
@[simp]theorem mZ.fold (a0:List Int) (a1:List Int) (a2:List Int) (a3:Int) (a4:Int):T.agg [sl (a0.map (T.int .u8)),sl (a1.map (T.int .u8)),sl (a2.map (T.int .u8)),.int .u8 a3,.int .u8 a4]=mZ.t ⟨a0,a1,a2,a3,a4⟩:=rfl
@[simp]theorem mZ.eta (a:mZ):mZ.mk a.program a.schedule a.Fj a.size a.vn=a:=rfl
def mZ.inj{a b:mZ}(c:a.t=b.t):a=b:=by
 rcases a with⟨_,_,_,_,_⟩;rcases b with⟨_,_,_,_,_⟩;simp only[mZ.t,mZ.cs,T.agg.injEq,aL]at c;obtain⟨d,e,f,g,h,_⟩:=c;obtain rfl:=iz (λ_ _=>io) _ _ d;obtain rfl:=iz (λ_ _=>io) _ _ e;obtain rfl:=iz (λ_ _=>io) _ _ f;obtain rfl:=io g;obtain rfl:=io h;rfl
end
noncomputable section
open Go Go.TI Tryz
attribute [-simp] List.map_take List.map_drop List.map_append fy fa eg Bool.not_or Bool.not_and
attribute [simp] fw fc
def Uj(a:Int):Prop:=0<=a/\a<256
structure R4(v:mZ):Prop where
 p:okB v.program
 q:okB v.schedule
 s:okB v.Fj
 z:Uj v.size
 w:Uj v.vn
def PL:nS prog cx 5 (λb:mZ=>[b.t,Z 16]) R4 (λ_=>UI):=by
 refine jh [(15,Gt.jv),(16,Fy.jv),(17,FC.jv)] (iX 17592186046583 [(3,[(9,10)])] func5) (λ_=>105) (λa W n=>by simp at n;exact mZ.inj n) ?_;rintro b d ap r;simp at r;obtain⟨G,o⟩:=r;have⟨V,aA⟩:=d.z;have⟨T,av⟩:=d.w;obtain⟨_,⟨C,rfl,H⟩,h⟩:=Gt.use (b.Fj,(1+b.size% 16).toNat) ⟨d.s,dA⟩;obtain⟨_,⟨i,rfl,I⟩,l⟩:=Gt.use ([],0) ⟨⟨dy,dy⟩,dy⟩;obtain⟨_,⟨S,rfl,E,hl⟩,eT⟩:=Fy.use (b.program,b.schedule.take (min b.schedule.length 80)) ⟨d.p,⟨by have:=d.q.1;simp;omega,λU R=>d.q.2 U (bF R)⟩,dz⟩;obtain⟨_,⟨c,X,rfl,Q⟩,g⟩:=FC.use (S,(1+b.size% 16).toNat) ⟨E,dA,dA,dA⟩;simp only at eT g h l;rw[show(((1+b.size% 16).toNat:Nat):Int)=1+b.size% 16 by omega]at g h;have P:∀e:Int,0<=e->e<1000->IntKind.i64.wrap e=e:=λe al an=>by rw[<-jA,jH J J]
 have m:b.size.tmod 16=b.size% 16:=Int.tmod_eq_emod_of_nonneg V;have A: -9223372036854775808<=b.size:=J;have B:b.size<9223372036854775808:=J;have x:=CZ (k:= .i64) (a:=b.size) (show¬(16:Int)=0 by omega);have j:=P (1+b.size% 16) J J;simp[f5,G];refine ej (λO=>?_) (λO=>?_)
 ·simp[o,A,B,x,oG,m,j,h];exact⟨C,rfl,H⟩
 have⟨k,K,L⟩:∃k:Nat,min (b.schedule.length:Int) 80=k/\k=min b.schedule.length 80:=⟨_,J,rfl⟩;rw[<-L]at eT;simp[o,K,show k<=b.schedule.length by omega,eT,A,B,x,oG,m,j,g];refine ej (λu=>?_) (λu=>?_)
 ·have D:=λ{y:fJ} (ht:y.p 15=some Gt.jv)=>(show rl prog cx y 15 [.gX,Z 0]=some i.t from l ht);simp[D];exact⟨i,rfl,I⟩
 have M:c≠ []:=by simpa using u
 have Y:0<c.length:=by rcases c with _|_<;>simp at M|-
 have F:b.vn.tmod (c.length:Int)=b.vn% (c.length:Int):=Int.tmod_eq_emod_of_nonneg T;have N:0<=b.vn% (c.length:Int):=Int.emod_nonneg _ J;have ae:b.vn% (c.length:Int)<c.length:=Int.emod_lt_of_pos _ J;have⟨f,v⟩:∃f,c[(b.vn% (c.length:Int)).toNat]? =some f:=⟨_,az J⟩;simp[show-9223372036854775808<=b.vn by omega,show b.vn<9223372036854775808 by omega,CZ (show¬(c.length:Int)=0 by omega),F,eG N,v];exact⟨f,rfl,Q f (ay v)⟩
section
attribute [-simp] size_cons
def RJ(d:GX){lo hi:Int}{a b:Nat}(c:ez->Bool)(e:lo=a)(f:hi=b):d.VL lo hi c=((d.ev.drop a).take (b-a)).all c:=by
 unfold GX.VL;rw[e,f,show((b:Int)-a).toNat=b-a by omega];rfl
def lO.nat{c:dW}{a:Int}(d:iN a c.dL.length=true):∃b:Nat,a=b/\b<c.dL.length:=by
 have:=eZ.1 d;exact⟨a.toNat,J,this.2⟩
def G9(c:GX)(d:Int->Int->Bool)(a:List Int)(b:Nat):Bool:=
 !decide (a.getD b 0<a.getD 0 0)&&d (a.getD ((b+1)% a.length) 0) (a.getD b 0)&&(List.range b).all λf=> !decide ((c.e (a.getD b 0)).dP=(c.e (a.getD f 0)).dP)
def Q7{d:GX}{e:Int->Int->Bool}{b:List Int}(f:2<=b.length)(g:b.length<=4)(h:∀a<b.length,iN (b.getD a 0) d.ev.length=true)(i:∀a<b.length,G9 d e b a=true):d.Or e b=true:=by
 unfold GX.Or;simp only[aB,aO];refine⟨⟨⟨f,g⟩,List.all_eq_true.2 λk j=>?_⟩,List.all_eq_true.2 λa c=>i a (List.mem_range.1 c)⟩;obtain⟨a,c,rfl⟩:=List.mem_iff_getElem.1 j;have:=h a c;simpa[List.getD,c]using this
def xy{e:GX}{f:Int->Int->Bool}{a:List Int}(h:a.length<2\/4<a.length\/(∃b<a.length,iN (a.getD b 0) e.ev.length=false)\/∃b<a.length,G9 e f a b=false):e.Or f a=false:=by
 rw[dh];intro d;unfold GX.Or at d;simp only[aB,aO]at d;obtain⟨⟨⟨j,k⟩,g⟩,i⟩:=d;rcases h with h|h|⟨b,c,h⟩|⟨b,c,h⟩
 ·omega
 ·omega
 ·have:=List.all_eq_true.1 g (a.getD b 0) (by simp[List.getD,c]);rw[h]at this;simp at this
 ·have:=List.all_eq_true.1 i b (List.mem_range.2 c);unfold G9 at h;rw[h]at this;simp at this
def SI(a b:Nat)(d:b≠0)(c:a<9223372036854775808):binop .rem (Z (a:Int)) (Z (b:Int))=some (Z ((a% b:Nat):Int)):=by
 rw[CZ J];rfl
end
end
noncomputable section
open Go Go.TI Tryz
section
attribute [-simp] List.map_take List.map_drop List.map_append
def mW(c:Nat)(b:List Int):Bool:=b.all λa=>iN a c
def qd:gG:=⟨fU×List Int,λa=>[a.1.t,sl (a.2.map (T.int .i64))],λa=>a.2.length<=1099511627776,λa=> .bool (mW a.1.w.dL.length a.2),λa c b=>by simp at b;rw[fU.inj b.1,jx dy b.2]⟩
def PG:qd.Ok prog cx 75:=by
 refine fZ [] (iX 4196311 [] func75) (λo=>o.2.length+1) (by simp[qd]) ?_;rintro⟨e,b⟩ hl d m;simp[qd]at hl m|-;obtain⟨p,q⟩:=m;simp[f75,p,q];refine fD b.length J (λc d j=>j=H.cons hE (dE 16 0 [e.t])/\dF d 2 (.ptr 0 0 0 0)/\dF d 7 (sl (b.map (T.int .i64)))/\dF d 8 (Z b.length)/\dF d 9 (Z c)/\mW e.w.dL.length (b.drop c)=mW e.w.dL.length b) ?_ ?_ J dy
 ·rintro c d j i r ⟨rfl,k,h,f,g,a⟩;rw[aI i]at a;simp only[mW,cd]at a;by_cases l:b[c]<0
  ·have:iN b[c] e.w.dL.length=false:=by simp[iN];omega
   rw[this,c8]at a;simp[h,f,g,i,l,mW,a.symm]
  ·by_cases n:(e.w.dL.length:Int)<=b[c]
   ·have:iN b[c] e.w.dL.length=false:=by simp[iN];omega
    rw[this,c8]at a;simp[k,h,f,g,i,l,n,mW,a.symm]
   ·have:iN b[c] e.w.dL.length=true:=by simp[iN];omega
    rw[this,aZ]at a;simp[k,h,f,g,i,r,l,n,mW,a]
 ·rintro d j ⟨rfl,k,h,f,g,a⟩;simp[mW]at a;simp[f,g,mW];exact a
def Hk{c:fJ}(ht:c.p 75=some qd)(b:fU)(a:List Int)(hl:a.length<=1099511627776):rl prog cx c 75 [b.t,sl (a.map (T.int .i64))]=some (.bool (mW b.w.dL.length a)):=im ht PG (b,a) hl
def sJ{d:fJ}(ht:d.p 75=some qd)(a:fU)(b c:Int):rl prog cx d 75 [a.t,sl [Z b,Z c]]=some (.bool (iN b a.w.dL.length&&iN c a.w.dL.length)):=by
 have:=Hk ht a [b,c] dy;simpa[mW]using this
def Be(a:dW)(b c:Int):Bool:=iN b a.dL.length&&iN c a.dL.length&&decide (b<c)&&mU (lq a.dL b) (lq a.dL c)&& !decide ((lq a.dL b).dP=(lq a.dL c).dP)&& !((rf a.em.cells (lq a.dL b).obj).getD default).uc
def Hy(b:dW):Prop:=∀a∈b.dL,Cc a=true->iN a.obj b.em.cells.length=true
def Ax:gG:=⟨fU×Int×Int,λa=>[a.1.t,Z a.2.1,Z a.2.2],λa=>Hy a.1.w,λa=> .bool (Be a.1.w a.2.1 a.2.2),λa c b=>by simp at b;rw[fU.inj b.1,b.2.1,b.2.2]⟩
def S7:Ax.Ok prog cx 72:=by
 refine fZ [(75,qd),(120,ta)] (iX 67109327 [(3,[(8,14),(10,14),(11,14)])] func72) (λb=>1) (by simp[Ax]) ?_;rintro⟨j,d,e⟩ r E c;simp[Ax]at r c|-;obtain⟨g,h,i⟩:=c;cases l:(iN d j.w.dL.length&&iN e j.w.dL.length)with
 |false=>simp[f72,g,h,i,sJ,l,Be,ig]
 |true=>
  have a:=l;rw[aB]at a;have⟨b,c,t⟩:=iD a.1;have⟨k,v,x⟩:=iD a.2;have A:=eG (eZ.1 a.1).1;have B:=eG (eZ.1 a.2).1;have n:lq j.w.dL d=b:=by simp[lq,t]
  have o:lq j.w.dL e=k:=by simp[lq,x]
  by_cases m:e<=d
  ·have:¬d<e:=J;simp[f72,g,h,i,sJ,l,m,Be,ig,this]
  ·have p:d<e:=J;cases f:mU b k with
   |false=>simp[f72,g,h,i,sJ,m,Be,ig,p,CD,a.1,a.2,n,o,f]
   |true=>
    have u:Cc b=true:=by unfold mU at f;simp at f;exact f.1.1.1
    have q:=r b (ay c) u;have⟨D,y,z⟩:=iD q;have s:=eG (eZ.1 q).1;cases C:decide (b.dP=k.dP)<;>
     simp[f72,g,h,i,sJ,m,Be,ig,p,CD,a.1,a.2,n,o,f,C,A,B,c,v,y,z,s,pJ]
def X2{d:fJ}(ht:d.p 72=some Ax)(a:fU)(b c:Int)(e:Hy a.w):rl prog cx d 72 [a.t,Z b,Z c]=some (.bool (Be a.w b c)):=im ht S7 (a,b,c) e
end
end
noncomputable section
open Go Go.TI Tryz
attribute [-simp] List.map_take List.map_drop List.map_append fy fa eg Bool.not_or Bool.not_and
attribute [simp] fw fc
section
attribute [-simp] size_cons
structure A5(x:fU):Prop where
 w:lO x.w
 s:x.CP=x.w.gx.st
def A5.st{a:fU}(c:A5 a){e:Int}(d:iN e a.w.dL.length=true):∃b,a.CP[e.toNat]? =some b/\a.w.gx.s e=b/\kZ a.w.em b=true/\(∀h∈b.ei,h.ew.length<=2000):=by
 have⟨f,i⟩:=c.w.ok.s d;have g:=c.w.ok.st (eZ.1 d).2;refine⟨_,by rw[c.s];exact g,f,by rw[<-f];exact i,by rw[<-f];exact(c.w.rd d).1⟩
def uo:gG:=⟨fU×Int×Int,λa=>[a.1.t,Z a.2.1,Z a.2.2],λa=>A5 a.1/\iN a.2.1 a.1.w.dL.length=true/\iN a.2.2 a.1.w.dL.length=true,λa=> .bool (a.1.w.gx.wV a.2.1 a.2.2),λa c b=>by simp at b;rw[fU.inj b.1,b.2.1,b.2.2]⟩
def Nx:uo.Ok prog cx 110:=by
 refine fZ [(157,yU),(54,nG)] (iX 36051629065113551 [(1,[(8,14),(10,14),(11,14)])] func110) (λ_=>10) (by simp[uo]) ?_;rintro⟨f,i,h⟩ ⟨p,u,A⟩ al z;simp only at p u A;simp[uo]at z|-;obtain⟨N,k,O⟩:=z;have⟨v,M,j,y,Y,ae⟩:=p.w.at u;have⟨c,I,K,L,X,n⟩:=p.w.at A;have⟨D,r,T,s,U⟩:=p.st u;have a:=GX.E9.eq_1 f.w.gx i h;rw[L,y,T,show f.w.gx.w=f.w.em from rfl]at a;have t:f.w.gx.wV i h=(qR v.kind&&f.w.gx.E9 i h):=by rw[<-y];rfl
 generalize f.w.gx.wV i h=C at*
 generalize f.w.gx.E9 i h=V at*
 simp[f110,N,k,O,I,K,M,j,Ub,pJ];refine ej (λl=>?_) (λl=>?_)
 ·have:C=false:=by
   rw[t];cases Q:qR v.kind with
   |false=>rfl
   |true=>
    rw[Q]at l;have ht:c.dP=v.dP:=by simpa using l
    rw[ar ht]at a;rw[a];rfl
  simp[this]
 simp only[cz,cH,bU]at l;obtain⟨P,R⟩:=l;rw[R,aZ]at t;subst t;rw[aq P]at a;simp;have o:∀b:dR,b∈D.ei->b.ew.length<=1000000:=λb hl=>by have:=U b hl;omega
 cases B:decide (c.kind=6)with
 |true=>
  have d:c.kind=6:=by simpa using B
  have⟨b,l1,l2,l3⟩:=tz s (jY n J);have hl:=o b (ay l2);rw[ar (.inl d),l3]at a;simp[k,l1,l2,r,j,oP,hl,a]
 |false=>
  cases e:decide (c.kind=10)with
  |true=>
   have d:c.kind=10:=by simpa using e
   have⟨b,l1,l2,l3⟩:=tz s (jY n J);have hl:=o b (ay l2);rw[ar (.inr d),l3]at a;simp[k,e,l1,l2,r,j,oP,hl,a]
  |false=>
   have S:¬(c.kind=6\/c.kind=10):=by simp at B e;omega
   rw[aq S]at a;cases g:decide (c.kind=8)with
   |true=>
    have d:c.kind=8:=by simpa using g
    have⟨b,l1,l2,l3⟩:=tz s (jY n J);rw[ar d,l3]at a;have hl:=o b (ay l2);simp[k,e,g,l1,l2,r,j,a]
   |false=>
    rw[aq (by simpa using g)]at a;cases m:decide (c.kind=17)with
    |true=>
     have d:c.kind=17:=by simpa using m
     have⟨W,b,E,F,G,x,H⟩:=Cx s (my n J);rw[ar d,H]at a;have hl:=o b (ay x);simp[k,e,g,m,E,F,G,x,r,j,a]
    |false=>
     rw[aq (by simpa using m)]at a;cases q:decide (c.kind=21)with
     |true=>
      rw[ar (by simpa using q)]at a;simp[e,g,m,q,a]
     |false=>
      rw[aq (by simpa using q)]at a;simp[e,g,m,q,a]
def C3:gG:=⟨fU×Int×Int,λa=>[a.1.t,Z a.2.1,Z a.2.2],λa=>A5 a.1,λa=> .bool ((iN a.2.1 a.1.w.dL.length&&iN a.2.2 a.1.w.dL.length)&&a.1.w.gx.YZ a.2.1 a.2.2),λa c b=>by simp at b;rw[fU.inj b.1,b.2.1,b.2.2]⟩
def Tb:C3.Ok prog cx 74:=by
 refine fZ [(75,qd)] (iX 1238093369775042453301102031 [(3,[(8,14),(10,14),(11,14)])] func74) (λ_=>100) (by simp[C3]) ?_;rintro⟨f,a,b⟩ p h K;replace p:A5 f:=p;simp[C3]at K|-;obtain⟨D,i,u⟩:=K;cases z:(iN a f.w.dL.length&&iN b f.w.dL.length)with
 |false=>simp[f74,D,i,u,sJ,z,ig]
 |true=>
  have O:=z;rw[aB]at O;obtain⟨G,L⟩:=O;have⟨H,a1,a2,a3,a4,a5⟩:=p.w.at G;have⟨A,I,bi,T,U,bn⟩:=p.w.at L;have⟨S,P,aE,aN,b7⟩:=p.st G;have⟨Q,a6,a7,a8⟩:=vU aN U;have d:=GX.YZ.eq_1 f.w.gx a b;rw[a3,T,aE,a8]at d;generalize f.w.gx.YZ a b=R at*
  obtain⟨e,rfl,bN⟩:=lO.nat G;obtain⟨c,rfl,bT⟩:=lO.nat L;have b6:=p.w.ok.len;rw[cj]at a1 I P;by_cases bS:c<e;rotate_left
  ·rw[aM (show¬(c:Int)<e by omega)]at d;simp[f74,D,i,u,sJ,z,ig,d,show e<=c by omega]
  have Y:=RJ f.w.gx (lo:=(c:Int)+1) (hi:=e) (a:=c+1) (b:=e) (λo=> !decide (o.dP=A.dP)) J rfl;rw[Y,show f.w.gx.ev=f.w.dL from rfl,aV (show(c:Int)<e by omega)]at d;have X:binop .add (Z (c:Int)) (Z 1)=some (Z ((c:Int)+1)):=iL J J;have aX:kt ((c:Int)+1)=some (c+1):=by have:=eG (show(0:Int)<=((c+1:Nat):Int)by omega);simpa using this
  simp[f74,D,i,u,sJ,z,ig,show¬e<=c by omega,a1,I,pJ];refine ej (λs=>?_) (λs=>?_)
  ·have:R=false:=by
    rw[dh];intro g;rw[d]at g;simp only[aB,bY,aO,cg,bU]at g s;obtain⟨⟨⟨⟨⟨⟨⟨_,bB⟩,V⟩,r⟩,l⟩,bC⟩,bs⟩,bu⟩:=g;simp[V,r,l]at s;omega
   simp[this]
  simp only[cz,Bool.and_eq_false_iff,cH,bU,aO]at s;obtain⟨⟨⟨an,ap⟩,av⟩,aA⟩:=s;rw[aV ap,aV av,aM aA,show(decide (H.kind=18)||decide (H.kind=19))=true by simpa using an]at d;simp[-List.length_take,-List.length_drop,i,u,X,aX,show c+1<=e by omega,show e<=f.w.dL.length by omega];have bH:((f.w.dL.drop (c+1)).take (e-(c+1))).length<=16:=dz;generalize(f.w.dL.drop (c+1)).take (e-(c+1))=n at*
  refine fD n.length J (λy h g=>il 4 g/\g.get 0=some (dE 16 0 [f.t])/\g.get 2=some (dE 7 1 [H.t])/\g.get 3=some (dE 7 1 [A.t])/\((n.drop y).all λo=> !decide (o.dP=A.dP))=(n.all λo=> !decide (o.dP=A.dP))/\dF h 1 (Z e)/\dF h 3 (.ptr 0 0 0 0)/\dF h 7 (.ptr 2 0 0 0)/\dF h 8 (.ptr 3 0 0 0)/\dF h 67 (sl (n.map ez.t))/\dF h 68 (Z n.length)/\dF h 69 (Z y)) ?_ ?_ J ?_
  ·rintro y h g M W ⟨j,B,C,q,k,i,E,r,l,F,v,x⟩;have ae:=j.ne (b:=0) J;have al:=j.ne (b:=2) J;have N:=j.ne (b:=3) J;rw[aI M,cd]at k;simp[q,l,F,v,x,N,j.low,M];generalize n[y]=o at*
   refine ej (λm=>?_) (λm=>?_)
   ·rw[m]at k;rw[<-k]at d;simp at d;simp[d,j.hp]
   ·rw[m]at k;simp[i,E,r,l,F,v,x,W];exact⟨j.cons _,by simp[B,ae],by simp[C,al],by simp[q,N],by simpa using k⟩
  ·rintro h g ⟨j,B,C,q,k,i,E,r,l,F,v,x⟩;rw[bO]at k;rw[<-k]at d;simp at d;simp[B,q,i,E,l,v,x,P,a6,a7];refine ej (λm=>?_) (λm=>?_)
   ·rw[show decide (Q.ij=3)=false by simpa using m]at d;simp at d;simp[d,j.hp]
   ·rw[show decide (Q.ij=3)=true by simpa using m]at d;simp at d;simp[C,q,r,l,j.hp,d]
  ·simp[i]
def za:gG:=⟨fU×Int×Int,λa=>[a.1.t,Z a.2.1,Z a.2.2],λa=>A5 a.1/\iN a.2.1 a.1.w.dL.length=true/\iN a.2.2 a.1.w.dL.length=true,λa=> .bool (a.1.w.gx.Yi a.2.1 a.2.2),λa c b=>by simp at b;rw[fU.inj b.1,b.2.1,b.2.2]⟩
def QA:za.Ok prog cx 61:=by
 refine fZ [] (iX 18463641368405213903 [] func61) (λ_=>100) (by simp[za]) ?_;rintro⟨g,a,b⟩ ⟨l,p,z⟩ h D;simp only at l p z;simp[za]at D|-;obtain⟨C,u,v⟩:=D;have⟨i,a1,a2,a3,a4,a5⟩:=l.w.at p;have⟨W,B,Y,I,ae,al⟩:=l.w.at z;have⟨X,G,P,Q,aN⟩:=l.st p;have⟨S,T,U,V⟩:=vU Q a4;have d:=GX.Yi.eq_1 g.w.gx a b;rw[a3,I,P,V]at d;generalize g.w.gx.Yi a b=H at*
 obtain⟨c,rfl,ap⟩:=lO.nat p;obtain⟨e,rfl,aA⟩:=lO.nat z;have aE:=l.w.ok.len;rw[cj]at a1 B G;have M:=RJ g.w.gx (lo:=(c:Int)+1) (hi:=e) (a:=c+1) (b:=e) (GX.E6 i.dP) J rfl;rw[M,show g.w.gx.ev=g.w.dL from rfl]at d;have L:binop .add (Z (c:Int)) (Z 1)=some (Z ((c:Int)+1)):=iL J J;have R:kt ((c:Int)+1)=some (c+1):=by have:=eG (show(0:Int)<=((c+1:Nat):Int)by omega);simpa using this
 by_cases av:c<e;rotate_left
 ·rw[aM (show¬(c:Int)<e by omega)]at d;simp[f61,C,u,v,d,show e<=c by omega,a1]
 rw[aV (show(c:Int)<e by omega),aZ]at d;simp[f61,C,u,v,show¬e<=c by omega,a1,B,G,T,U];refine ej (λk=>?_) (λk=>?_)
 ·have:H=false:=by
   rw[d];cases N:decide (W.dP=i.dP)<;>cases O:S.atomic<;>simp[N,O]at k|-
  simp[this]
 simp only[cz,cH]at k;rw[k.1,k.2]at d;simp[-List.length_take,-List.length_drop,u,v,L,R,show c+1<=e by omega,show e<=g.w.dL.length by omega];have an:((g.w.dL.drop (c+1)).take (e-(c+1))).length<=16:=dz;generalize(g.w.dL.drop (c+1)).take (e-(c+1))=j at*
 refine fD j.length J (λq h s=>il 1 s/\(j.drop q).all (GX.E6 i.dP)=j.all (GX.E6 i.dP)/\dF h 7 (Z i.dP)/\dF h 50 (sl (j.map ez.t))/\dF h 51 (Z j.length)/\dF h 52 (Z q)) ?_ ?_ J ?_
 ·rintro q h s F K ⟨m,f,y,x,n,o⟩;rw[aI F,cd]at f;simp[y,x,n,o,m.low,F];generalize j[q]=r at*
  have E:GX.E6 i.dP r= !(decide (r.dP=i.dP)&&decide (r.kind=15)):=rfl;refine ej (λA=>?_) (λA=>?_)
  ·rw[E,A]at f;rw[<-f]at d;simp at d;simp[d,m.hp]
  ·rw[E,A]at f;simp[y,x,n,o,K];exact⟨m.cons _,by simpa using f⟩
 ·rintro h s ⟨m,f,y,x,n,o⟩;rw[bO]at f;rw[<-f]at d;simp at d;simp[n,o,m.hp,d]
 ·simp
def wt:gG:=⟨fU×kG,λe=>[e.1.t,e.2.t],λe=>A5 e.1/\iN e.2.a e.1.w.dL.length=true/\iN e.2.b e.1.w.dL.length=true/\iN e.2.c e.1.w.dL.length=true/\iN e.2.d e.1.w.dL.length=true,λe=> .bool (e.1.w.gx.Yb e.2.a e.2.b e.2.c e.2.d),λe g f=>by simp at f;rw[fU.inj f.1,kG.inj f.2]⟩
def Nv:wt.Ok prog cx 76:=by
 refine fZ [(120,ta)] (iX 63 [] func76) (λ_=>100) (by simp[wt]) ?_;rintro⟨a,⟨F,b,c,d,f,G⟩⟩ ⟨g,h,q,i,j⟩ K o;simp only at g h q i j;simp[wt]at o|-;obtain⟨y,z⟩:=o;have⟨L,a1,a2,a3,a4,a5⟩:=g.w.at h;have⟨H,r,s,t,B,C⟩:=g.w.at i;have⟨I,u,v,x,D,E⟩:=g.w.at j;have n:=GX.Yb.eq_1 a.w.gx b c d f;have l:=λ{k:fJ} (ht:k.p 120=some ta)=>CD ht a b d h i;have m:=λ{k:fJ} (ht:k.p 120=some ta)=>CD ht a f c j q;rw[show lq a.w.dL b=a.w.gx.e b from rfl,show lq a.w.dL d=a.w.gx.e d from rfl]at l;rw[show lq a.w.dL f=a.w.gx.e f from rfl,show lq a.w.dL c=a.w.gx.e c from rfl]at m;generalize a.w.gx.Yb b c d f=A at*
 generalize mU (a.w.gx.e b) (a.w.gx.e d)=p1 at*
 generalize mU (a.w.gx.e f) (a.w.gx.e c)=p2 at*
 rw[a3,t,x]at n;simp[f76,y,z,a1,a2,r,s,u,v,l,m,n]
def y9:gG:=⟨fU×List Int,λa=>[a.1.t,sl (a.2.map (T.int .i64))],λa=>A5 a.1/\a.2.length<=1000000,λa=> .bool (a.1.w.gx.Or a.1.w.gx.wV a.2),λa c b=>by simp at b;rw[fU.inj b.1,jx dy b.2]⟩
def RF{d:fJ}(ht:d.p 110=some uo)(a:fU)(c b:Int)(g:A5 a)(e:iN c a.w.dL.length=true)(f:iN b a.w.dL.length=true):rl prog cx d 110 [a.t,Z c,Z b]=some (.bool (a.w.gx.wV c b)):=im ht Nx (a,c,b) ⟨g,e,f⟩
def Qo:y9.Ok prog cx 73:=by
 refine fZ [(110,uo),(75,qd)] (iX 2361217299907134620023 [] func73) (λ_=>100) (by simp[y9]) ?_;rintro⟨f,a⟩ ⟨C,bn⟩ g W;simp only at C bn;simp[y9]at W|-;obtain⟨aN,i⟩:=W;have bS:=C.w.ok.len;have⟨D,s⟩:∃D,f.w.gx.Or f.w.gx.wV a=D:=⟨_,rfl⟩;rw[s];simp[f73,aN,i,Hk,show a.length<=1099511627776 by omega];refine ej (λB=>?_) (λB=>?_)
 ·have:D=false:=by
   rw[<-s];simp only[bY,aO,cg]at B;rcases B with(h|h)|h
   ·exact xy J
   ·exact xy J
   ·unfold mW at h;rw[List.all_eq_false]at h;obtain⟨d,v,bu⟩:=h;obtain⟨b,an,rfl⟩:=List.mem_iff_getElem.1 v;exact xy (.inr (.inr (.inl ⟨b,an,by simp[List.getD,an];exact(by simpa using bu:iN a[b] f.w.dL.length=false)⟩)))
  simp[this]
 simp only[cz,cH,bU]at B;obtain⟨⟨bT,b6⟩,av⟩:=B;have a8:2<=a.length:=J;have bi:a.length<=4:=J;have z:∀c (j:c<a.length),iN a[c] f.w.dL.length=true:=λc j=>by
  unfold mW at av;exact List.all_eq_true.1 av _ (aF j)
 have bs:∀c<a.length,iN (a.getD c 0) f.w.gx.ev.length=true:=λc j=>by simp[List.getD,j];exact z c j
 simp[i];generalize P:H.cons _ _=G;have V:G.get 0=some (dE 16 0 [f.t]):=by rw[<-P];simp
 have U:Hp G:=by rw[<-P];simp
 clear P;refine fD a.length J (λb g h=>G=h/\(∀c<b,G9 f.w.gx f.w.gx.wV a c=true)/\dF g 1 (sl (a.map (T.int .i64)))/\dF g 2 (.ptr 0 0 0 0)/\dF g 23 (sl (a.map (T.int .i64)))/\dF g 24 (Z a.length)/\dF g 25 (Z b)) ?_ ?_ J ?_
 ·rintro b g _ A X ⟨rfl,Q,i,l,r,n,o⟩;have S:∀c (j:c<a.length),a.getD c 0=a[c]:=λc j=>by simp[List.getD,j]
  have L:0<a.length:=J;have ap:=SI (b+1) a.length J J;have K:(b+1)% a.length<a.length:=Nat.mod_lt _ L;have u:G9 f.w.gx f.w.gx.wV a b=(!decide (a[b]<a[0])&&f.w.gx.wV (a[(b+1)% a.length]'K) a[b]&&(List.range b).all λd=> !decide ((f.w.gx.e a[b]).dP=(f.w.gx.e (a.getD d 0)).dP)):=by unfold G9;rw[S _ A,S _ L,S _ K]
  generalize(b+1)% a.length=m at*
  have aE:=λ{bC:fJ} (ht:bC.p 110=some uo)=>RF ht f a[m] a[b] C (z m K) (z b A);have⟨x,a1,a2,a3,a4,a5⟩:=C.w.at (z b A);rw[a3]at u;simp at ap;have Y:G9 f.w.gx f.w.gx.wV a b=false->D=false:=λh=>by rw[<-s];exact xy (.inr (.inr (.inr ⟨b,A,h⟩)))
  simp[V,i,l,r,n,o,A,X,L,ap,K,aE];refine ej (λk=>?_) (λk=>?_)
  ·have:G9 f.w.gx f.w.gx.wV a b=false:=by
    rw[u,dh];intro h;simp only[aB,cg,bU]at h;simp[h.1.2]at k;omega
   simp[Y this,U]
  ·simp only[cz,cH,bU]at k;rw[k.2,aM k.1]at u;simp[-List.length_take,i,show b<=a.length by omega];have⟨q,O⟩:∃q,q=a.take b:=⟨_,rfl⟩;rw[<-O];have a7:q.length=b:=by rw[O];simp;omega
   have bB:∀d (v:d<q.length) (hl:d<a.length),q[d]=a[d]:=λd v hl=>by subst O;exact List.getElem_take
   refine fD b J (λd g h=>G=h/\(∀c<d,decide (x.dP=(f.w.gx.e (a.getD c 0)).dP)=false)/\dF g 1 (sl (a.map (T.int .i64)))/\dF g 2 (.ptr 0 0 0 0)/\dF g 6 (Z a[b])/\dF g 23 (sl (a.map (T.int .i64)))/\dF g 24 (Z a.length)/\dF g 25 (Z b)/\dF g 51 (sl (q.map (T.int .i64)))/\dF g 52 (Z b)/\dF g 53 (Z d)) ?_ ?_ J ?_
   ·rintro d g _ al a6 ⟨rfl,R,i,l,N,r,n,o,M,E,F⟩;have I:d<a.length:=J;have⟨y,bH,bN,aA,b7,b8⟩:=C.w.at (z d I);have ae:d<q.length:=J;have aX:=bB d ae I;simp[V,l,N,M,E,F,al,ae,aX,a1,a2,bH,bN];refine ej (λk=>?_) (λk=>?_)
    ·have:G9 f.w.gx f.w.gx.wV a b=false:=by
      rw[u];simp;exact⟨d,al,by simpa[I,aA]using k⟩
     simp[Y this,U]
    ·simp[i,l,N,r,n,o,M,E,F,a6];intro c j;rcases aR c d with h|h
     ·simpa using R c h
     ·rw[show c=d by omega];simp[I,aA];simpa using k
   ·rintro g _ ⟨rfl,R,i,l,N,r,n,o,M,E,F⟩;simp[i,l,r,n,o,E,F,X];intro c j;rcases aR c b with h|h
    ·exact Q c h
    ·rw[show c=b by omega,u];simp;intro d v;simpa using R d v
   ·simp[i,l,r,n,o,a7]
 ·rintro g _ ⟨rfl,Q,i,l,r,n,o⟩;rw[Q7 a8 bi bs Q]at s;simp[n,o,s.symm,U]
 ·simp[i]
theorem lO.cells{a:dW}(g:lO a):Hy a:=λd h e=>by
 have⟨i,f⟩:=cF h;have hl:i<a.dL.length:=(List.getElem?_eq_some_iff.1 f).1;have⟨k,b,l,m,n,c⟩:=g.at (i:=i) (eZ.2 ⟨J,by simpa using hl⟩);rw[cj,f]at b;simp only[au]at b;subst b;have j:d.kind=3\/d.kind=4:=by unfold Cc at e;simpa using e
 unfold jE at c;rw[aq J,ar j]at c;exact c
def Jb{f:fJ}(ht:f.p 75=some qd)(a:fU)(b c d e:Int):rl prog cx f 75 [a.t,sl [Z b,Z c,Z d,Z e]]=some (.bool (iN b a.w.dL.length&&iN c a.w.dL.length&&iN d a.w.dL.length&&iN e a.w.dL.length)):=by
 have:=Hk ht a [b,c,d,e] dy;simpa[mW,Bool.and_assoc]using this
def O7{a:fU}(d:A5 a)(b c:Int):Be a.w b c=((iN b a.w.dL.length&&iN c a.w.dL.length)&&a.w.gx.rac b c):=by
 unfold Be GX.rac GX.e dW.gx;cases iN b a.w.dL.length<;>cases iN c a.w.dL.length<;>simp
 ac_rfl
def yV:gG:=⟨fU×kG,λa=>[a.1.t,a.2.t],λa=>A5 a.1/\a.2.kF.length<=1000000,λa=> .bool (a.1.w.gx.vG a.2),λa c b=>by simp at b;rw[fU.inj b.1,kG.inj b.2]⟩
def PN:yV.Ok prog cx 34:=by
 refine fZ [(72,Ax),(73,y9),(74,C3),(75,qd),(61,za),(76,wt)] (iX 2417851783344448572752095 [] func34) (λ_=>100) (by simp[yV]) ?_;rintro⟨f,e⟩ ⟨j,v⟩ G u;simp only at j v;simp[yV]at u|-;obtain⟨l,m⟩:=u;have g:=GX.vG.eq_1 f.w.gx e;simp only[show∀x,f.w.gx.BI x=iN x f.w.dL.length from λ_=>rfl]at g;generalize f.w.gx.vG e=F at*
 cases i:decide (e.kind=1)with
 |true=>
  rw[ar (by simpa using i)]at g;have o:∀{h:fJ},h.p 72=some Ax->rl prog cx h 72 [f.t,Z e.a,Z e.b]=some (.bool ((iN e.a f.w.dL.length&&iN e.b f.w.dL.length)&&f.w.gx.rac e.a e.b)):=λht=>by rw[<-O7 j];exact X2 ht f e.a e.b j.w.cells
  simp[f34,l,m,i,o,g]
  try ac_rfl
 |false=>
  rw[aq (by simpa using i)]at g;cases k:decide (e.kind=2)with
  |true=>
   rw[ar (by simpa using k)]at g;have o:∀{h:fJ},h.p 73=some y9->rl prog cx h 73 [f.t,sl (e.kF.map (T.int .i64))]=some (.bool (f.w.gx.Or f.w.gx.wV e.kF)):=λht=>im ht Qo (f,e.kF) ⟨j,v⟩;simp[f34,l,m,i,k,o,g,GX.dead]
  |false=>
   rw[aq (by simpa using k)]at g;cases n:decide (e.kind=3)with
   |true=>
    rw[ar (by simpa using n)]at g;have o:∀{h:fJ},h.p 74=some C3->rl prog cx h 74 [f.t,Z e.a,Z e.b]=some (.bool ((iN e.a f.w.dL.length&&iN e.b f.w.dL.length)&&f.w.gx.YZ e.a e.b)):=λht=>im ht Tb (f,e.a,e.b) j;simp[f34,l,m,i,k,n,o,g]
    try ac_rfl
   |false=>
    rw[aq (by simpa using n)]at g;cases q:decide (e.kind=4)with
    |false=>
     rw[aq (by simpa using q)]at g;simp[f34,l,m,i,k,n,q,g]
    |true=>
     rw[ar (by simpa using q)]at g;cases r:(iN e.a f.w.dL.length&&iN e.b f.w.dL.length&&iN e.c f.w.dL.length&&iN e.d f.w.dL.length)with
     |false=>
      rw[r]at g;cases s:decide (e.kF=[])<;>simp[f34,l,m,i,k,n,q,Jb,ig,r,g,s]
     |true=>
      rw[r]at g;have A:=r;simp only[aB]at A;obtain⟨⟨⟨y,z⟩,D⟩,E⟩:=A;have B:∀{h:fJ},h.p 61=some za->rl prog cx h 61 [f.t,Z e.a,Z e.b]=some (.bool (f.w.gx.Yi e.a e.b)):=λht=>im ht QA (f,e.a,e.b) ⟨j,y,z⟩;have C:∀{h:fJ},h.p 76=some wt->rl prog cx h 76 [f.t,e.t]=some (.bool (f.w.gx.Yb e.a e.b e.c e.d)):=λht=>im ht Nv (f,e) ⟨j,y,z,D,E⟩;cases s:decide (e.kF=[])<;>simp[f34,l,m,i,k,n,q,Jb,ig,r,B,C,g,s]
def Uc{c:fJ}(ht:c.p 34=some yV)(b:fU)(a:kG)(d:A5 b)(hl:a.kF.length<=1000000):rl prog cx c 34 [b.t,a.t]=some (.bool (b.w.gx.vG a)):=im ht PN (b,a) ⟨d,hl⟩
def cv8(b:H)(a:Int)(c:0<=a)(d:a<256):Zg cx b 302 5 ty5 (.int .u64 a)=some (.val (.int .u8 a) b):=by
 refine Hc Q9 rfl ?_;rw[jA];unfold IntKind.wrap;simp[IntKind.bits,IntKind.signed];omega
def LD:nS prog cx 214 (λa:Nat=>[.int .u64 a]) (λa=>a<=11) (λ_=>FR):=by
 refine jh [] (iX 16661 [] func214) (λ_=>10) (λe f c=>by simp at c;omega) ?_;rintro(a:Nat) g h b;simp at b;have d:a=0\/a=1\/a=2\/a=3\/a=4\/a=5\/a=6\/a=7\/a=8\/a=9\/a=10\/a=11:=J;rcases d with rfl|rfl|rfl|rfl|rfl|rfl|rfl|rfl|rfl|rfl|rfl|rfl<;>simp at b<;>simp[f214,b,cv8,oG]
def R1{c:jd}{g h:Nat}{d:DL}(i b:Code)(e:Env)(f:H)(a:iS):W (jy cx c h g d (.cond (.const (Value.bool false)) i b) e f) a=W (jy cx c h g d b e f) a:=rfl
def Vs:nS prog cx 165 (λa:Nat=>[.int .u64 a]) (λa=>a<=11) (λ_=>FR):=by
 refine jh [(214,LD.jv)] (iX 5 [] func165) (λ_=>10) (λf g d=>by simp at d;omega) ?_;rintro(a:Nat) e i b;simp at b;obtain⟨_,⟨h,rfl⟩,c⟩:=LD.use a e;simp[f165,b,c,R1]
def Ve(a:R6)(c:List T)(b:H):Prop:=c=[a.v]/\Gr b a.v 1 (ge (a.A++[a.t]))/\il 0 b/\Jt a.A/\a.t∉a.A/\a.A.length<=10
def cvu(b:H)(a:Int)(c:0<=a)(d:a<256):Zg cx b 3 264 OB (Z a)=some (.val (.int .u64 a) b):=by
 refine Hc TS rfl ?_;rw[jA];unfold IntKind.wrap;simp[IntKind.bits,IntKind.signed];omega
def WH:(jM R6 Ve Gp).Ok prog cx 114:=by
 refine jB (tb:=⟨pt [(165,Vs.jv)],ht [(164,jM (R6×Int) Vf Pq)]⟩) iR iE (iX 5 [] func114) (λ_ _=>100) (λs q c l=>by obtain⟨rfl,_⟩:=l;simp[f114]) ?_;rintro⟨a,h,i⟩ _ c ⟨rfl,b,p,e,ht,hl⟩ u f;simp only at b e ht hl;simp at f;have g:=λk:H=>b.len (cx:=cx) k qm _ rfl;simp at g;have m:Gr (TI.hr c) i 1 (ge (a++[h])):=b.mono λj _=>ik c j;obtain⟨_,⟨o,rfl⟩,d⟩:=Vs.use (a.length+1) J;simp at d;simp[f114,f,g,cvu,show(a.length:Int)+1<256 by omega,show(0:Int)<=(a.length:Int)+1 by omega,d];refine iC abb dy (⟨a,h,i⟩,o) ⟨dy,m,p.hr,e,ht,hl⟩ ?_;rintro t r n;simp;exact VT.out n
structure ICo where
 (l:List Int) (v:T)
def Vn(a:ICo)(c:List T)(b:H):Prop:=c=[a.v]/\Gr b a.v 1 (ge a.l)/\il 0 b/\Jt a.l/\a.l.length<=1000
def Py(c:ICo)(e:List T)(a:H)(d:T)(b:H):Prop:=d=c.v/\Nb a b
def Nu:(jM ICo Vn Py).Ok prog cx 115:=by
 refine jB (tb:=⟨pt [],ht []⟩) iR iE (iX 17596514574653 [] func115) (λ_ _=>1005) (λi D a A=>by obtain⟨rfl,_⟩:=A;simp[f115]) ?_;rintro⟨b,f⟩ _ a ⟨rfl,h,C,m,hl⟩ g c;simp only at h m hl;simp at c;have e:=λw:H=>h.len (cx:=cx) w qm _ rfl;rw[aH]at e;have n:Gr (TI.hr a) f 1 (ge b):=h.mono λq _=>ik a q;have o:Nb a (md a (TI.hr a)):=(Nb.refl C.hr).out;simp[f115,c,e];refine ej (λp=>?_) (λp=>?_)
 ·simp[c];exact⟨rfl,o⟩
 have G:2<=b.length:=by simp at p;omega
 simp;refine Ce b.length (λk g v=>TI.hr a=v/\1<=k/\dF g 0 f/\dF g 3 (Z k)) ?_ J (k:=1) J (by simp[c]);rintro k g _ F ⟨rfl,E,j,l⟩;by_cases d:k<b.length
 ·have y:binop .add (Z (k:Int)) (Z 1)=some (Z ((k:Int)+1)):=iL J J;have B:binop .sub (Z (k:Int)) (Z 1)=some (Z ((k-1:Nat):Int)):=by rw[kU J J];congr 2;omega
  have⟨p1,r,s⟩:=(show pY (TI.hr a) 1 f _ from .inr n).idx (te:=EM) rfl rfl (i:=k) (x:= Z b[k]) (by simp[d]) rfl;have⟨p2,t,u⟩:=(show pY (TI.hr a) 1 f _ from .inr n).idx (te:=EM) rfl rfl (i:=k-1) (x:= Z b[k-1]) (by simp[show k-1<b.length by omega]) rfl;have z:¬b[k]=b[k-1]:=by
   have:=List.pairwise_iff_getElem.1 m (k-1) k J d J;omega
  simp[j,l,e,d,B,r,s,t,u,z,y];exact⟨k+1,J,J,J,dy⟩
 ·simp[j,l,e,d];exact⟨rfl,o⟩
structure La where
 (P Q:List Int) (t:Int) (v:T) (b:Nat) (bx:iY)
def fnT(a:La):T:= .func 117 [.ptr a.b 0 0 0]
def Ye(c:H)(a:La):Prop:=c.get a.b=some (dE 1 0 [Z a.t])
def Pk(a:La×Int)(d:List T)(c:H):Prop:=d=[Z a.2,.ptr a.1.b 0 0 0]/\Ye c a.1/\il 0 c
def JX(a:La×Int)(e:List T)(b:H)(d:T)(c:H):Prop:=d= .bool (decide (a.2=a.1.t))/\Nb b c
def Ql:(jM (La×Int) Pk JX).Ok prog cx 117:=by
 refine jB (tb:=⟨pt [],ht []⟩) iR iE (iX 11 [] func117) (λ_ _=>10) (λo m a h=>by obtain⟨rfl,_⟩:=h;simp[f117]) ?_;rintro⟨⟨k,l,j,p,b,n⟩,r⟩ _ a ⟨rfl,f,i⟩ q c;simp at c;obtain⟨d,e⟩:=c;have g:(TI.hr a).get b=some (dE 1 0 [Z j]):=(ik a b).trans f;simp[f117,d,e,g];exact⟨rfl,(Nb.refl i.hr).out⟩
def Vk(a:La)(c:List T)(b:H):Prop:=c=[a.v,fnT a]/\Ye b a/\il 0 b/\Gr b a.v 1 (ge (a.P++a.t::a.Q))/\a.t∉a.P/\a.P.length+a.Q.length<=1000
def Pv(c:La)(e:List T)(a:H)(d:T)(b:H):Prop:=d= Z c.P.length/\Nb a b
def Ij:(jM La Vk Pv).Ok prog cx 166:=by
 refine jB (tb:=⟨pt [],ht [(117,jM (La×Int) Pk JX)]⟩) iR iE (iX 66483 [] func166) (λ_ _=>2000) (λi P p I=>by obtain⟨rfl,_⟩:=I;simp[f166]) ?_;rintro⟨a,e,j,l,o,A⟩ _ p ⟨rfl,u,N,m,ht,hl⟩ d t;simp only at m ht hl;simp[fnT]at t;obtain⟨g,c⟩:=t;have v:=λc:H=>m.len (cx:=cx) c qm _ rfl;simp at v;have z:∀b,dT l=some b->b<p.size:=λb q=>by have⟨_,_,_,_,M,_⟩:=m.box q;exact H.fh M
 simp[f166,g,v];refine Ce a.length (λk d f=>Nb (TI.hr p) f/\dF d 0 l/\dF d 1 (.func 117 [.ptr o 0 0 0])/\dF d 7 (Z ((a.length:Int)+((e.length:Int)+1)))/\dF d 8 (Z k)) ?_ J (k:=0) J ⟨Nb.refl N.hr,by simp[g,c]⟩;rintro k d f R ⟨h,g,c,r,s⟩;have O:il 0 f:=⟨h.ok.hp,h.ok.low,ax _⟩;have y:=h.hr;have D:Gr f l 1 (ge (a++j::e)):=m.mono λb q=>y.get b (z b q);have E:binop .add (Z (k:Int)) (Z 1)=some (Z ((k:Int)+1)):=iL J J;have⟨x,n⟩:∃x,(a++j::e)[k]? =some x:=⟨_,az dz⟩;have⟨p1,B,C⟩:=(show pY f 1 l _ from .inr D).idx (te:=EM) rfl rfl (i:=k) (x:= Z x) (by rw[aS,n];rfl) rfl;simp[g,c,r,s,show(k:Int)<(a.length:Int)+((e.length:Int)+1)by omega,B,C];refine iC Ql dy (⟨a,e,j,l,o,A⟩,x) ⟨rfl,(y.get o (H.fh u)).trans u,O⟩ ?_;rintro _ Q ⟨rfl,w⟩;simp;by_cases G:k<a.length
 ·have K:¬x=j:=by
   rw[cK G]at n;rintro rfl;exact ht (ay n)
  simp[g,c,r,s,K,E];exact⟨k+1,J,J,h.trans w,dy⟩
 ·have F:k=a.length:=J;subst F;have L:x=j:=by simpa using n.symm
  simp[L];exact⟨rfl,(h.trans w).out⟩
def Wf(f:H)(g j:Ty)(h:ab)(b d e a c:Nat)(k:iY)(i:g.u= .slice h)(ht:cx.ty h=some j)(m:f.get b=some k)(o:k.sz=j.size)(n:c<=a):Ol cx f g (.arr b d e a false) (some c) none none=some (.val (.arr b d (e+c) (a-c) false) f):=by
 unfold Ol;have l:jG cx f g.u (.arr b d e a false)=true:=by
  rw[i];unfold jG;simp only[ht,m,o,Nat.beq_refl]
 rw[l,iH,show AG none none=true from rfl,iH,show asSlice g.u (.arr b d e a false)= .arr b d e a false by rw[i];rfl];show val f (gJ (Nat.ble c a) (gJ (Nat.ble a a) (dV (ir (Nat.add e c)) λq=>dV (ir (Nat.sub a c)) λp=>some (T.arr b d q p false))))=_;simp[n]
def QD{d:Nat}{b:Env}{c:H}(a:List ah)(e:af ab):jr (.call ⟨.builtin .clear,a.toArray,e⟩) cx d b c=dV (fQ (fO cx d b) a) λf=>lA .clear cx c e.toList f:=by
 show(dV (qz cx d b a) λa=>lA .clear cx c e.toList a)=_;rw[H9]
def XY{b:H}{c a g d:Nat}{f:Bool}{e:List T}(l:Hp b)(h:b.get c=some ⟨1,a,g,f,false,e⟩)(k:d<e.length):lA .clear cx b [39] [.arr c a d 1 false]=some (.val .undef (dZ b c ⟨1,a,g+1,f,false,e.set d (Z 0)⟩)):=by
 show Ey cx b 39 (.arr c a d 1 false)=_;unfold Ey pX;rw[j9,ed];simp only[show qm.u= .slice 3 from rfl,mY,ed];rw[h,ed];simp only[HZ l (H.fh h)];show gJ (Nat.beq a a) (gJ (Nat.beq 1 1) (dV (kX e d [Z 0]) λi=>dV (ir g.succ) λm=>dV (some (dZ b c ⟨1,a,m,f,false,i⟩)) λj=>some (lP.val T.undef j)))=_;rw[ud,ar dz,Nat.beq_refl,iH,show Nat.beq 1 1=true from rfl,iH,ed,iO,ed,ed,List.set_eq_take_append_cons_drop,ar k];simp
def Vm(a:La)(d:List T)(c:H):Prop:=d=[a.v,fnT a]/\Ye c a/\il 0 c/\Gr c a.v 1 (ge (a.P++a.t::a.Q))/\a.t∉a.P/\a.t∉a.Q/\a.P.length+a.Q.length<=1000/\dT a.v≠some a.b
def Px(b:La)(f:List T)(c:H)(e:T)(d:H):Prop:=Gr d e 1 (ge (b.P++b.Q))/\dT e=dT b.v/\il c.size d/\∀a,a<c.size->dT b.v≠some a->d.get a=c.get a
def Q6{P b:List Int}{t:Int}{a:Nat}(d:a<b.length):(ge (P++b.take a++(t::b).drop a)).set (P.length+a) (Z b[a])=ge (P++b.take (a+1)++(t::b).drop (a+1)):=by
 rw[<-br,List.set_append_right _ _ dz];have c:(t::b).drop a=(t::b)[a]' dz::(t::b).drop (a+1):=aI dz;rw[c,show P.length+a-(P++b.take a).length=0 by simp;omega,cq,aQ d];show ge _=ge _;congr 1;simp only[cO,cy,List.nil_append]
def Gu:(jM La Vm Px).Ok prog cx 116:=by
 refine jB (tb:=⟨pt [],ht [(117,jM (La×Int) Pk JX),(166,jM La Vk Pv)]⟩) iR iE (iX 537399539 [] func116) (λ_ _=>2000) (λi a h b6=>by obtain⟨rfl,_⟩:=b6;simp[f116]) ?_;rintro⟨P,c,t,F,A,an⟩ _ h ⟨rfl,U,c1,C,a6,a7,hl,ae⟩ z aE;simp only at C a6 a7 hl ae;simp[fnT]at aE;obtain⟨s,p⟩:=aE;have L:=λp:H=>C.len (cx:=cx) p qm _ rfl;simp at L;have bn:∀b,dT F=some b->b<h.size:=λb g=>by have⟨_,_,_,_,cp,_⟩:=C.box g;exact H.fh cp
 simp[f116,s,p];refine iC Ij dy ⟨P,c,t,F,A,an⟩ ⟨rfl,(ik h A).trans U,c1.hr,C.mono λb _=>ik h b,a6,hl⟩ ?_;rintro _ dm ⟨rfl,cL⟩;have bB:binop .add (Z (P.length:Int)) (Z 1)=some (Z ((P.length:Int)+1)):=iL J J;simp[show¬((P.length:Int)=-1)by omega,bB];have al:=cL.hr;refine Ce c.length (λd z h'=>il h.size h'/\Gr h' F 1 (ge (P++c.take d++(t::c).drop d))/\(∀b,b<h.size->dT F≠some b->h'.get b=h.get b)/\dF z 0 F/\dF z 1 (.func 117 [.ptr A 0 0 0])/\dF z 5 (Z ((P.length+d:Nat):Int))/\dF z 6 (Z ((P.length+d+1:Nat):Int))) ?_ J (k:=0) J ⟨al.ok,by simpa using C.mono λb g=>al.get b (bn b g),λb g _=>al.get b g,by simp[s,p]⟩;rintro d z h' dn ⟨w,D,R,s,p,S,G⟩;have a8:il 0 h':=⟨w.hp,w.low,ax _⟩;have⟨i,aN⟩:∃i,i=P.length+d:=⟨_,rfl⟩;have⟨j,u⟩:∃j,j=P.length+(c.length+1):=⟨_,rfl⟩;have bS:(P.length:Int)+((c.length:Int)+1)=j:=J;rw[<-aN]at S G;rw[bS]at L;have T:(ge (P++c.take d++(t::c).drop d)).length=j:=dz;have bC:binop .add (Z (i:Int)) (Z 1)=some (Z ((i:Int)+1)):=iL J J;have bH:binop .add (Z ((i:Int)+1)) (Z 1)=some (Z ((i:Int)+1+1)):=iL J J;by_cases Y:d<c.length
 ·have B:(P++c.take d++(t::c).drop d)[i+1]? =some c[d]:=by
   rw[cV dz,bL];rw[show d+(i+1-(P++c.take d).length)=d+1 by simp;omega];simp[Y]
  have⟨f,bs⟩:∃f,(P++c.take d++(t::c).drop d)[i]? =some f:=⟨_,az dz⟩;have⟨e,m,y,q,o,n,l,K,I⟩:=D.at (x:= Z c[d]) (i:=i+1) (by rw[aS,B];rfl);have⟨c7,dd,ds,di,ea,V,W,ca,aX⟩:=D.at (x:= Z f) (i:=i) (by rw[aS,bs];rfl);rw[n]at V;simp at V;obtain⟨rfl,rfl⟩:=V;rw[l]at W;simp at W;obtain⟨rfl,rfl,rfl⟩:=W;rw[T]at n I aX;have ap:=Q6 (P:=P) (t:=t) Y;rw[<-aN]at ap;generalize b8:c[d]=N at*
  have b9:¬N=t:=λk=>a7 (by rw[<-k,<-b8];exact aF Y);subst n;simp at ae;have c6:kt ((i:Int)+1)=some (i+1):=by have:=eG (show(0:Int)<=((i+1:Nat):Int)by omega);simpa using this
  simp[s,p,G,L,show(i:Int)+1<j by omega,c6,l,K,I];refine iC Ql dy (⟨P,c,t,.arr e m 0 j false,A,an⟩,N) ⟨rfl,(R A (H.fh U) (by simpa using ae)).trans U,a8⟩ ?_;rintro _ E ⟨rfl,v⟩;have X:=(v.get e (H.fh l)).trans l;have r:∀f b,(dZ E e f).get b=if b=e then some f else E.get b:=λf b=>dN X f b;simp[s,p,S,G,b9,X,ca,aX,bC,bH];have M:il h.size E:=⟨v.ok.hp,v.ok.low,aT w.sz v.ok.sz⟩;have aA:=(D.mono (h':=E) λb g=>v.get b (by simp at g;have:=H.fh l;omega)).setAt rfl X i (Z N) (h':=dZ E e ⟨1,m,y+1,q,false,o.set i (Z N)⟩) (ver2:=y+1) (ex2:=q) (by rw[r,ar rfl]);rw[ap,cO]at aA;have ec:=w.sz;exact⟨d+1,J,J,M.put _ _,aA,λb g u=>by rw[r,aq (λO=>u O.symm),v.get b J];exact R b g (by simpa using u),J⟩
 ·have bN:d=c.length:=J;subst bN;have⟨e,m,y,q,o,n,l,K,I⟩:=D.at (x:= Z ((P++c.take c.length++(t::c).drop c.length)[i]' dz)) (i:=i) (by rw[aS,az dz];rfl);rw[T]at n I;have cb:i<o.length:=by
   rcases aR i o.length with k|k
   ·exact k
   ·rw[bK k]at K;simp at K
  have bu:o.take j=ge (P++c.take c.length++(t::c).drop c.length):=by
   rcases D with⟨rfl,_⟩|⟨c9,de,dv,dk,eb,B,Q,av⟩
   ·simp at n
   ·rw[n]at B;simp at B;obtain⟨rfl,rfl,_⟩:=B;rw[l]at Q;simp at Q;obtain⟨_,_,rfl⟩:=Q;rw[T]at av;exact av
  subst n;have r:∀f b,(dZ h' e f).get b=if b=e then some f else h'.get b:=λf b=>dN l f b;have bT:j-i=1:=J;have bi:=Wf h' qm EM _ e m 0 j i _ rfl mY l rfl J;rw[bT,cA]at bi;have c4:=Lq (cx:=cx) (h:=dZ h' e ⟨1,m,y+1,q,false,o.set i (Z 0)⟩) qm EM _ e m 0 j i false _ rfl mY (by rw[r,ar rfl]) rfl J;simp[s,S,G,L,show¬(i:Int)+1<j by omega,bi,QD,XY a8.hp l cb,c4];have M:=(w.put e ⟨1,m,y+1,q,false,o.set i (Z 0)⟩).out h;refine⟨.inr ⟨e,m,y+1,q,o.set i (Z 0),?_,by rw[fV,r,ar rfl],?_⟩,rfl,⟨M.hp,M.low,by simpa using w.sz⟩,λb g u=>by
   rw[fV,r,aq (λO=>u (by rw[O];rfl))];exact R b g u⟩
  ·simp;omega
  ·have b7:(ge (P++c)).length=i:=dz;rw[b7,List.take_set_of_le (aw _)];have:=bE (List.take i) bu;rw[List.take_take,ci J]at this;rw[this,aK];show List.take i (ge (P++c++(t::c).drop c.length))=ge (P++c);rw[ge,List.map_append,cU dz,bJ dz]
section
def RS{g i:Type}{f:g->i->Prop}:∀{b:List g} {a:List i},b.length=a.length->(∀(d:Nat) e c,b[d]? =some e->a[d]? =some c->f e c)->iM f b a:=by
 intro b;induction b with
 |nil=>intro a hl _;cases a with
  |nil=>exact .nil
  |cons c a=>simp at hl
 |cons e b l=>intro a hl h;cases a with
  |nil=>simp at hl
  |cons c a=>exact .cons (h 0 e c rfl rfl) (l (by simpa using hl) λd m n j k=>h (d+1) m n (by simpa using j) (by simpa using k))
def Hu{b c:Type}{d:b->c->Prop}{f:List b}{g:List c}(k:iM d f g){e:Nat}{i:b}{j:c}(l:f[e]? =some i)(m:g[e]? =some j):d i j:=by
 have⟨o,a,n⟩:=k.get m;rw[l]at a;simp only[au]at a;rw[a];exact n
structure EJ(w:dY)(t:Int)(c0 c2 c3:T)(h:H)(es:List T)(S:fq)(ver:Nat):Prop where
 sy:Cf 4 h.size h c0 c2 c3 es S
 ok:il 0 h
 g0:h.get 0=some (dE 6 0 [w.t])
 g1:h.get 1=some (dE 4 ver [.agg [c0,Z S.tx,c2,c3]])
 g2:h.get 2=some (dE 1 0 [Z t])
 g3:h.get 3=some (dE 4 0 [.agg [dD,Z 0,dD,dD]])
section
variable {w:dY}{t:Int}{c0 c2 c3:T}{h h':H}{es:List T}{S:fq}{ver:Nat}
theorem EJ.put(a:EJ w t c0 c2 c3 h es S ver){b:Nat}{x:iY}(d:h.get b=some x)(j:4<=b){g:iY}{f:List T}{e:fq}(i:Cf 4 h.size (dZ h b g) c0 c2 c3 f e)(ht:e.tx=S.tx):EJ w t c0 c2 c3 (dZ h b g) f e ver:=
 ⟨by rw[fK];exact i,a.ok.put _ _,by rw[dN d,aq J];exact a.g0,by rw[dN d,aq J,ht];exact a.g1,by rw[dN d,aq J];exact a.g2,by rw[dN d,aq J];exact a.g3⟩
def EJ.nT(c:EJ w t c0 c2 c3 h es S ver){a e k:Nat}{f:Bool}{l:List T}(g:dT c3=some a)(j:h.get a=some ⟨3,e,k,f,false,l⟩){i:Nat}{me:dJ}(m:S.dH[i]? =some me)(d:dJ->dJ):
 EJ w t c0 c2 c3 (dZ h a ⟨3,e,k+1,f,false,l.set i (d me).t⟩) es {S with dH:=S.dH.modify i d} ver:=by
 have:=c.put j (c.sy.b a (.inr (.inr g))).1 (c.sy.nT g j i (d me)) rfl;rw[oz m];exact this
def EJ.pw(g:EJ w t c0 c2 c3 h es S ver){d i m:Nat}{j:Bool}{n:List T}(k:dT c0=some d)(l:h.get d=some ⟨2,i,m,j,false,n⟩){c:Nat}{f:dR}(hl:S.ei[c]? =some f)(e:dR->dR){rv:T}(hr:pY h 1 rv (ge (e f).ew))(o:∀a,dT rv=some a->4<=a/\a<h.size/\dT c0≠some a/\dT c2≠some a/\dT c3≠some a):
 EJ w t c0 c2 c3 (dZ h d ⟨2,i,m+1,j,false,n.set c (.agg [Z (e f).iB,rv])⟩) (es.set c (.agg [Z (e f).iB,rv])) {S with ei:=S.ei.modify c e} ver:=by
 have:=g.put l (g.sy.b d (.inl k)).1 (g.sy.pw k l c hr o) rfl;rw[oz hl];exact this
def EJ.Zf(c:EJ w t c0 c2 c3 h es S ver){a f k:Nat}{g:Bool}{l:List T}(i:dT c2=some a)(j:h.get a=some ⟨1,f,k,g,false,l⟩)(d:Nat)(e:Bool):EJ w t c0 c2 c3 (dZ h a ⟨1,f,k+1,g,false,l.set d (.bool e)⟩) es {S with done:=S.done.set d e} ver:=
 c.put j (c.sy.b a (.inr (.inl i))).1 (c.sy.Zf i j d e) rfl
def EJ.tx(a:EJ w t c0 c2 c3 h es S ver)(b:Int):EJ w t c0 c2 c3 (dZ h 1 (dE 4 (ver+1) [.agg [c0,Z b,c2,c3]])) es {S with tx:=b} (ver+1):=
 ⟨by rw[fK];exact(a.sy.tx b).mono (aw _) λc d _=>by rw[dN a.g1,aq J],a.ok.put _ _,by rw[dN a.g1,aq J];exact a.g0,by rw[dN a.g1,ar rfl],by rw[dN a.g1,aq J];exact a.g2,by rw[dN a.g1,aq J];exact a.g3⟩
def EJ.aaG(c:EJ w t c0 c2 c3 h es S ver){l:List dJ}(j:Yo h h' c3 l):EJ w t c0 c2 c3 h' es {S with dH:=l} ver:=by
 have k:∀a,a<4->dT c3≠some a:=λa d f=>by have:=(c.sy.b a (.inr (.inr f))).1;omega
 have r:=j.ok.sz;have e:∀a,dT c3≠some a->a<h.size->h'.get a=h.get a:=λa f d=>j.fr a d f;refine⟨⟨c.sy.g0.mono λa d=>e a (λf=>?_) (c.sy.b a (.inl d)).2,c.sy.g2.mono λa d=>e a (λf=>?_) (c.sy.b a (.inr (.inl d))).2,j.g,c.sy.el.imp λp q ⟨o,m,n,i⟩=>⟨o,m,n.mono λa d=>e a (i a d).2.2.2.2 (i a d).2.1,λa d=>⟨(i a d).1,by have:=(i a d).2.1;omega,(i a d).2.2⟩⟩,λa d=>⟨(c.sy.b a d).1,by have:=(c.sy.b a d).2;omega⟩⟩,⟨j.ok.hp,j.ok.low,ax _⟩,(e 0 (k 0 J) (H.fh c.g0)).trans c.g0,(e 1 (k 1 J) (H.fh c.g1)).trans c.g1,(e 2 (k 2 J) (H.fh c.g2)).trans c.g2,(e 3 (k 3 J) (H.fh c.g3)).trans c.g3⟩
 ·exact c.sy.g0.ne c.sy.g3 dB a d f
 ·exact c.sy.g2.ne c.sy.g3 dB a d f
def EJ.abF(d:EJ w t c0 c2 c3 h es S ver)(ae:LkD es){f F O:Nat}{G:Bool}{P:List T}(q:dT c0=some f)(K:h.get f=some ⟨2,F,O,G,false,P⟩){l:Nat}{A:dR}(hl:S.ei[l]? =some A){o m:T}(X:es[l]? =some (.agg [o,m]))(i:∀a,dT m=some a->4<=a/\dT c0≠some a/\dT c2≠some a/\dT c3≠some a)
 {hT:H} (SZ:il h.size hT) (C:∀a,a<h.size->dT m≠some a->hT.get a=h.get a) {u:T} (v:dR->dR) (I:Gr hT u 1 (ge (v A).ew)) (s:∀a,dT u=some a->dT m=some a\/h.size<=a):
 EJ w t c0 c2 c3 (dZ hT f ⟨2,F,O+1,G,false,P.set l (.agg [Z (v A).iB,u])⟩) (es.set l (.agg [Z (v A).iB,u])) {S with ei:=S.ei.modify l v} ver:=by
 have z:=SZ.sz;have W:=H.fh K;have al:=(d.sy.b f (.inl q)).1;have M:dT m≠some f:=λc=>(i f c).2.1 q;have L:hT.get f=_:=(C f W M).trans K;have D:∀n a,(dZ hT f n).get a=if a=f then some n else hT.get a:=λn a=>dN L n a;have B:∀a,a<4->dT m≠some a:=λa q c=>by have:=(i a c).1;omega
 have p:∀n a,a<h.size->a≠f->dT m≠some a->(dZ hT f n).get a=h.get a:=λn a R U V=>by rw[D,aq U];exact C a R V
 refine⟨⟨?_,d.sy.g2.mono λa c=>p _ a (d.sy.b a (.inr (.inl c))).2 (λe=>?_) (λe=>(i a e).2.2.1 c),d.sy.g3.mono λa c=>p _ a (d.sy.b a (.inr (.inr c))).2 (λe=>?_) (λe=>(i a e).2.2.2 c),RS ?_ λk x n g j=>?_,λa c=>⟨(d.sy.b a c).1,by have:=(d.sy.b a c).2;simp;omega⟩⟩,(⟨SZ.hp,SZ.low,ax _⟩:il 0 hT).put _ _,?_,?_,?_,?_⟩
 ·exact(d.sy.g0.mono (h':=hT) λa c=>C a (d.sy.b a (.inl c)).2 (λe=>(i a e).2.1 c)).setAt q L l _ (by rw[D,ar rfl])
 ·subst e;exact d.sy.g2.ne d.sy.g0 dB a c q
 ·subst e;exact d.sy.g3.ne d.sy.g0 dB a c q
 ·rw[cR,List.length_modify];exact d.sy.el.length
 ·rw[bV]at g;rw[cY]at j;by_cases y:l=k
  ·subst y;rw[hl]at j;simp at j;rw[ar rfl]at g;split at g
   ·simp only[au]at g;subst g j;refine⟨u,rfl,.inr (I.mono λa c=>?_),λa c=>?_⟩
    ·rw[D,aq];rintro rfl;rcases s a c with k|k
     ·exact M k
     ·omega
    ·have⟨_,_,_,_,j,_⟩:=I.box c;have Y:=H.fh j;refine⟨?_,by simpa using Y,?_,?_,?_⟩
     ·rcases s a c with k|k
      ·exact(i a k).1
      ·omega
     ·rcases s a c with k|k
      ·exact(i a k).2.1
      ·exact λe=>by have:=(d.sy.b a (.inl e)).2;omega
     ·rcases s a c with k|k
      ·exact(i a k).2.2.1
      ·exact λe=>by have:=(d.sy.b a (.inr (.inl e))).2;omega
     ·rcases s a c with k|k
      ·exact(i a k).2.2.2
      ·exact λe=>by have:=(d.sy.b a (.inr (.inr e))).2;omega
   ·simp at g
  ·rw[aq y]at g;simp[y]at j;have⟨N,E,Q,r⟩:=Hu d.sy.el g j;refine⟨N,E,Q.mono λa c=>p _ a (r a c).2.1 (λe=>(r a c).2.2.1 (by rw[e];exact q)) (λe=>y ?_),λa c=>⟨(r a c).1,by have:=(r a c).2.1;simp;omega,(r a c).2.2⟩⟩;rw[E]at g;exact ae l k m N _ _ a X g e c
 ·exact(p _ 0 (H.fh d.g0) J (B 0 J)).trans d.g0
 ·exact(p _ 1 (H.fh d.g1) J (B 1 J)).trans d.g1
 ·exact(p _ 2 (H.fh d.g2) J (B 2 J)).trans d.g2
 ·exact(p _ 3 (H.fh d.g3) J (B 3 J)).trans d.g3
end
end
structure ApO(w:dY)(s:fq)(t k o wk:Int)(c0 c2 c3:T)(h:H)(n:Int):Prop where
 ex:∃S es ver,eY w s t k o wk=(S,n)/\EJ w t c0 c2 c3 h es S ver
structure ApF(w:dY)(s:fq)(t k o:Int):Prop where
 en:iG w s t k o=true
 cl:w.gF.length<=1000000
 sm:OM s
 r:∀l∈s.ei,l.ew.length<=10
def xi:gG:=⟨dY×fq×Int×Int×Int×Int,λa=>[a.1.t,a.2.1.t,Z a.2.2.1,Z a.2.2.2.1,Z a.2.2.2.2.1,Z a.2.2.2.2.2],λa=>ApF a.1 a.2.1 a.2.2.1 a.2.2.2.1 a.2.2.2.2.1,λa=> .tuple [(eY a.1 a.2.1 a.2.2.1 a.2.2.2.1 a.2.2.2.2.1 a.2.2.2.2.2).1.t,Z (eY a.1 a.2.1 a.2.2.1 a.2.2.2.1 a.2.2.2.2.1 a.2.2.2.2.2).2,.bool true],λa c b=>by
 obtain⟨a1,a2,a3,a4,a5,d⟩:=a;obtain⟨e,f,g,h,i,j⟩:=c;simp at b;rw[dY.inj b.1,fq.inj b.2.1,b.2.2.1,b.2.2.2.1,b.2.2.2.2.1,b.2.2.2.2.2]⟩
def QB:xi.Ok prog cx 71:=by
 refine A6 (tb:=⟨pt [(112,nD)],ht [(113,jM fq Ft Vp),(114,jM R6 Ve Gp),(115,jM ICo Vn Py),(116,jM La Vm Px),(118,jM Jq Vh Ps),(119,jM Jq Vi Pt)]⟩) iR iE (iX 772424076352653274097095092108232752774234854811365887 [(19,[(1,4)]),(21,[(1,10)]),(32,[(4,9),(5,9)]),(35,[(4,8),(5,8)])] func71) (λ_=>1000005) (by simp[xi]) nl9 ?_;rintro⟨w,s,t,k,o,r⟩ ⟨K,eS,⟨hl,eV,ht,hr,ec⟩,dv⟩ cb eO;simp only at K eS hl eV ht hr ec dv;simp[xi]at eO|-;obtain⟨gv,c4,ea,eM,E,gz⟩:=eO;unfold iG at K;simp only[aB]at K;obtain⟨⟨⟨eh,eo⟩,bB⟩,K⟩:=K;have⟨bC,bH,e8⟩:=kr eh;have fS:=λ{tb:fJ} (ht:tb.p 112=some nD)=>N2 ht (w:=w) (s:=s) (t:=t) (k:=k) (o:=o) ⟨eh,eo,bB,K,eS,hr⟩
 ·simp[f71,gv,c4,ea,eM,E,fS];generalize ae:(((hE.cons _).cons _).cons _).cons _=bn;have hf:il 0 bn:=by rw[<-ae];exact⟨dy,dy,dy⟩
  have hn:bn.size=4:=by rw[<-ae];rfl
  have fl:bn.get 0=some (dE 6 0 [w.t]):=by rw[<-ae];simp
  have fo:bn.get 1=some (dE 4 0 [s.t]):=by rw[<-ae];simp
  have fs:bn.get 2=some (dE 1 0 [Z t]):=by rw[<-ae];simp
  have I:bn.get 3=some (dE 4 0 [.agg [dD,Z 0,dD,dD]]):=by rw[<-ae];simp
  clear ae;refine iC Qv dy s ⟨rfl,hf,hl,eV,ht,hr⟩ ?_;rintro _ Y ⟨a6,a7,a8,eI,rfl,ff,av,eC,e5⟩;rw[hn]at ff eC;have hJ:=av.ok.sz;have hb:il 0 Y:=⟨av.ok.hp,av.ok.low,ax _⟩;have eF:=(av.get 1 J).trans fo;have fA:=(av.get 0 J).trans fl;have fB:=(av.get 2 J).trans fs;have fC:=(av.get 3 J).trans I;have bi:∀v d,(dZ Y 1 v).get d=if d=1 then some v else Y.get d:=λv d=>dN eF v d;have c:EJ w t a6 a7 a8 (dZ Y 1 (dE 4 1 [.agg [a6,Z s.tx,a7,a8]])) eI s 1:=⟨by rw[fK];exact ff.mono (aw _) λd q _=>by rw[bi,aq J],hb.put _ _,by rw[bi,aq J];exact fA,by rw[bi,ar rfl],by rw[bi,aq J];exact fB,by rw[bi,aq J];exact fC⟩;have eD:iM (LkG (dZ Y 1 (dE 4 1 [.agg [a6,Z s.tx,a7,a8]])) λd=>4<=d/\d<Y.size/\dT a6≠some d/\dT a7≠some d/\dT a8≠some d) eI s.ei:=eC.imp λM m ⟨rv,V,fE,eH⟩=>⟨rv,V,fE.mono λd q=>by rw[bi,aq (by have:=(eH d q).1;omega)],eH⟩;simp[MQ,eF,eM];generalize dZ Y 1 _=N at*
  have eW:=eo;rw[<-e8]at eW;have⟨me,G,hy⟩:=iD eW;have bS:=eG (eZ.1 eo).1;refine ll (λcb b8=>∃n,ApO w s t k o r a6 a7 a8 b8 n/\dF cb 7 (.ptr 1 0 0 0)/\dF cb 12 (.ptr 3 0 0 0)/\dF cb 15 (Z n)) (λan=>?_) (λan=>?_) ?_
  ·have an:k=1:=by simpa using an
   subst an
   ·have⟨y,W,aE,X,aX,A,e,l,j⟩:=c.sy.g3.at (x:=me.t) (i:=t.toNat) (by simp[G]);rw[aH]at A j;subst A;simp[c.g1,c.g2,bS,e,l,j];exact⟨_,_,_,show eY w s t 1 o r=(s.nT t (ka 2),0)by simp[eY],c.nT rfl e G (ka 2)⟩
  ·have an:¬k=1:=by simpa using an
   rcases pO bB with g|rfl|rfl|rfl|rfl|rfl|rfl|rfl|rfl|g|g|g|g
   ·exact absurd g an
   ·have⟨y,W,aE,X,aX,A,e,l,j⟩:=c.sy.g3.at (x:=me.t) (i:=t.toNat) (by simp[G]);rw[aH]at A j;subst A;simp[c.g1,c.g2,bS,e,l,j];exact⟨_,_,_,show eY w s t 2 o r=(s.nT t (ka 5),0)by simp[eY],c.nT rfl e G (ka 5)⟩
   ·simp;exact⟨_,_,_,show eY w s t 3 o r=(s,0)by simp[eY],c⟩
   ·simp;exact⟨_,_,_,show eY w s t 4 o r=(s,0)by simp[eY],c⟩
   ·simp;exact⟨_,_,_,show eY w s t 5 o r=(s,0)by simp[eY],c⟩
   ·simp[c.g1,c.g2,dX];exact⟨_,_,_,show eY w s t 12 o r=({s with tx:=t},0)by simp[eY],c.tx t⟩
   ·simp[c.g1,dX];exact⟨_,_,_,show eY w s t 13 o r=({s with tx:=-1},0)by simp[eY],c.tx (-1)⟩
   ·have⟨y,W,aE,X,aX,A,e,l,j⟩:=c.sy.g3.at (x:=me.t) (i:=t.toNat) (by simp[G]);rw[aH]at A j;subst A;simp[c.g1,c.g2,bS,e,l,j];exact⟨_,_,_,show eY w s t 14 o r=(s.nT t (λx=>{x with atomic:=true}),0)by simp[eY],c.nT rfl e G (λx=>{x with atomic:=true})⟩
   ·have⟨y,W,aE,X,aX,A,e,l,j⟩:=c.sy.g3.at (x:=me.t) (i:=t.toNat) (by simp[G]);rw[aH]at A j;subst A;simp[c.g1,c.g2,bS,e,l,j];exact⟨_,_,_,show eY w s t 15 o r=(s.nT t (λx=>{x with atomic:=false}),0)by simp[eY],c.nT rfl e G (λx=>{x with atomic:=false})⟩
   ·have F:=jY bB g;rw[<-bC]at F;have⟨B,C,eb⟩:=iD F;have D:=eG (eZ.1 F).1;obtain⟨M,al,rv,rfl,bN,aA⟩:=c.sy.el.get C;obtain⟨y,W,aE,X,aX,rfl,e,l,j⟩:=c.sy.g0.at al;have b9:=H.fh e;have hq:=(c.sy.b y (.inl rfl)).1;have eu:(1=N.size)=False:=by have:=H.fh c.g1;simp;omega
    have hD:(y=N.size)=False:=dz;have hA:=hr B (ay C);have hB:∀d,dT rv=some d->d<N.size:=λd q=>(aA d q).2.1;rcases g with rfl|rfl|rfl|rfl|rfl|rfl
    ·simp[E,c.g1,c.g2,D,e,l,j];exact⟨_,_,_,show eY w s t 6 o r=(s.pw o (λh=>{h with iB:=t}),0)by simp[eY],c.pw rfl e C (λh=>{h with iB:=t}) bN aA⟩
    ·simp[E,c.g1,D,e,l,j];exact⟨_,_,_,show eY w s t 7 o r=(s.pw o (λh=>{h with iB:=-1}),0)by simp[eY],c.pw rfl e C (λh=>{h with iB:=-1}) bN aA⟩
    ·have b6:=ec B (ay C);have c6:=dv B (ay C);have gM:t∉B.ew:=by
      simp[vJ,eb,j1]at K;exact K.2.2
     have⟨hg,V,gL,L⟩:=Hu eD al C;simp at V;subst V;have cL:Gr N rv 1 (ge B.ew):=gL;have⟨eB,b7,fL,aN⟩:=cL.mn (cx:=cx) (f:=T.int .i64) c.ok j9 rfl mY rfl dy (λx=>rfl) t dz;have hv:=c.ok.low;have hC:(2=N.size)=False:=by have:=H.fh c.g2;simp;omega
     simp[E,c.g1,c.g2,D,e,l,j,fL];refine iC WH dy ⟨B.ew,t,eB⟩ ⟨rfl,aN.1,⟨aN.2.2.2.hp,aN.2.2.2.low,ax _⟩,b6,gM,c6⟩ ?_;rintro _ eN ap;have hj:=aN.2.2.2.sz;have hK:=ap.ok.sz;have ds:∀d,d<N.size->dT rv≠some d->eN.get d=N.get d:=λd bC bH=>(ap.fr d J (λq=>(aN.2.2.1 d q).elim bH J)).trans (aN.2.1 d bC bH);have gS:∀d,d<4->dT rv≠some d:=λd q k=>by have:=(L d k).1;omega
     have di:=(ds 1 (H.fh c.g1) (gS 1 J)).trans c.g1;have e9:=(ds y b9 (λk=>(L y k).2.2.1 rfl)).trans e;have hd:il 0 eN:=⟨ap.ok.hp,ap.ok.low,ax _⟩;have hs:=DJ B.ew t;simp[E,di];refine mF Nu dy ⟨lK B.ew t,eB⟩ ⟨rfl,ap.g,hd,DM b6 t,dA⟩ ?_;rintro R hT ⟨M,O⟩;simp only at M;rw[M];have eA:=fG (O.get 1 (H.fh di));have t1:=(O.get 1 (H.fh di)).trans di;have tb:=(O.get y (H.fh e9)).trans e9;have gT:Gr hT eB 1 (ge (lK B.ew t)):=ap.g.mono λd q=>by
      have⟨_,_,_,_,gQ,_⟩:=ap.g.box q;exact O.get d (H.fh gQ)
     have hL:=O.ok.sz;simp[D,tb,l,j,eA,dX,gT.iy,gT.cells];exact⟨_,_,_,show eY w s t 8 o r=(s.pw o (λh=>{h with ew:=lK h.ew t}),0)by simp[eY],c.abF e5 rfl e C al (λd q=>⟨(L d q).1,(L d q).2.2⟩) (hT:=hT) ⟨O.ok.hp,O.ok.low,J⟩ (λd bC bH=>(O.get d J).trans (ds d bC bH)) (λh=>{h with ew:=lK h.ew t}) gT aN.2.2.1⟩
    ·have⟨hg,V,gL,L⟩:=Hu eD al C;simp at V;subst V;have cL:Gr N rv 1 (ge B.ew):=gL;have b6:=ec B (ay C);have c6:=dv B (ay C);have gI:t∈B.ew:=by
      simp[vJ,eb,j1]at K;exact K.2
     have⟨P,Q,c7⟩:=List.append_of_mem gI;have c9:t∉P/\t∉Q:=by
      rw[c7]at b6;have c4:=List.pairwise_append.1 b6;have ea:=List.pairwise_cons.1 c4.2.1;exact⟨λk=>by have:=c4.2.2 t k t dy;omega,λk=>by have:=ea.1 t k;omega⟩
     simp[E,c.g1,D,e,l,j];have gZ:dT rv≠some 2:=λk=>by have:=(L 2 k).1;omega
     refine mF Gu dy ⟨P,Q,t,rv,2,⟨0,0,0,false,false,[]⟩⟩ ⟨rfl,c.g2,c.ok,by rw[c7]at cL;exact cL,c9.1,c9.2,by rw[c7]at c6;simp at c6|-;omega,gZ⟩ ?_;rintro R b7 ⟨c1,eR,e7,cp⟩;simp only at c1 eR cp;have eL:=cp 1 (H.fh c.g1) (λk=>by have:=(L 1 k).1;omega);have gm:=cp y b9 (λk=>(L y k).2.2.1 rfl);have eA:=fG eL;have ho:=eL.trans c.g1;have fv:=gm.trans e;have gE:B.ew.filter (λR=> !decide (R=t))=P++Q:=by
      rw[c7,List.filter_append,List.filter_cons];simp;rw[List.filter_eq_self.2 λx l=>?_,List.filter_eq_self.2 λx l=>?_]
      ·simp;exact λM=>c9.2 (by rw[<-M];exact l)
      ·simp;exact λM=>c9.1 (by rw[<-M];exact l)
     have hj:=e7.sz;simp[D,fv,l,j,eA,dX,c1.iy,c1.cells];exact⟨_,_,_,show eY w s t 9 o r=(s.pw o (λh=>{h with ew:=h.ew.filter λR=> !decide (R=t)}),0)by simp[eY],c.abF e5 rfl e C al (λd q=>⟨(L d q).1,(L d q).2.2⟩) (hT:=b7) e7 cp (λh=>{h with ew:=h.ew.filter λR=> !decide (R=t)}) (by show Gr b7 R 1 (ge (B.ew.filter _));rw[gE];exact c1) (λd q=> .inl (by rw[<-eR];exact q))⟩
    ·simp[E,c.g1,c.g2,D,e,l,j];exact⟨_,_,_,show eY w s t 10 o r=(s.pw o (λh=>{h with iB:=t}),0)by simp[eY],c.pw rfl e C (λh=>{h with iB:=t}) bN aA⟩
    ·simp[E,c.g1,D,e,l,j];exact⟨_,_,_,show eY w s t 11 o r=(s.pw o (λh=>{h with iB:=-1}),0)by simp[eY],c.pw rfl e C (λh=>{h with iB:=-1}) bN aA⟩
   ·have F:=my bB g;have⟨d,ef,eU⟩:=iD F;have et:=pV eh ef;rw[<-bC]at et;have⟨B,C,eb⟩:=iD et;have D:=eG (eZ.1 F).1;have fi:=eG (eZ.1 et).1;obtain⟨M,al,rv,rfl,bN,aA⟩:=c.sy.el.get C;obtain⟨y,W,aE,X,aX,rfl,e,l,j⟩:=c.sy.g0.at al;have⟨I,fY,hh,gg,dk,A,bs,de,er⟩:=c.sy.g3.at (x:=me.t) (i:=t.toNat) (by simp[G]);rw[aH]at A er;subst A;have b9:=H.fh e;have eP:=H.fh bs;have eu:(1=y)=False:=by have:=(c.sy.b y (.inl rfl)).1;simp;omega
    have gV:(1=I)=False:=by have:=(c.sy.b I (.inr (.inr rfl))).1;simp;omega
    have e6:(2=y)=False:=by have:=(c.sy.b y (.inl rfl)).1;simp;omega
    have ha:(2=I)=False:=by have:=(c.sy.b I (.inr (.inr rfl))).1;simp;omega
    have ey:(I=y)=False:=by simp;rintro rfl;rw[e]at bs;simp at bs
    have e4:∀x,(dk.set t.toNat x)[t.toNat]? =some x:=λx=>by
     have:t.toNat<dk.length:=by
      rcases aR t.toNat dk.length with k|k
      ·exact k
      ·rw[bK k]at de;simp at de
     rw[bV];simp[this]
    have bu:∀v,(dZ N y v).get I=some ⟨3,fY,hh,gg,false,dk⟩:=λv=>by rw[dN e,aq (by simpa using ey)];exact bs
    have fb:=λv z=>nd (bu v) (show 1≠I by simpa using gV) z;have fe:=λv z=>nd (bu v) (show 2≠I by simpa using ha) z;have eE:=λ(f:dR->dR) (q:(f B).ew=B.ew)=>c.pw rfl e C f (rv:=rv) (by rw[q];exact bN) aA;rcases g with rfl|rfl|rfl|rfl
    ·have dn:=(eE (λh=>{h with iB:=-1}) rfl).nT rfl (bu _) G (λx=>{x with ij:=3});have bT:=dn.nT (me:=(λx=>{x with ij:=3}) me) rfl ((dN (bu _) _ _).trans (ar rfl)) (i:=t.toNat) (by simp[G]) (λx=>{x with cond:=o});simp only[Cp,List.set_set]at bT;simp[E,c.g0,c.g1,c.g2,D,fi,bS,ef,e,bs,l,de,j,er,mL,c.ok.hp,b9,eP,eu,ey,e6,e4,fb,fe];exact⟨_,_,_,show eY w s t 16 o r=((s.pw d.kv λh=>{h with iB:=-1}).nT t (λx=>{x with ij:=3,cond:=o}),0)by simp[eY,eU],bT⟩
    ·have dn:=(eE (λh=>{h with iB:=t}) rfl).nT rfl (bu _) G (λx=>{x with ij:=2});have bT:=dn.nT (me:=(λx=>{x with ij:=2}) me) rfl ((dN (bu _) _ _).trans (ar rfl)) (i:=t.toNat) (by simp[G]) (λx=>{x with cond:=0});simp only[Cp,List.set_set]at bT;simp[E,c.g0,c.g1,c.g2,D,fi,bS,ef,e,bs,l,de,j,er,mL,c.ok.hp,b9,eP,eu,ey,e6,e4,fb,fe];exact⟨_,_,_,show eY w s t 17 o r=((s.pw d.kv λh=>{h with iB:=t}).nT t (λx=>{x with ij:=2,cond:=0}),0)by simp[eY,eU],bT⟩
    ·simp[E,gz,c.g1];refine iC PX dy ⟨s,_,_,_,o,r⟩ ⟨rfl,c.sy.g3,c.ok,ht⟩ ?_;rintro _ b7 ⟨n,rfl,eX,ca⟩;simp only at eX ca;simp;exact⟨_,_,_,show eY w s t 18 o r=({s with dH:=if iw o s.dH 0=[]then s.dH else s.dH.modify n.toNat (ka 4)},n)by
      have e0:vq o r s.dH=n:=by rw[eX];rfl
      unfold eY;simp;by_cases q:iw o s.dH 0=[]
      ·rw[ar q,ar q,<-e0];unfold vq;rw[q];rfl
      ·rw[aq q,aq q,e0];rfl,c.aaG ca⟩
    ·simp[E,c.g1];refine iC Ig dy ⟨s,_,_,_,o,0⟩ ⟨rfl,c.sy.g3,c.ok,ht⟩ ?_;rintro _ b7 ⟨rfl,ca⟩;simp only at ca;simp;exact⟨_,_,_,show eY w s t 19 o r=({s with dH:=s.dH.map (Dw o)},((iw o s.dH 0).length:Int))by
      unfold eY;simp;intro a _;rfl,c.aaG ca⟩
   ·have F:=pN bB g;rw[<-e8]at F;have⟨u,dd,gP⟩:=iD F;have D:=eG (eZ.1 F).1;rcases g with rfl|rfl
    ·have⟨y,W,aE,X,aX,A,e,l,j⟩:=c.sy.g3.at (x:=u.t) (i:=o.toNat) (by simp[dd]);rw[aH]at A j;subst A;simp[E,c.g1,D,e,l,j];exact⟨_,_,_,show eY w s t 20 o r=(s.nT o (ka 1),0)by simp[eY],c.nT rfl e dd (ka 1)⟩
    ·simp;exact⟨_,_,_,show eY w s t 21 o r=(s,0)by simp[eY],c⟩
   ·have F:=rO bB g;rw[<-bH]at F;have⟨u,dd,gP⟩:=iD F;have D:=eG (eZ.1 F).1;rcases g with rfl|rfl
    ·have⟨y,W,aE,X,aX,A,e,l,j⟩:=c.sy.g2.at (x:= .bool u) (i:=o.toNat) (by simp[dd]);rw[aH]at A j;subst A;simp[E,c.g1,D,e,l,j];exact⟨_,_,_,show eY w s t 22 o r=({s with done:=s.done.set o.toNat true},0)by simp[eY],c.Zf rfl e o.toNat true⟩
    ·simp;exact⟨_,_,_,show eY w s t 23 o r=(s,0)by simp[eY],c⟩
  ·rintro cb b8 ⟨n,⟨S,gd,hF,gD,U⟩,gB,gw,gy⟩;have⟨hG,hH,hI⟩:=U.sy.fz;have gn:∀v,(dZ b8 3 v).get 3=some v:=λv=>(dN U.g3 v _).trans (ar rfl);have dm:∀v,Cf 4 b8.size (dZ b8 3 v) a6 a7 a8 gd S:=λv=>U.sy.mono (aw _) λd q _=>by rw[dN U.g3,aq J]
   have gi:=λv=>(dm v).fz.1;have gj:=λv=>(dm v).fz.2.1;have gk:=λv=>(dm v).fz.2.2;simp[gB,gw,gy,U.g1,U.g3,gn,dX,gi,gj,gk,gD,U.ok.hp]
def lO.apf{w:dW}(e:lO w){c:Nat}{b:ez}(h:w.dL[c]? =some b){d:eQ}(f:d=qM w.em w.jF (w.dL.take c)):ApF w.em d.fj b.dP b.kind b.obj/\(qM w.em w.jF (w.dL.take (c+1))).fj=(eY w.em d.fj b.dP b.kind b.obj (kW b)).1:=by
 have p:c<w.dL.length:=(List.getElem?_eq_some_iff.1 h).1;have i:=e.ok.ok h;rw[<-f]at i;have⟨q,r,o⟩:=oJ i;have g:sO (1000+(w.dL.take c).length) d:=by rw[f];exact e.sm.qM (w:=w.em) _
 have hl:=e.ok.len;have hr:=Au e.ok.run c;have m:Jo 4 d.fj:=by rw[f];exact My e.ok.nT _ _ hr e.rdt
 have⟨l1,l2,l3,l4,l5,l6⟩:=g.l;have⟨s,t,u,v,x,y⟩:=kV e.wb;refine⟨⟨o,J,⟨J,J,J,λj k=>?_,g.a⟩,λj k=>?_⟩,?_⟩
 ·have:=m.len g.a j k;omega
 ·have:=m.len g.a j k;omega
 ·have n:w.dL.take (c+1)=w.dL.take c++[b]:=by rw[dq,h];rfl
  rw[n];have:qM w.em w.jF (w.dL.take c++[b])=(jO w.em d b).1:=by
   rw[f];unfold qM;rw[EC];rfl
  rw[this,rN d b i];rfl
def wv:gG:=⟨dW,λa=>[a.t],λa=>lO a,λa=> .tuple [fU.t ⟨a,a.gx.st⟩,.bool true],λc d b=>by simp at b;rw[dW.inj b]⟩
def Us(a:dW)(b:T):List T:=[sl (a.em.cells.map iq.t),sl (a.em.ei.map iI.t),sl (a.em.gF.map ja.t),sl (a.em.ee.map T.str),sl (a.em.dH.map T.str),sl (a.em.iJ.map iK.t),Z a.start,sl (a.jF.fj.ei.map dR.t),Z a.jF.fj.tx,sl (a.jF.fj.done.map T.bool),sl (a.jF.fj.dH.map dJ.t),sl (a.jF.cells.map (T.int .i64)),sl (a.jF.ee.map (T.int .i64)),sl (a.jF.count.map (T.int .i64)),sl (a.dL.map ez.t),b]
def anZ:List T:=[dD,dD,dD,dD,dD,dD,Z 0,dD,Z 0,dD,dD,dD,dD,dD,dD,dD]
structure AnJ(w:dW)(h:H)(k:Nat)(v:T)(ver ver5:Nat):Prop where
 ok:il 4 h
 b0:h.get 0=some (dE 15 0 [w.t])
 b1:h.get 1=some (dE 16 0 [.agg anZ])
 b2:h.get 2=some (dE 16 ver [.agg (Us w v)])
 b3:h.get 3=some (dE 4 ver5 [(qM w.em w.jF (w.dL.take k)).fj.t])
 g:Gr h v 4 ((w.gx.st.take k).map fq.t)
 l:∀b,dT v=some b->4<=b
def NA:wv.Ok prog cx 33:=by
 refine fZ [(71,xi)] (iX 9223389645163727807 [] func33) (λ_=>100) (by simp[wv]) ?_;rintro(c:dW) y m ae;replace y:lO c:=y;simp[wv]at ae|-;have ca:=y.ok.len;have cb:=y.ok.nT;simp[f33,ae,show¬(16:Int)<c.dL.length by omega,show¬(4:Int)<c.em.dH.length by omega];refine fD c.dL.length J (λk m h=>∃z o A,AnJ c h k z o A/\dF m 1 (.ptr 0 0 0 0)/\dF m 2 (.ptr 1 0 0 0)/\dF m 4 (.ptr 2 0 0 0)/\dF m 5 (.ptr 3 0 0 0)/\dF m 30 (sl (c.dL.map ez.t))/\dF m 31 (Z c.dL.length)/\dF m 32 (Z k)) ?_ ?_ J ?_
 ·rintro k m h M al ⟨z,o,A,⟨l,Y,u,r,D,v,N⟩,G,x,L,T,S,I,K⟩;have⟨bi,V⟩:=y.apf (az M) rfl;have bC:=y.ok.st M;have bH:(c.gx.st.take (k+1))=c.gx.st.take k++[(qM c.em c.jF (c.dL.take k)).fj]:=by rw[dq,bC];rfl
  generalize(qM c.em c.jF (c.dL.take k)).fj=q at*
  have cL:=l.ne (b:=0) J;have c4:=l.ne (b:=1) J;have aE:=l.ne (b:=2) J;have aN:=l.ne (b:=3) J;have bS:il 0 h:=⟨l.hp,l.low,ax _⟩;generalize ap:c.dL[k]=d at*
  have bs:Gr (h.cons (dE 7 1 [d.t])) z 4 ((c.gx.st.take k).map fq.t):=v.mono λb U=>by
   have⟨_,_,_,_,C,_⟩:=v.box U;rw[dS,aq (by have:=H.fh C;omega)]
  have b9:(c.gx.st.take k).length<=16:=dz;have⟨s,g,P,i⟩:=bs.mn (cx:=cx) (f:=fq.t) (bS.cons _) XJ rfl XO rfl dy (λ_=>rfl) q (by simp only[show V8.bytes=80 from rfl];omega);rw[show(h.cons (dE 7 1 [d.t])).size=h.size+1 from rfl]at P;have E:∀{a7:fJ},a7.p 71=some xi->rl prog cx a7 71 [c.em.t,q.t,Z d.dP,Z d.kind,Z d.obj,Z (kW d)]=some (.tuple [(eY c.em q d.dP d.kind d.obj (kW d)).1.t,Z (eY c.em q d.dP d.kind d.obj (kW d)).2,.bool true]):=λht=>im ht QB (c.em,q,d.dP,d.kind,d.obj,kW d) bi;have b7:=l.sz;have b6:=i.2.2.2.sz;simp at b6;have av:=l.low;have bN:∀a,a<4->dT z≠some a:=λa an j=>by have:=N a j;omega
  have F:∀a,a<4->g.get a=h.get a:=λa an=>(i.2.1 a dz (bN a an)).trans (by rw[dS,aq J]);have a0:=(F 0 J).trans Y;have a1:=(F 1 J).trans u;have a2:=(F 2 J).trans r;have a3:=(F 3 J).trans D;have X:g.get h.size=some (dE 7 1 [d.t]):=(i.2.1 h.size dy (λj=>by have⟨_,_,_,_,C,_⟩:=v.box j;have:=H.fh C;omega)).trans dy;have w:∀e a,(dZ g 2 e).get a=if a=2 then some e else g.get a:=λe a=>dN a2 e a;have a8:(h.size=2)=False:=dz;have W:il 0 g:=⟨i.2.2.2.hp,i.2.2.2.low,ax _⟩;have a6:∀e n b,dZ ((dZ g 2 e).cons n) g.size b=(dZ g 2 e).cons b:=λe n b=>H3 _ _ _ _ dy (by have:=(W.put 2 e).low;simpa using this);have aX:(3=g.size)=False:=dz;have c6:(2=g.size)=False:=dz;have c1:(0=g.size)=False:=dz;have c7:(h.size=g.size)=False:=dz;have cp:∀e,(dZ g 2 e).low<=g.size:=λe=>by have:=(W.put 2 e).low;simpa using this
  have fin:∀(n:iY),AnJ c (dZ ((dZ g 2 (dE 16 (o+1) [.agg (Us c s)])).cons n) 3 (dE 4 (A+1) [(eY c.em q d.dP d.kind d.obj (kW d)).1.t])) (k+1) s (o+1) (A+1):=λn=>by
   have Q:∀b a,(dZ ((dZ g 2 (dE 16 (o+1) [.agg (Us c s)])).cons n) 3 b).get a=if a=3 then some b else((dZ g 2 (dE 16 (o+1) [.agg (Us c s)])).cons n).get a:=λb a=>mL (by simp[W.hp]) dz b a;have R:∀b a,a<g.size->a≠3->a≠2->(dZ ((dZ g 2 (dE 16 (o+1) [.agg (Us c s)])).cons n) 3 b).get a=g.get a:=λb a G x bB=>by rw[Q,aq x,dS,aq dz,w,aq bB]
   have bT:=(((⟨i.2.2.2.hp,i.2.2.2.low,J⟩:il 4 g).put 2 (dE 16 (o+1) [.agg (Us c s)])).cons n).put 3 (dE 4 (A+1) [(eY c.em q d.dP d.kind d.obj (kW d)).1.t]);have aA:∀a,dT s=some a->4<=a:=λa j=>(i.2.2.1 a j).elim (λj=>N a j) (λj=>by simp at j;omega);refine⟨bT,(R _ 0 J J J).trans a0,(R _ 1 J J J).trans a1,?_,?_,?_,aA⟩
   ·rw[Q,aq J,dS,aq dz,w,ar rfl]
   ·rw[Q,ar rfl,V]
   ·rw[bH];exact i.1.mono λa j=>by
     have⟨_,_,_,_,C,_⟩:=i.1.box j;have:=aA a j;exact R _ a (H.fh C) J J
  have B:kW d=if d.kind=18 then d.value else-1:=rfl;simp only[Us]at r a2;cases O:decide (d.kind=18)with
  |true=>
   rw[ar (by simpa using O)]at B;rw[B]at E V;simp[G,x,L,T,S,I,K,M,ap,r,D,aE,aN,av,P,a0,a2,a3,X,w,a8,a6,aX,dX,i.1.iy,i.1.cells,O,E,al];rw[B]at fin;exact⟨_,_,_,fin _⟩
  |false=>
   rw[aq (by simpa using O)]at B;rw[B]at E V;simp[G,x,L,T,S,I,K,M,ap,r,D,aE,aN,av,P,a0,a2,a3,X,w,a8,a6,aX,dX,i.1.iy,i.1.cells,O,E,al];rw[B]at fin;exact⟨_,_,_,fin _⟩
 ·rintro m h ⟨z,o,A,⟨l,Y,u,r,D,v,N⟩,G,x,L,T,S,I,K⟩;simp only[Us]at r;simp only[anZ]at u;have b8:c.gx.st.length=c.dL.length:=by unfold dW.gx;simp[MU]
  rw[bJ J]at v;have b7:=l.sz;have w:∀e,(dZ h 1 e).get 1=some e:=λe=>(dN u e 1).trans (ar rfl);have bu:∀e,Gr (dZ h 1 e) z 4 (c.gx.st.map fq.t):=λe=>v.mono λb U=>by rw[dN u,aq (by have:=N b U;omega)]
  have bn:=λe=>(bu e).fz dy;simp[x,L,I,K,u,r,w,bn,dX,l.hp]
  try rfl
 ·exact⟨dD,1,1,⟨by exact⟨dy,dy,dy⟩,dy,by simp[anZ],by simp[Us],by simp;rfl,by simpa using Gr.nil _ _,dy⟩,dy⟩
end
end
noncomputable section
open Go Go.TI
def l0:T:= .agg [(.dK [(.agg [(Z 1),(Z 1),(.str [120]),(Z 0),(Z 0),(.str [])])] false),(.dK [(.agg [(.str [116]),(Z 1),dD,(.dK [(.agg [(Z 12),(Z 1),(.str [117]),(.str []),dD,(Z 0),(Z 0),(.str []),dD,dD,dD]),(.agg [(Z 1),(Z 1),(.str [120]),(.str []),dD,(Z 1),(Z 1),(.str []),dD,dD,dD])] false)]),(.agg [(.str [117]),(Z 1),dD,(.dK [(.agg [(Z 1),(Z 1),(.str [120]),(.str []),dD,(Z 1),(Z 2),(.str []),dD,dD,dD])] false)])] false)]
def l1:T:= .dK [(.agg [(.str [120]),(Z 0),(Z 0),(.bool false),(Z 0)])] false
def l2:T:= .dK [(.agg [(Z 0),(Z 0),(Z 1)]),(.agg [(Z 0),(Z 1),(Z 1)]),(.agg [(Z 1),(Z 0),(Z 1)])] false
def l3:T:= .agg [(Z 28),(Z 0),(Z 0),(Z 0),(Z 0),(Z (.negSucc 0))]
def l4:T:= .agg [l1,dD,dD,dD,(.dK [(.str [116]),(.str [117])] false),l2,(.dK [(.agg [(Z 1),(.dK [(.agg [(Z 24),(Z 1),(Z 0),(Z 0),(Z 0),(Z 0)]),(.agg [(Z 1),(Z 0),(Z 0),(Z 0),(Z 1),(Z 1)]),(.agg [(Z 8),(Z 0),(Z 0),(Z 0),(Z 0),(Z 1)]),l3] false)]),(.agg [(Z 1),(.dK [(.agg [(Z 1),(Z 0),(Z 0),(Z 0),(Z 2),(Z 2)]),(.agg [(Z 8),(Z 0),(Z 0),(Z 0),(Z 0),(Z 2)]),l3] false)])] false)]
def l5:T:= .dK [(.agg [(Z 0),(Z 1),(Z (.negSucc 0)),(Z 0),(Z (.negSucc 0)),dD,dD]),(.agg [(Z 0),(Z 20),(Z 1),(Z 0),(Z 0),dD,dD]),(.agg [(Z 0),(Z 4),(Z 0),(Z 1),(Z 1),dD,dD]),(.agg [(Z 0),(Z 2),(Z (.negSucc 0)),(Z 0),(Z (.negSucc 0)),dD,dD]),(.agg [(Z 1),(Z 1),(Z (.negSucc 0)),(Z 0),(Z (.negSucc 0)),dD,dD]),(.agg [(Z 1),(Z 4),(Z 0),(Z 2),(Z 2),dD,dD]),(.agg [(Z 1),(Z 2),(Z (.negSucc 0)),(Z 0),(Z (.negSucc 0)),dD,dD])] false
def l6:T:= .agg [(Z 5),(Z 0),(.bool false)]
