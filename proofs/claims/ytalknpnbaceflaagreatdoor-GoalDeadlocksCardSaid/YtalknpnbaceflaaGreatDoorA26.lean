/- W09h -/
import Derived.Test.YtalknpnbaceflaaGreatDoorA22
import Derived.Test.YtalknpnbaceflaaGreatDoorA25
set_option linter.all false
set_option maxRecDepth 100000
set_option maxHeartbeats 0
namespace Go.Proofs.YtalknpnbaceflaaGreatDoor
noncomputable section
open Go Go.TI Tryz
attribute [-simp] List.map_take List.map_drop List.map_append ij gG fK Bool.not_or Bool.not_and
attribute [simp] ig gJ
def ahO(b:T):Prop:=∃(a:lL) (c:jD),b= .tuple [a.t,c.t]/\NK a.ej/\a.ej.length<=80
def OQ:pM prog cx 45 (λi:kP×List iv=>[i.1.t,sl (i.2.map iv.t)]) (λi=>(∀o∈i.1.ee,o.j3.length<=10000001)/\i.2.length<=80) (λ_=>ahO):=by
 refine Bg (tb:=⟨pt [(90,zt.kc),(92,HV.kc)],ht [(91,km IFr Y9 Tc)]⟩) jv jl (jF 1271 [(3,[(0,2),(2,8),(4,8)]),(4,[(4,5)])] func45) (λ_=>105) (λi r l=>by simp at l;exact aD (kP.inj l.1) (jV (λ_ _ l=>iv.inj l) l.2)) G nl9 ?_;rintro⟨k,A⟩ ⟨n,x⟩ aX y;simp only at n x;simp at y;obtain⟨w,L⟩:=y;obtain⟨_,⟨r,rfl,aN⟩,u⟩:=zt.use k n;obtain⟨_,⟨Q,rfl,S,F⟩,D⟩:=HV.use k n;cases r with
 |false=>
  simp[f45,w,u];exact⟨⟨⟨[],[],[],[],[],[]⟩,[]⟩,⟨⟨[],0,[],[]⟩,[],[],[]⟩,rfl,λe M=>by simp at M,G⟩
 |true=>
  simp[f45,w,L,u,D];generalize j:((hE.cons _).cons _).cons _=h;have P:iQ 0 h:=by rw[<-j];exact⟨G,G,G⟩
  have aE:h.size=3:=by rw[<-j];rfl
  have ab:h.get 0=some (X 7 0 [k.t]):=by rw[<-j];simp
  have ae:h.get 1=some (X 7 0 [.eZ [dV,dV,dV,dV,dV,dV,dV]]):=by rw[<-j];simp
  have al:h.get 2=some (X 7 0 [.eZ [dV,C 0,dV,dV,dV,dV,dV]]):=by rw[<-j];simp
  clear j;refine mf TV G ⟨k,Q,A⟩ ⟨rfl,P,n,S,F,x⟩ ?_;rintro _ b ⟨z,d,W,rfl,m,s,f,E,hl⟩;have aA:=f.ok.sz;rw[aE]at s aA;have a0:=(f.get 0 B).trans ab;have a1:=(f.get 1 B).trans ae;have a2:=(f.get 2 B).trans al;have sv:=λa (N:a<h.size)=>il (f.get a N);have T:=sv 0 B;have an:(0=b.size)=False:=dR;have ap:(1=b.size)=False:=dR;have av:(2=b.size)=False:=dR;have O:=f.ok.low;have R:gU h b b.size=true:=jL (mP _ f.ok.sz);have okB:iQ 0 (b.cons (X 7 1 [d.t])):=iQ.cons ⟨f.ok.hp,f.ok.low,ay _⟩ _;have q:∀a,(b.cons (X 7 1 [d.t])).get a=if a=b.size then some (X 7 1 [d.t])else b.get a:=λa=>fk ..;have v:=(q 1).trans ((Z B).trans a1);have p:∀c a,(fJ (b.cons (X 7 1 [d.t])) 1 c).get a=if a=1 then some c else if a=b.size then some (X 7 1 [d.t])else b.get a:=λc a=>(eG v c a).trans (by rw[q]);have K:=λc=>(p c 2).trans ((Z B).trans ((Z B).trans a2));have G2:∀c g a,(fJ (fJ (b.cons (X 7 1 [d.t])) 1 c) 2 g).get a=if a=2 then some g else if a=1 then some c else if a=b.size then some (X 7 1 [d.t])else b.get a:=λc g a=>(eG (K c) g a).trans (by rw[p]);have U:∀c,gU (b.cons (X 7 1 [d.t])) (fJ (b.cons (X 7 1 [d.t])) 1 c) b.size=true:=λc=>oU v B c;have a6:(b.size=1)=False:=dR;have I:∀c g,TI.fz (fJ (fJ (b.cons (X 7 1 [d.t])) 1 c) 2 g) W=some (sl (z.map fR.t)):=λc g=>(m.mono (h':=fJ (fJ (b.cons (X 7 1 [d.t])) 1 c) 2 g) λa o=>by
   have⟨_,_,_,_,J,_⟩:=m.box o;have:=H.gh J;have:=s a o;rw[G2,Z B,Z B,Z B]).fz G
  simp[m.jc,m.cells,a0,a1,a2,T,an,ap,av,O,R,fG,p,G2,U,I,q,f.ok.hp];exact⟨⟨k.fM,z⟩,d,rfl,E,hl⟩
def KZ:pM prog cx 46 (λc:List Int=>[sl (c.map (T.int .u8))]) okB (λ_ l=>∃a:kP,l=a.t/\∀m∈a.ee,m.j3.length<=10000001):=by
 refine jU [(93,TO.kc),(76,DG.kc)] (jF 13 [] func46) (λ_=>105) (λn o b=>by simp at b;exact jV (λ_ _ b=>by simpa using b) b) ?_;rintro c g r d;simp at d;obtain⟨_,⟨k,rfl,i,j⟩,e⟩:=TO.use c g;obtain⟨_,⟨a,p,q,rfl,h⟩,f⟩:=DG.use k ⟨i,j⟩;simp[f46,d,e,f];exact⟨a,rfl,h⟩
def ahF(b:T):Prop:=∃a:lL,b=a.t/\NK a.ej/\a.ej.length<=80
def HT:pM prog cx 18 (λa:List Int×List Int=>[sl (a.1.map (T.int .u8)),sl (a.2.map (T.int .u8))]) (λa=>okB a.1/\okB a.2/\a.2.length<=80) (λ_=>ahF):=by
 refine jU [(46,KZ.kc),(47,H3.kc),(45,OQ.kc)] (jF 51 [] func18) (λ_=>105) (λa s b=>by simp at b;exact aD (jV (λ_ _ b=>by simpa using b) b.1) (jV (λ_ _ b=>by simpa using b) b.2)) ?_;rintro⟨i,h⟩ ⟨e,d,p⟩ v f;simp only at e d p;simp at f;obtain⟨n,o⟩:=f;obtain⟨_,⟨j,rfl,q⟩,k⟩:=KZ.use i e;obtain⟨_,⟨g,rfl,t⟩,l⟩:=H3.use h ⟨d,B⟩;obtain⟨_,⟨r,u,rfl,m,hl⟩,c⟩:=OQ.use (j,g) ⟨q,dS⟩;simp only at c;simp[f18,n,o,k,l,c];exact⟨r,rfl,m,hl⟩
end
noncomputable section
open Go Go.TI
structure nT where
 program:List Int
 schedule:List Int
 HK:List Int
 size:Int
 xV:Int
 deriving DecidableEq,Inhabited
def nT.cs(a:nT):List T:=[sl (a.program.map (T.int .u8)),sl (a.schedule.map (T.int .u8)),sl (a.HK.map (T.int .u8)),.int .u8 a.size,.int .u8 a.xV]
def nT.t(a:nT):T:= .eZ a.cs
@[simp]def nT.ag (a:nT):sh a.t [sl (a.program.map (T.int .u8)),sl (a.schedule.map (T.int .u8)),sl (a.HK.map (T.int .u8)),.int .u8 a.size,.int .u8 a.xV] 5:=DU
@[simp]theorem nT.fold (a0 a1 a2:List Int) (a3 a4:Int):T.eZ [sl (a0.map (T.int .u8)),sl (a1.map (T.int .u8)),sl (a2.map (T.int .u8)),.int .u8 a3,.int .u8 a4]=nT.t ⟨a0,a1,a2,a3,a4⟩:=rfl
@[simp]theorem nT.eta (a:nT):nT.mk a.program a.schedule a.HK a.size a.xV=a:=rfl
def nT.inj{a b:nT}(c:a.t=b.t):a=b:=by
 rcases a with⟨_,_,_,_,_⟩;rcases b with⟨_,_,_,_,_⟩;simp[nT.t,nT.cs,Wc,-nT.fold]at c;simp[c]
end
noncomputable section
open Go Go.TI Tryz
attribute [-simp] List.map_take List.map_drop List.map_append ij gG fK Bool.not_or Bool.not_and
attribute [simp] ig gJ
def PT(a:Int):Prop:=0<=a/\a<256
structure IB(v:nT):Prop where
 p:okB v.program
 q:okB v.schedule
 s:okB v.HK
 z:PT v.size
 w:PT v.xV
def FB:pM prog cx 6 (λc:nT=>[c.t,C 16]) IB (λ_=>Ys):=by
 refine jU [(17,IY.kc),(18,HT.kc),(19,HW.kc)] (jF 17592186046583 [(3,[(9,10)])] func6) (λ_=>105) (λa b r=>by simp at r;exact nT.inj r) ?_;rintro c f aA v;simp at v;obtain⟨M,u⟩:=v;have⟨ae,aN⟩:=f.z;have⟨ab,aE⟩:=f.w;obtain⟨_,⟨I,rfl,N⟩,j⟩:=IY.use (c.HK,(1+c.size% 16).toNat) ⟨f.s,dS⟩;obtain⟨_,⟨l,rfl,O⟩,n⟩:=IY.use ([],0) ⟨⟨G,G⟩,G⟩;obtain⟨_,⟨Z,rfl,K,hl⟩,eT⟩:=HT.use (c.program,c.schedule.take (min c.schedule.length 80)) ⟨f.p,⟨by have:=f.q.1;simp;omega,λx W=>f.q.2 x (bO W)⟩,dR⟩;obtain⟨_,⟨d,e,rfl,V⟩,i⟩:=HW.use (Z,(1+c.size% 16).toNat) ⟨K,dS,dS,dS⟩;simp only at eT i j n;rw[show(((1+c.size% 16).toNat:Nat):Int)=1+c.size% 16 by omega]at i j;have U:∀g:Int,0<=g->g<1000->IntKind.i64.wrap g=g:=λg ap av=>by rw[<-kv,kG B B]
 have o:c.size.tmod 16=c.size% 16:=Int.tmod_eq_emod_of_nonneg ae;have F: -9223372036854775808<=c.size:=B;have H:c.size<9223372036854775808:=B;have D:=D1 (k:= .i64) (a:=c.size) (show¬(16:Int)=0 by omega);have m:=U (1+c.size% 16) B B;simp[f6,M];refine fN (λT=>?_) (λT=>?_)
 ·simp[u,F,H,D,qm,o,m,j];exact⟨I,rfl,N⟩
 have⟨k,P,Q⟩:∃k:Nat,min (c.schedule.length:Int) 80=k/\k=min c.schedule.length 80:=⟨_,B,rfl⟩;rw[<-Q]at eT;simp[u,P,show k<=c.schedule.length by omega,eT,F,H,D,qm,o,m,i];refine fN (λy=>?_) (λy=>?_)
 ·have J:=λ{E:io} (ht:E.p 17=some IY.kc)=>(show rl prog cx E 17 [.iX,C 0]=some l.t from n ht);simp[J];exact⟨l,rfl,O⟩
 have R:d≠ []:=by simpa using y
 have al:0<d.length:=by rcases d with _|_<;>simp at R|-
 have L:c.xV.tmod (d.length:Int)=c.xV% (d.length:Int):=Int.tmod_eq_emod_of_nonneg ab;have S:0<=c.xV% (d.length:Int):=Int.emod_nonneg _ B;have an:c.xV% (d.length:Int)<d.length:=Int.emod_lt_of_pos _ B;have⟨h,A⟩:∃h,d[(c.xV% (d.length:Int)).toNat]? =some h:=⟨_,aB B⟩;simp[show-9223372036854775808<=c.xV by omega,show c.xV<9223372036854775808 by omega,D1 (show¬(d.length:Int)=0 by omega),L,fU S,A];exact⟨h,rfl,V h (aC A)⟩
section
attribute [-simp] size_cons
def Vi(d:GX){lo hi:Int}{a b:Nat}(c:fR->Bool)(e:lo=a)(f:hi=b):d.X2 lo hi c=((d.ev.drop a).take (b-a)).all c:=by
 unfold GX.X2;rw[e,f,show((b:Int)-a).toNat=b-a by omega];rfl
def lj.nat{c:fg}{a:Int}(d:ju a c.ej.length=true):∃b:Nat,a=b/\b<c.ej.length:=by
 have:=fQ.1 d;exact⟨a.toNat,B,this.2⟩
def Jx(c:GX)(d:Int->Int->Bool)(a:List Int)(b:Nat):Bool:=
 !decide (a.getD b 0<a.getD 0 0)&&d (a.getD ((b+1)% a.length) 0) (a.getD b 0)&&(List.range b).all λf=> !decide ((c.e (a.getD b 0)).eJ=(c.e (a.getD f 0)).eJ)
def UI{d:GX}{e:Int->Int->Bool}{b:List Int}(f:2<=b.length)(g:b.length<=4)(h:∀a<b.length,ju (b.getD a 0) d.ev.length=true)(i:∀a<b.length,Jx d e b a=true):d.J8 e b=true:=by
 unfold GX.J8;simp only[az,aM];refine⟨⟨⟨f,g⟩,List.all_eq_true.2 λk j=>?_⟩,List.all_eq_true.2 λa c=>i a (List.mem_range.1 c)⟩;obtain⟨a,c,rfl⟩:=List.mem_iff_getElem.1 j;have:=h a c;simpa[List.getD,c]using this
def zK{e:GX}{f:Int->Int->Bool}{a:List Int}(h:a.length<2\/4<a.length\/(∃b<a.length,ju (a.getD b 0) e.ev.length=false)\/∃b<a.length,Jx e f a b=false):e.J8 f a=false:=by
 rw[dH];intro d;unfold GX.J8 at d;simp only[az,aM]at d;obtain⟨⟨⟨j,k⟩,g⟩,i⟩:=d;rcases h with h|h|⟨b,c,h⟩|⟨b,c,h⟩
 ·omega
 ·omega
 ·have:=List.all_eq_true.1 g (a.getD b 0) (by simp[List.getD,c]);rw[h]at this;simp at this
 ·have:=List.all_eq_true.1 i b (List.mem_range.2 c);unfold Jx at h;rw[h]at this;simp at this
def Wh(a b:Nat)(d:b≠0)(c:a<9223372036854775808):binop .rem (C (a:Int)) (C (b:Int))=some (C ((a% b:Nat):Int)):=by
 rw[D1 B];rfl
end
end
noncomputable section
open Go Go.TI Tryz
section
attribute [-simp] List.map_take List.map_drop List.map_append
def oO(c:Nat)(b:List Int):Bool:=b.all λa=>ju a c
def sk:iK:=⟨iw×List Int,λa=>[a.1.t,sl (a.2.map (T.int .i64))],λa=>a.2.length<=1099511627776,λa=> .ez (oO a.1.w.ej.length a.2),λa c b=>by simp at b;rw[iw.inj b.1,jV G b.2]⟩
def To:sk.Ok prog cx 67:=by
 refine iF [] (jF 4196311 [] func67) (λo=>o.2.length+1) (by simp[sk]) ?_;rintro⟨e,b⟩ hl d m;simp[sk]at hl m|-;obtain⟨p,q⟩:=m;simp[f67,p,q];refine ik b.length B (λc d j=>j=H.cons hE (X 16 0 [e.t])/\Y d 2 (.fc 0 0 0 0)/\Y d 7 (sl (b.map (T.int .i64)))/\Y d 8 (C b.length)/\Y d 9 (C c)/\oO e.w.ej.length (b.drop c)=oO e.w.ej.length b) ?_ ?_ B G
 ·rintro c d j i r ⟨rfl,k,h,f,g,a⟩;rw[aJ i]at a;simp only[oO,cA]at a;by_cases l:b[c]<0
  ·have:ju b[c] e.w.ej.length=false:=by simp[ju];omega
   rw[this,dz]at a;simp[h,f,g,i,l,oO,a.symm]
  ·by_cases n:(e.w.ej.length:Int)<=b[c]
   ·have:ju b[c] e.w.ej.length=false:=by simp[ju];omega
    rw[this,dz]at a;simp[k,h,f,g,i,l,n,oO,a.symm]
   ·have:ju b[c] e.w.ej.length=true:=by simp[ju];omega
    rw[this,bm]at a;simp[k,h,f,g,i,r,l,n,oO,a]
 ·rintro d j ⟨rfl,k,h,f,g,a⟩;simp[oO]at a;simp[f,g,oO];exact a
def JN{c:io}(ht:c.p 67=some sk)(b:iw)(a:List Int)(hl:a.length<=1099511627776):rl prog cx c 67 [b.t,sl (a.map (T.int .i64))]=some (.ez (oO b.w.ej.length a)):=iN ht To (b,a) hl
def uV{d:io}(ht:d.p 67=some sk)(a:iw)(b c:Int):rl prog cx d 67 [a.t,sl [C b,C c]]=some (.ez (ju b a.w.ej.length&&ju c a.w.ej.length)):=by
 have:=JN ht a [b,c] G;simpa[oO]using this
def Dy(a:fg)(b c:Int):Bool:=ju b a.ej.length&&ju c a.ej.length&&decide (b<c)&&oe (kS a.ej b) (kS a.ej c)&& !decide ((kS a.ej b).eJ=(kS a.ej c).eJ)&& !((qB a.fM.cells (kS a.ej b).obj).getD default).wx
def J5(b:fg):Prop:=∀a∈b.ej,vf a=true->ju a.obj b.fM.cells.length=true
def CH:iK:=⟨iw×Int×Int,λa=>[a.1.t,C a.2.1,C a.2.2],λa=>J5 a.1.w,λa=> .ez (Dy a.1.w a.2.1 a.2.2),λa c b=>by simp at b;rw[iw.inj b.1,b.2.1,b.2.2]⟩
def Wx:CH.Ok prog cx 64:=by
 refine iF [(67,sk),(106,vz)] (jF 67109327 [(3,[(8,14),(10,14),(11,14)])] func64) (λb=>1) (by simp[CH]) ?_;rintro⟨j,d,e⟩ r H c;simp[CH]at r c|-;obtain⟨g,h,i⟩:=c;cases l:(ju d j.w.ej.length&&ju e j.w.ej.length)with
 |false=>simp[f64,g,h,i,uV,l,Dy,iR]
 |true=>
  have a:=l;rw[az]at a;have⟨b,c,t⟩:=jn a.1;have⟨k,v,x⟩:=jn a.2;have A:=fU (fQ.1 a.1).1;have D:=fU (fQ.1 a.2).1;have n:kS j.w.ej d=b:=by simp[kS,t]
  have o:kS j.w.ej e=k:=by simp[kS,x]
  by_cases m:e<=d
  ·have:¬d<e:=B;simp[f64,g,h,i,uV,l,m,Dy,iR,this]
  ·have p:d<e:=B;cases f:oe b k with
   |false=>simp[f64,g,h,i,uV,m,Dy,iR,p,EF,a.1,a.2,n,o,f]
   |true=>
    have u:vf b=true:=by unfold oe at f;simp at f;exact f.1.1.1
    have q:=r b (aC c) u;have⟨F,y,z⟩:=jn q;have s:=fU (fQ.1 q).1;cases E:decide (b.eJ=k.eJ)<;>
     simp[f64,g,h,i,uV,m,Dy,iR,p,EF,a.1,a.2,n,o,f,E,A,D,c,v,y,z,s,rI]
def abB{d:io}(ht:d.p 64=some CH)(a:iw)(b c:Int)(e:J5 a.w):rl prog cx d 64 [a.t,C b,C c]=some (.ez (Dy a.w b c)):=iN ht Wx (a,b,c) e
end
end
noncomputable section
open Go Go.TI Tryz
attribute [-simp] List.map_take List.map_drop List.map_append ij gG fK Bool.not_or Bool.not_and
attribute [simp] ig gJ
section
attribute [-simp] size_cons
def o9{a b:Nat}(c:a<b):ku a b=a::ku (a+1) b:=by
 unfold ku;rw[show b-a=(b-(a+1))+1 by omega,List.range'_succ]
def qC{a b:Nat}(c:b<=a):ku a b=[]:=by unfold ku;rw[show b-a=0 by omega];rfl
def Mx(a:Nat):List.range a=ku 0 a:=by unfold ku;rw[List.range_eq_range'];rfl
def nS{d i:Type}(b:Nat){f:d->List i}:∀{l:List d},(∀a∈l,(f a).length<=b)->(l.flatMap f).length<=l.length*b:=by
 intro l;induction l with
 |nil=>intro _;simp
 |cons a l g=>
  intro c;rw[bD,aV,aQ,cm];have j:=c a G;have k:=g λh e=>c h (by simp[e]);omega
def EP(b a:Nat):(ku b a).length<=a:=by unfold ku;simp
def Xz{c:Nat}(h:c<=16){d:List Int->Bool}{go:List Int->Int->Bool}:∀(a:Nat) (b:List Int),(Ez c d go a b).length<=17^a:=by
 intro a;induction a with
 |zero=>intro b;unfold Ez;split<;>simp
 |succ a i=>
  intro b;unfold Ez;rw[aV];have j:(if d b=true then [b]else []).length<=1:=by split<;>simp
  have k:=nS (17^a) (l:=ku ((b.getD 0 0).toNat+1) c) (f:=λ(e:Nat)=>if go b e=true then Ez c d go a (b++[(e:Int)])else []) λo _=>by
   split
   ·exact i _
   ·simp
  have g:=EP ((b.getD 0 0).toNat+1) c;have m:=aY (17^a) (aU g h);have n:0<17^a:=Nat.pow_pos B;rw[Nat.pow_succ];omega
def Ij(b:jm->Bool)(a:jm):(kH b a).length<=1:=by unfold kH;split<;>simp
def Id(a:GX)(m:a.n<=16):a.FU.length<=100000+80000:=by
 unfold GX.FU;simp only[aV];have two:∀h:Nat->Nat->jm,((List.range a.n).flatMap λ(b:Nat)=>(List.range a.n).flatMap λ(c:Nat)=>kH a.vR (h b c)).length<=256:=λh=>by
  have j:=nS 16 (l:=List.range a.n) (f:=λ(b:Nat)=>(List.range a.n).flatMap λ(c:Nat)=>kH a.vR (h b c)) λb _=>by
   have k:=nS 1 (l:=List.range a.n) (f:=λ(c:Nat)=>kH a.vR (h b c)) λc _=>Ij _ _;rw[dN]at k;omega
  rw[dN]at j;omega
 have j:=two gR;have k:=two gL;have p:((List.range a.n).flatMap λ(b:Nat)=>(a.Rx b).map gC).length<=16*4913:=by
  have i:=nS 4913 (l:=List.range a.n) (f:=λ(b:Nat)=>(a.Rx b).map gC) λb _=>by
   rw[aI];exact Xz (show a.ev.length<=16 from m) 3 _
  rw[dN]at i;omega
 have q:((List.range a.n).flatMap λ(b:Nat)=>(ku (b+1) a.n).flatMap λ(c:Nat)=>if(a.e b).eJ=(a.e c).eJ/\vf (a.e b)=true/\vf (a.e c)=true then(List.range a.n).flatMap λ(d:Nat)=>(ku d a.n).flatMap λ(g:Nat)=>kH a.vR (gA b c d g)else []).length<=16*(16*256):=by
  have i:=nS (16*256) (l:=List.range a.n) (f:=λ(b:Nat)=>(ku (b+1) a.n).flatMap λ(c:Nat)=>if(a.e b).eJ=(a.e c).eJ/\vf (a.e b)=true/\vf (a.e c)=true then(List.range a.n).flatMap λ(d:Nat)=>(ku d a.n).flatMap λ(g:Nat)=>kH a.vR (gA b c d g)else []) λb _=>by
   have r:=nS 256 (l:=ku (b+1) a.n) (f:=λ(c:Nat)=>if(a.e b).eJ=(a.e c).eJ/\vf (a.e b)=true/\vf (a.e c)=true then(List.range a.n).flatMap λ(d:Nat)=>(ku d a.n).flatMap λ(g:Nat)=>kH a.vR (gA b c d g)else []) λc _=>by
    split
    ·have o:=nS 16 (l:=List.range a.n) (f:=λ(d:Nat)=>(ku d a.n).flatMap λ(g:Nat)=>kH a.vR (gA b c d g)) λd _=>by
      have s:=nS 1 (l:=ku d a.n) (f:=λ(g:Nat)=>kH a.vR (gA b c d g)) λg _=>Ij _ _;have:=EP d a.n;omega
     rw[dN]at o;omega
    ·simp
   have:=EP (b+1) a.n;omega
  rw[dN]at i;omega
 omega
structure y8(x:iw):Prop where
 w:lj x.w
 s:x.ER=x.w.gx.st
def y8.st{a:iw}(c:y8 a){e:Int}(d:ju e a.w.ej.length=true):∃b,a.ER[e.toNat]? =some b/\a.w.gx.s e=b/\mK a.w.fM b=true/\(∀h∈b.fI,h.fO.length<=2000):=by
 have⟨f,i⟩:=c.w.ok.s d;have g:=c.w.ok.st (fQ.1 d).2;refine⟨_,by rw[c.s];exact g,f,by rw[<-f];exact i,by rw[<-f];exact(c.w.rd d).1⟩
def sS:iK:=⟨iw×Int×Int,λa=>[a.1.t,C a.2.1,C a.2.2],λa=>y8 a.1/\ju a.2.1 a.1.w.ej.length=true/\ju a.2.2 a.1.w.ej.length=true,λa=> .ez (a.1.w.gx.tS a.2.1 a.2.2),λa c b=>by simp at b;rw[iw.inj b.1,b.2.1,b.2.2]⟩
def Q7:sS.Ok prog cx 70:=by
 refine iF [(107,Br),(73,po)] (jF 36051629065113551 [(1,[(8,14),(10,14),(11,14)])] func70) (λ_=>10) (by simp[sS]) ?_;rintro⟨g,j,i⟩ ⟨q,v,D⟩ av A;simp only at q v D;simp[sS]at A|-;obtain⟨Q,l,R⟩:=A;have⟨x,P,k,z,an,ap⟩:=q.w.at v;have⟨d,M,N,O,al,o⟩:=q.w.at D;have⟨H,s,W,t,ab⟩:=q.st v;have a:=GX.A7.eq_1 g.w.gx j i;rw[O,z,W,show g.w.gx.w=g.w.fM from rfl]at a;have u:g.w.gx.tS j i=(tJ x.fh&&g.w.gx.A7 j i):=by rw[<-z];rfl
 generalize g.w.gx.tS j i=F at*
 generalize g.w.gx.A7 j i=ae at*
 simp[f70,Q,l,R,M,N,P,k,XV,rI];refine fN (λm=>?_) (λm=>?_)
 ·have:F=false:=by
   rw[u];cases T:tJ x.fh with
   |false=>rfl
   |true=>
    rw[T]at m;have ht:d.eJ=x.eJ:=by simpa using m
    rw[au ht]at a;rw[a];rfl
  simp[this]
 simp only[cT,c8,cv]at m;obtain⟨S,U⟩:=m;rw[U,bm]at u;subst u;rw[Z S]at a;simp;have p:∀b:fa,b∈H.fI->b.fO.length<=1000000:=λb hl=>by have:=ab b hl;omega
 cases E:decide (d.fh=6)with
 |true=>
  have e:d.fh=6:=by simpa using E
  have⟨b,l1,l2,l3⟩:=vM t (kJ o B);have hl:=p b (aC l2);rw[au (.inl e),l3]at a;simp[l,l1,l2,s,k,qz,hl,a]
 |false=>
  cases f:decide (d.fh=10)with
  |true=>
   have e:d.fh=10:=by simpa using f
   have⟨b,l1,l2,l3⟩:=vM t (kJ o B);have hl:=p b (aC l2);rw[au (.inr e),l3]at a;simp[l,f,l1,l2,s,k,qz,hl,a]
  |false=>
   have V:¬(d.fh=6\/d.fh=10):=by simp at E f;omega
   rw[Z V]at a;cases h:decide (d.fh=8)with
   |true=>
    have e:d.fh=8:=by simpa using h
    have⟨b,l1,l2,l3⟩:=vM t (kJ o B);rw[au e,l3]at a;have hl:=p b (aC l2);simp[l,f,h,l1,l2,s,k,a]
   |false=>
    rw[Z (by simpa using h)]at a;cases n:decide (d.fh=17)with
    |true=>
     have e:d.fh=17:=by simpa using n
     have⟨c,b,I,J,K,y,L⟩:=EA t (mZ o B);rw[au e,L]at a;have hl:=p b (aC y);simp[l,f,h,n,I,J,K,y,s,k,a]
    |false=>
     rw[Z (by simpa using n)]at a;cases r:decide (d.fh=21)with
     |true=>
      rw[au (by simpa using r)]at a;simp[f,h,n,r,a]
     |false=>
      rw[Z (by simpa using r)]at a;simp[f,h,n,r,a]
def E7:iK:=⟨iw×Int×Int,λa=>[a.1.t,C a.2.1,C a.2.2],λa=>y8 a.1,λa=> .ez ((ju a.2.1 a.1.w.ej.length&&ju a.2.2 a.1.w.ej.length)&&a.1.w.gx.Zl a.2.1 a.2.2),λa c b=>by simp at b;rw[iw.inj b.1,b.2.1,b.2.2]⟩
def WE:E7.Ok prog cx 66:=by
 refine iF [(67,sk)] (jF 1238093369775042453301102031 [(3,[(8,14),(10,14),(11,14)])] func66) (λ_=>100) (by simp[E7]) ?_;rintro⟨f,a,b⟩ p h N;replace p:y8 f:=p;simp[E7]at N|-;obtain⟨F,i,u⟩:=N;cases z:(ju a f.w.ej.length&&ju b f.w.ej.length)with
 |false=>simp[f66,F,i,u,uV,z,iR]
 |true=>
  have R:=z;rw[az]at R;obtain⟨J,O⟩:=R;have⟨K,a1,a2,a3,a4,a5⟩:=p.w.at J;have⟨A,L,bp,W,Z,bs⟩:=p.w.at O;have⟨S,T,a6,a7,bX⟩:=p.st J;have⟨U,bg,bi,bn⟩:=xc a7 Z;have d:=GX.Zl.eq_1 f.w.gx a b;rw[a3,W,a6,bn]at d;generalize f.w.gx.Zl a b=V at*
  obtain⟨e,rfl,bN⟩:=lj.nat J;obtain⟨c,rfl,bT⟩:=lj.nat O;have bW:=p.w.ok.len;rw[cG]at a1 L T;by_cases bS:c<e;rotate_left
  ·rw[aS (show¬(c:Int)<e by omega)]at d;simp[f66,F,i,u,uV,z,iR,d,show e<=c by omega]
  have an:=Vi f.w.gx (lo:=(c:Int)+1) (hi:=e) (a:=c+1) (b:=e) (λo=> !decide (o.eJ=A.eJ)) B rfl;rw[an,show f.w.gx.ev=f.w.ej from rfl,bM (show(c:Int)<e by omega)]at d;have al:binop .add (C (c:Int)) (C 1)=some (C ((c:Int)+1)):=jp B B;have a8:lJ ((c:Int)+1)=some (c+1):=by have:=fU (show(0:Int)<=((c+1:Nat):Int)by omega);simpa using this
  simp[f66,F,i,u,uV,z,iR,show¬e<=c by omega,a1,L,rI];refine fN (λs=>?_) (λs=>?_)
  ·have:V=false:=by
    rw[dH];intro g;rw[d]at g;simp only[az,cu,aM,cq,cv]at g s;obtain⟨⟨⟨⟨⟨⟨⟨_,bB⟩,ab⟩,r⟩,l⟩,bC⟩,bu⟩,bA⟩:=g;simp[ab,r,l]at s;omega
   simp[this]
  simp only[cT,Bool.and_eq_false_iff,c8,cv,aM]at s;obtain⟨⟨⟨aA,aE⟩,aN⟩,aX⟩:=s;rw[bM aE,bM aN,aS aX,show(decide (K.fh=18)||decide (K.fh=19))=true by simpa using aA]at d;simp[-List.length_take,-List.length_drop,i,u,al,a8,show c+1<=e by omega,show e<=f.w.ej.length by omega];have bH:((f.w.ej.drop (c+1)).take (e-(c+1))).length<=16:=dR;generalize(f.w.ej.drop (c+1)).take (e-(c+1))=n at*
  refine ik n.length B (λy h g=>iQ 4 g/\g.get 0=some (X 16 0 [f.t])/\g.get 2=some (X 7 1 [K.t])/\g.get 3=some (X 7 1 [A.t])/\((n.drop y).all λo=> !decide (o.eJ=A.eJ))=(n.all λo=> !decide (o.eJ=A.eJ))/\Y h 1 (C e)/\Y h 3 (.fc 0 0 0 0)/\Y h 7 (.fc 2 0 0 0)/\Y h 8 (.fc 3 0 0 0)/\Y h 67 (sl (n.map fR.t))/\Y h 68 (C n.length)/\Y h 69 (C y)) ?_ ?_ B ?_
  ·rintro y h g P ae ⟨j,D,E,q,k,i,H,r,l,I,v,x⟩;have ap:=j.ne (b:=0) B;have av:=j.ne (b:=2) B;have Q:=j.ne (b:=3) B;rw[aJ P,cA]at k;simp[q,l,I,v,x,Q,j.low,P];generalize n[y]=o at*
   refine fN (λm=>?_) (λm=>?_)
   ·rw[m]at k;rw[<-k]at d;simp at d;simp[d,j.hp]
   ·rw[m]at k;simp[i,H,r,l,I,v,x,ae];exact⟨j.cons _,by simp[D,ap],by simp[E,av],by simp[q,Q],by simpa using k⟩
  ·rintro h g ⟨j,D,E,q,k,i,H,r,l,I,v,x⟩;rw[bR]at k;rw[<-k]at d;simp at d;simp[D,q,i,H,l,v,x,T,bg,bi];refine fN (λm=>?_) (λm=>?_)
   ·rw[show decide (U.je=3)=false by simpa using m]at d;simp at d;simp[d,j.hp]
   ·rw[show decide (U.je=3)=true by simpa using m]at d;simp at d;simp[E,q,r,l,j.hp,d]
  ·simp[i]
def xl:iK:=⟨iw×Int×Int,λa=>[a.1.t,C a.2.1,C a.2.2],λa=>y8 a.1/\ju a.2.1 a.1.w.ej.length=true/\ju a.2.2 a.1.w.ej.length=true,λa=> .ez (a.1.w.gx.L6 a.2.1 a.2.2),λa c b=>by simp at b;rw[iw.inj b.1,b.2.1,b.2.2]⟩
def K2:xl.Ok prog cx 29:=by
 refine iF [] (jF 18463641368405213903 [] func29) (λ_=>100) (by simp[xl]) ?_;rintro⟨g,a,b⟩ ⟨l,p,A⟩ h H;simp only at l p A;simp[xl]at H|-;obtain⟨F,u,v⟩:=H;have⟨i,a1,a2,a3,a4,a5⟩:=l.w.at p;have⟨y,E,an,N,ap,av⟩:=l.w.at A;have⟨S,K,U,V,a7⟩:=l.st p;have⟨Z,ab,ae,al⟩:=xc V a4;have d:=GX.L6.eq_1 g.w.gx a b;rw[a3,N,U,al]at d;generalize g.w.gx.L6 a b=L at*
 obtain⟨c,rfl,aE⟩:=lj.nat p;obtain⟨e,rfl,aX⟩:=lj.nat A;have a6:=l.w.ok.len;rw[cG]at a1 E K;have Q:=Vi g.w.gx (lo:=(c:Int)+1) (hi:=e) (a:=c+1) (b:=e) (GX.Ec i.eJ) B rfl;rw[Q,show g.w.gx.ev=g.w.ej from rfl]at d;have P:binop .add (C (c:Int)) (C 1)=some (C ((c:Int)+1)):=jp B B;have W:lJ ((c:Int)+1)=some (c+1):=by have:=fU (show(0:Int)<=((c+1:Nat):Int)by omega);simpa using this
 by_cases aN:c<e;rotate_left
 ·rw[aS (show¬(c:Int)<e by omega)]at d;simp[f29,F,u,v,d,show e<=c by omega,a1]
 rw[bM (show(c:Int)<e by omega),bm]at d;simp[f29,F,u,v,show¬e<=c by omega,a1,E,K,ab,ae];refine fN (λk=>?_) (λk=>?_)
 ·have:L=false:=by
   rw[d];cases R:decide (y.eJ=i.eJ)<;>cases T:Z.atomic<;>simp[R,T]at k|-
  simp[this]
 simp only[cT,c8]at k;rw[k.1,k.2]at d;simp[-List.length_take,-List.length_drop,u,v,P,W,show c+1<=e by omega,show e<=g.w.ej.length by omega];have aA:((g.w.ej.drop (c+1)).take (e-(c+1))).length<=16:=dR;generalize(g.w.ej.drop (c+1)).take (e-(c+1))=j at*
 refine ik j.length B (λq h s=>iQ 1 s/\(j.drop q).all (GX.Ec i.eJ)=j.all (GX.Ec i.eJ)/\Y h 7 (C i.eJ)/\Y h 50 (sl (j.map fR.t))/\Y h 51 (C j.length)/\Y h 52 (C q)) ?_ ?_ B ?_
 ·rintro q h s J O ⟨m,f,z,x,n,o⟩;rw[aJ J,cA]at f;simp[z,x,n,o,m.low,J];generalize j[q]=r at*
  have I:GX.Ec i.eJ r= !(decide (r.eJ=i.eJ)&&decide (r.fh=15)):=rfl;refine fN (λD=>?_) (λD=>?_)
  ·rw[I,D]at f;rw[<-f]at d;simp at d;simp[d,m.hp]
  ·rw[I,D]at f;simp[z,x,n,o,O];exact⟨m.cons _,by simpa using f⟩
 ·rintro h s ⟨m,f,z,x,n,o⟩;rw[bR]at f;rw[<-f]at d;simp at d;simp[n,o,m.hp,d]
 ·simp
def yC:iK:=⟨iw×jm,λe=>[e.1.t,e.2.t],λe=>y8 e.1/\ju e.2.a e.1.w.ej.length=true/\ju e.2.b e.1.w.ej.length=true/\ju e.2.c e.1.w.ej.length=true/\ju e.2.d e.1.w.ej.length=true,λe=> .ez (e.1.w.gx.brk e.2.a e.2.b e.2.c e.2.d),λe g f=>by simp at f;rw[iw.inj f.1,jm.inj f.2]⟩
def Q6:yC.Ok prog cx 68:=by
 refine iF [(106,vz)] (jF 63 [] func68) (λ_=>100) (by simp[yC]) ?_;rintro⟨a,⟨I,b,c,d,f,J⟩⟩ ⟨g,h,q,i,j⟩ M o;simp only at g h q i j;simp[yC]at o|-;obtain⟨y,z⟩:=o;have⟨N,a1,a2,a3,a4,a5⟩:=g.w.at h;have⟨K,r,s,t,D,E⟩:=g.w.at i;have⟨L,u,v,x,F,H⟩:=g.w.at j;have n:=GX.brk.eq_1 a.w.gx b c d f;have l:=λ{k:io} (ht:k.p 106=some vz)=>EF ht a b d h i;have m:=λ{k:io} (ht:k.p 106=some vz)=>EF ht a f c j q;rw[show kS a.w.ej b=a.w.gx.e b from rfl,show kS a.w.ej d=a.w.gx.e d from rfl]at l;rw[show kS a.w.ej f=a.w.gx.e f from rfl,show kS a.w.ej c=a.w.gx.e c from rfl]at m;generalize a.w.gx.brk b c d f=A at*
 generalize oe (a.w.gx.e b) (a.w.gx.e d)=p1 at*
 generalize oe (a.w.gx.e f) (a.w.gx.e c)=p2 at*
 rw[a3,t,x]at n;simp[f68,y,z,a1,a2,r,s,u,v,l,m,n]
def BD:iK:=⟨iw×List Int,λa=>[a.1.t,sl (a.2.map (T.int .i64))],λa=>y8 a.1/\a.2.length<=1000000,λa=> .ez (a.1.w.gx.J8 a.1.w.gx.tS a.2),λa c b=>by simp at b;rw[iw.inj b.1,jV G b.2]⟩
def L4{d:io}(ht:d.p 70=some sS)(a:iw)(c b:Int)(g:y8 a)(e:ju c a.w.ej.length=true)(f:ju b a.w.ej.length=true):rl prog cx d 70 [a.t,C c,C b]=some (.ez (a.w.gx.tS c b)):=iN ht Q7 (a,c,b) ⟨g,e,f⟩
def T2:BD.Ok prog cx 65:=by
 refine iF [(70,sS),(67,sk)] (jF 2361217299907134620023 [] func65) (λ_=>100) (by simp[BD]) ?_;rintro⟨f,a⟩ ⟨E,bs⟩ g ae;simp only at E bs;simp[BD]at ae|-;obtain⟨a7,i⟩:=ae;have bS:=E.w.ok.len;have⟨F,s⟩:∃F,f.w.gx.J8 f.w.gx.tS a=F:=⟨_,rfl⟩;rw[s];simp[f65,a7,i,JN,show a.length<=1099511627776 by omega];refine fN (λD=>?_) (λD=>?_)
 ·have:F=false:=by
   rw[<-s];simp only[cu,aM,cq]at D;rcases D with(h|h)|h
   ·exact zK B
   ·exact zK B
   ·unfold oO at h;rw[List.all_eq_false]at h;obtain⟨d,v,bA⟩:=h;obtain⟨b,aA,rfl⟩:=List.mem_iff_getElem.1 v;exact zK (.inr (.inr (.inl ⟨b,aA,by simp[List.getD,aA];exact(by simpa using bA:ju a[b] f.w.ej.length=false)⟩)))
  simp[this]
 simp only[cT,c8,cv]at D;obtain⟨⟨bT,bW⟩,aN⟩:=D;have bn:2<=a.length:=B;have bp:a.length<=4:=B;have z:∀c (j:c<a.length),ju a[c] f.w.ej.length=true:=λc j=>by
  unfold oO at aN;exact List.all_eq_true.1 aN _ (aG j)
 have bu:∀c<a.length,ju (a.getD c 0) f.w.gx.ev.length=true:=λc j=>by simp[List.getD,j];exact z c j
 simp[i];generalize S:H.cons _ _=K;have ab:K.get 0=some (X 16 0 [f.t]):=by rw[<-S];simp
 have Z:Hp K:=by rw[<-S];simp
 clear S;refine ik a.length B (λb g h=>K=h/\(∀c<b,Jx f.w.gx f.w.gx.tS a c=true)/\Y g 1 (sl (a.map (T.int .i64)))/\Y g 2 (.fc 0 0 0 0)/\Y g 23 (sl (a.map (T.int .i64)))/\Y g 24 (C a.length)/\Y g 25 (C b)) ?_ ?_ B ?_
 ·rintro b g _ A al ⟨rfl,U,i,l,r,n,o⟩;have W:∀c (j:c<a.length),a.getD c 0=a[c]:=λc j=>by simp[List.getD,j]
  have O:0<a.length:=B;have aE:=Wh (b+1) a.length B B;have N:(b+1)% a.length<a.length:=Nat.mod_lt _ O;have u:Jx f.w.gx f.w.gx.tS a b=(!decide (a[b]<a[0])&&f.w.gx.tS (a[(b+1)% a.length]'N) a[b]&&(List.range b).all λd=> !decide ((f.w.gx.e a[b]).eJ=(f.w.gx.e (a.getD d 0)).eJ)):=by unfold Jx;rw[W _ A,W _ O,W _ N]
  generalize(b+1)% a.length=m at*
  have a6:=λ{bC:io} (ht:bC.p 70=some sS)=>L4 ht f a[m] a[b] E (z m N) (z b A);have⟨x,a1,a2,a3,a4,a5⟩:=E.w.at (z b A);rw[a3]at u;simp at aE;have an:Jx f.w.gx f.w.gx.tS a b=false->F=false:=λh=>by rw[<-s];exact zK (.inr (.inr (.inr ⟨b,A,h⟩)))
  simp[ab,i,l,r,n,o,A,al,O,aE,N,a6];refine fN (λk=>?_) (λk=>?_)
  ·have:Jx f.w.gx f.w.gx.tS a b=false:=by
    rw[u,dH];intro h;simp only[az,cq,cv]at h;simp[h.1.2]at k;omega
   simp[an this,Z]
  ·simp only[cT,c8,cv]at k;rw[k.2,aS k.1]at u;simp[-List.length_take,i,show b<=a.length by omega];have⟨q,R⟩:∃q,q=a.take b:=⟨_,rfl⟩;rw[<-R];have bi:q.length=b:=by rw[R];simp;omega
   have bB:∀d (v:d<q.length) (hl:d<a.length),q[d]=a[d]:=λd v hl=>by subst R;exact List.getElem_take
   refine ik b B (λd g h=>K=h/\(∀c<d,decide (x.eJ=(f.w.gx.e (a.getD c 0)).eJ)=false)/\Y g 1 (sl (a.map (T.int .i64)))/\Y g 2 (.fc 0 0 0 0)/\Y g 6 (C a[b])/\Y g 23 (sl (a.map (T.int .i64)))/\Y g 24 (C a.length)/\Y g 25 (C b)/\Y g 51 (sl (q.map (T.int .i64)))/\Y g 52 (C b)/\Y g 53 (C d)) ?_ ?_ B ?_
   ·rintro d g _ av bg ⟨rfl,V,i,l,Q,r,n,o,P,I,J⟩;have L:d<a.length:=B;have⟨y,bH,bN,aX,bX,b6⟩:=E.w.at (z d L);have ap:d<q.length:=B;have a8:=bB d ap L;simp[ab,l,Q,P,I,J,av,ap,a8,a1,a2,bH,bN];refine fN (λk=>?_) (λk=>?_)
    ·have:Jx f.w.gx f.w.gx.tS a b=false:=by
      rw[u];simp;exact⟨d,av,by simpa[L,aX]using k⟩
     simp[an this,Z]
    ·simp[i,l,Q,r,n,o,P,I,J,bg];intro c j;rcases aT c d with h|h
     ·simpa using V c h
     ·rw[show c=d by omega];simp[L,aX];simpa using k
   ·rintro g _ ⟨rfl,V,i,l,Q,r,n,o,P,I,J⟩;simp[i,l,r,n,o,I,J,al];intro c j;rcases aT c b with h|h
    ·exact U c h
    ·rw[show c=b by omega,u];simp;intro d v;simpa using V d v
   ·simp[i,l,r,n,o,bi]
 ·rintro g _ ⟨rfl,U,i,l,r,n,o⟩;rw[UI bn bp bu U]at s;simp[n,o,s.symm,Z]
 ·simp[i]
theorem lj.cells{a:fg}(g:lj a):J5 a:=λd h e=>by
 have⟨i,f⟩:=cR h;have hl:i<a.ej.length:=(List.getElem?_eq_some_iff.1 f).1;have⟨k,b,l,m,n,c⟩:=g.at (i:=i) (fQ.2 ⟨B,by simpa using hl⟩);rw[cG,f]at b;simp only[aw]at b;subst b;have j:d.fh=3\/d.fh=4:=by unfold vf at e;simpa using e
 unfold j8 at c;rw[Z B,au j]at c;exact c
def LY{f:io}(ht:f.p 67=some sk)(a:iw)(b c d e:Int):rl prog cx f 67 [a.t,sl [C b,C c,C d,C e]]=some (.ez (ju b a.w.ej.length&&ju c a.w.ej.length&&ju d a.w.ej.length&&ju e a.w.ej.length)):=by
 have:=JN ht a [b,c,d,e] G;simpa[oO,Bool.and_assoc]using this
def SE{a:iw}(d:y8 a)(b c:Int):Dy a.w b c=((ju b a.w.ej.length&&ju c a.w.ej.length)&&a.w.gx.rac b c):=by
 unfold Dy GX.rac GX.e fg.gx;cases ju b a.w.ej.length<;>cases ju c a.w.ej.length<;>simp
 ac_rfl
def xf:iK:=⟨iw×jm,λa=>[a.1.t,a.2.t],λa=>y8 a.1/\a.2.jz.length<=1000000,λa=> .ez (a.1.w.gx.vG a.2),λa c b=>by simp at b;rw[iw.inj b.1,jm.inj b.2]⟩
def Tt:xf.Ok prog cx 27:=by
 refine iF [(64,CH),(65,BD),(66,E7),(67,sk),(29,xl),(68,yC)] (jF 2417851783344448572752095 [] func27) (λ_=>100) (by simp[xf]) ?_;rintro⟨f,e⟩ ⟨j,v⟩ J u;simp only at j v;simp[xf]at u|-;obtain⟨l,m⟩:=u;have g:=GX.vG.eq_1 f.w.gx e;simp only[show∀x,f.w.gx.zJ x=ju x f.w.ej.length from λ_=>rfl]at g;generalize f.w.gx.vG e=I at*
 cases i:decide (e.fh=1)with
 |true=>
  rw[au (by simpa using i)]at g;have o:∀{h:io},h.p 64=some CH->rl prog cx h 64 [f.t,C e.a,C e.b]=some (.ez ((ju e.a f.w.ej.length&&ju e.b f.w.ej.length)&&f.w.gx.rac e.a e.b)):=λht=>by rw[<-SE j];exact abB ht f e.a e.b j.w.cells
  simp[f27,l,m,i,o,g]
  try ac_rfl
 |false=>
  rw[Z (by simpa using i)]at g;cases k:decide (e.fh=2)with
  |true=>
   rw[au (by simpa using k)]at g;have o:∀{h:io},h.p 65=some BD->rl prog cx h 65 [f.t,sl (e.jz.map (T.int .i64))]=some (.ez (f.w.gx.J8 f.w.gx.tS e.jz)):=λht=>iN ht T2 (f,e.jz) ⟨j,v⟩;simp[f27,l,m,i,k,o,g,GX.dead]
  |false=>
   rw[Z (by simpa using k)]at g;cases n:decide (e.fh=3)with
   |true=>
    rw[au (by simpa using n)]at g;have o:∀{h:io},h.p 66=some E7->rl prog cx h 66 [f.t,C e.a,C e.b]=some (.ez ((ju e.a f.w.ej.length&&ju e.b f.w.ej.length)&&f.w.gx.Zl e.a e.b)):=λht=>iN ht WE (f,e.a,e.b) j;simp[f27,l,m,i,k,n,o,g]
    try ac_rfl
   |false=>
    rw[Z (by simpa using n)]at g;cases q:decide (e.fh=4)with
    |false=>
     rw[Z (by simpa using q)]at g;simp[f27,l,m,i,k,n,q,g]
    |true=>
     rw[au (by simpa using q)]at g;cases r:(ju e.a f.w.ej.length&&ju e.b f.w.ej.length&&ju e.c f.w.ej.length&&ju e.d f.w.ej.length)with
     |false=>
      rw[r]at g;cases s:decide (e.jz=[])<;>simp[f27,l,m,i,k,n,q,LY,iR,r,g,s]
     |true=>
      rw[r]at g;have A:=r;simp only[az]at A;obtain⟨⟨⟨y,z⟩,F⟩,H⟩:=A;have D:∀{h:io},h.p 29=some xl->rl prog cx h 29 [f.t,C e.a,C e.b]=some (.ez (f.w.gx.L6 e.a e.b)):=λht=>iN ht K2 (f,e.a,e.b) ⟨j,y,z⟩;have E:∀{h:io},h.p 68=some yC->rl prog cx h 68 [f.t,e.t]=some (.ez (f.w.gx.brk e.a e.b e.c e.d)):=λht=>iN ht Q6 (f,e) ⟨j,y,z,F,H⟩;cases s:decide (e.jz=[])<;>simp[f27,l,m,i,k,n,q,LY,iR,r,D,E,g,s]
def PL{c:io}(ht:c.p 27=some xf)(b:iw)(a:jm)(d:y8 b)(hl:a.jz.length<=1000000):rl prog cx c 27 [b.t,a.t]=some (.ez (b.w.gx.vG a)):=iN ht Tt (b,a) ⟨d,hl⟩
def cv8(b:H)(a:Int)(c:0<=a)(d:a<256):cvK cx b 282 5 ty5 (.int .u64 a)=some (.val (.int .u8 a) b):=by
 refine JF UM rfl ?_;rw[kv];unfold IntKind.wrap;simp[IntKind.bits,IntKind.signed];omega
def OU:pM prog cx 181 (λa:Nat=>[.int .u64 a]) (λa=>a<=11) (λ_=>Ik):=by
 refine jU [] (jF 16661 [] func181) (λ_=>10) (λe f c=>by simp at c;omega) ?_;rintro(a:Nat) g h b;simp at b;have d:a=0\/a=1\/a=2\/a=3\/a=4\/a=5\/a=6\/a=7\/a=8\/a=9\/a=10\/a=11:=B;rcases d with rfl|rfl|rfl|rfl|rfl|rfl|rfl|rfl|rfl|rfl|rfl|rfl<;>simp at b<;>simp[f181,b,cv8,qm]
def VE{c:jQ}{g h:Nat}{d:DL}(i b:Code)(e:Env)(f:H)(a:jE):W (kq cx c h g d (.cond (.const (Value.bool false)) i b) e f) a=W (kq cx c h g d b e f) a:=rfl
def Zh:pM prog cx 140 (λa:Nat=>[.int .u64 a]) (λa=>a<=11) (λ_=>Ik):=by
 refine jU [(181,OU.kc)] (jF 5 [] func140) (λ_=>10) (λf g d=>by simp at d;omega) ?_;rintro(a:Nat) e i b;simp at b;obtain⟨_,⟨h,rfl⟩,c⟩:=OU.use a e;simp[f140,b,c,VE]
def Y2(a:VI)(c:List T)(b:H):Prop:=c=[a.v]/\Gr b a.v 1 (iz (a.A++[a.t]))/\iQ 0 b/\Mi a.A/\a.t∉a.A/\a.A.length<=10
def cvu(b:H)(a:Int)(c:0<=a)(d:a<256):cvK cx b 3 233 Sd (C a)=some (.val (.int .u64 a) b):=by
 refine JF XA rfl ?_;rw[kv];unfold IntKind.wrap;simp[IntKind.bits,IntKind.signed];omega
def aas:(km VI Y2 IU).Ok prog cx 100:=by
 refine kh (tb:=⟨pt [(140,Zh.kc)],ht [(139,km (VI×Int) Y3 SZ)]⟩) jv jl (jF 5 [] func100) (λ_ _=>100) (λs q c l=>by obtain⟨rfl,_⟩:=l;simp[f100]) ?_;rintro⟨a,h,i⟩ _ c ⟨rfl,b,p,e,ht,hl⟩ u f;simp only at b e ht hl;simp at f;have g:=λk:H=>b.len (cx:=cx) k pI _ rfl;simp at g;have m:Gr (TI.hr c) i 1 (iz (a++[h])):=b.mono λj _=>iU c j;obtain⟨_,⟨o,rfl⟩,d⟩:=Zh.use (a.length+1) B;simp at d;simp[f100,f,g,cvu,show(a.length:Int)+1<256 by omega,show(0:Int)<=(a.length:Int)+1 by omega,d];refine jB aeu G (⟨a,h,i⟩,o) ⟨G,m,p.hr,e,ht,hl⟩ ?_;rintro t r n;simp;exact ZH.out n
structure ICo where
 (l:List Int) (v:T)
def Zc(a:ICo)(c:List T)(b:H):Prop:=c=[a.v]/\Gr b a.v 1 (iz a.l)/\iQ 0 b/\Mi a.l/\a.l.length<=1000
def Tf(c:ICo)(e:List T)(a:H)(d:T)(b:H):Prop:=d=c.v/\Nb a b
def Q5:(km ICo Zc Tf).Ok prog cx 101:=by
 refine kh (tb:=⟨pt [],ht []⟩) jv jl (jF 17596514574653 [] func101) (λ_ _=>1005) (λi F a A=>by obtain⟨rfl,_⟩:=A;simp[f101]) ?_;rintro⟨b,f⟩ _ a ⟨rfl,h,E,m,hl⟩ g c;simp only at h m hl;simp at c;have e:=λw:H=>h.len (cx:=cx) w pI _ rfl;rw[aI]at e;have n:Gr (TI.hr a) f 1 (iz b):=h.mono λq _=>iU a q;have o:Nb a (mX a (TI.hr a)):=(Nb.refl E.hr).out;simp[f101,c,e];refine fN (λp=>?_) (λp=>?_)
 ·simp[c];exact⟨rfl,o⟩
 have K:2<=b.length:=by simp at p;omega
 simp;refine vh b.length (λk g v=>TI.hr a=v/\1<=k/\Y g 0 f/\Y g 3 (C k)) ?_ B (k:=1) B (by simp[c]);rintro k g _ J ⟨rfl,I,j,l⟩;by_cases d:k<b.length
 ·have y:binop .add (C (k:Int)) (C 1)=some (C ((k:Int)+1)):=jp B B;have D:binop .sub (C (k:Int)) (C 1)=some (C ((k-1:Nat):Int)):=by rw[mh B B];congr 2;omega
  have⟨p1,r,s⟩:=(show qZ (TI.hr a) 1 f _ from .inr n).idx (te:=Ek) rfl rfl (i:=k) (x:= C b[k]) (by simp[d]) rfl;have⟨p2,t,u⟩:=(show qZ (TI.hr a) 1 f _ from .inr n).idx (te:=Ek) rfl rfl (i:=k-1) (x:= C b[k-1]) (by simp[show k-1<b.length by omega]) rfl;have z:¬b[k]=b[k-1]:=by
   have:=List.pairwise_iff_getElem.1 m (k-1) k B d B;omega
  simp[j,l,e,d,D,r,s,t,u,z,y];exact⟨k+1,B,B,B,G⟩
 ·simp[j,l,e,d];exact⟨rfl,o⟩
structure On where
 (P Q:List Int) (t:Int) (v:T) (b:Nat) (bx:jK)
def fnT(a:On):T:= .func 103 [.fc a.b 0 0 0]
def abO(c:H)(a:On):Prop:=c.get a.b=some (X 1 0 [C a.t])
def ST(a:On×Int)(d:List T)(c:H):Prop:=d=[C a.2,.fc a.1.b 0 0 0]/\abO c a.1/\iQ 0 c
def MU(a:On×Int)(e:List T)(b:H)(d:T)(c:H):Prop:=d= .ez (decide (a.2=a.1.t))/\Nb b c
def TZ:(km (On×Int) ST MU).Ok prog cx 103:=by
 refine kh (tb:=⟨pt [],ht []⟩) jv jl (jF 11 [] func103) (λ_ _=>10) (λo m a h=>by obtain⟨rfl,_⟩:=h;simp[f103]) ?_;rintro⟨⟨k,l,j,p,b,n⟩,r⟩ _ a ⟨rfl,f,i⟩ q c;simp at c;obtain⟨d,e⟩:=c;have g:(TI.hr a).get b=some (X 1 0 [C j]):=(iU a b).trans f;simp[f103,d,e,g];exact⟨rfl,(Nb.refl i.hr).out⟩
def Y8(a:On)(c:List T)(b:H):Prop:=c=[a.v,fnT a]/\abO b a/\iQ 0 b/\Gr b a.v 1 (iz (a.P++a.t::a.Q))/\a.t∉a.P/\a.P.length+a.Q.length<=1000
def Tb(c:On)(e:List T)(a:H)(d:T)(b:H):Prop:=d= C c.P.length/\Nb a b
def KR:(km On Y8 Tb).Ok prog cx 141:=by
 refine kh (tb:=⟨pt [],ht [(103,km (On×Int) ST MU)]⟩) jv jl (jF 66483 [] func141) (λ_ _=>2000) (λi S p L=>by obtain⟨rfl,_⟩:=L;simp[f141]) ?_;rintro⟨a,e,j,l,o,A⟩ _ p ⟨rfl,u,Q,m,ht,hl⟩ d t;simp only at m ht hl;simp[fnT]at t;obtain⟨g,c⟩:=t;have v:=λc:H=>m.len (cx:=cx) c pI _ rfl;simp at v;have z:∀b,fq l=some b->b<p.size:=λb q=>by have⟨_,_,_,_,P,_⟩:=m.box q;exact H.gh P
 simp[f141,g,v];refine vh a.length (λk d f=>Nb (TI.hr p) f/\Y d 0 l/\Y d 1 (.func 103 [.fc o 0 0 0])/\Y d 7 (C ((a.length:Int)+((e.length:Int)+1)))/\Y d 8 (C k)) ?_ B (k:=0) B ⟨Nb.refl Q.hr,by simp[g,c]⟩;rintro k d f U ⟨h,g,c,r,s⟩;have R:iQ 0 f:=⟨h.ok.hp,h.ok.low,ay _⟩;have y:=h.hr;have F:Gr f l 1 (iz (a++j::e)):=m.mono λb q=>y.get b (z b q);have I:binop .add (C (k:Int)) (C 1)=some (C ((k:Int)+1)):=jp B B;have⟨x,n⟩:∃x,(a++j::e)[k]? =some x:=⟨_,aB dR⟩;have⟨p1,D,E⟩:=(show qZ f 1 l _ from .inr F).idx (te:=Ek) rfl rfl (i:=k) (x:= C x) (by rw[aR,n];rfl) rfl;simp[g,c,r,s,show(k:Int)<(a.length:Int)+((e.length:Int)+1)by omega,D,E];refine jB TZ G (⟨a,e,j,l,o,A⟩,x) ⟨rfl,(y.get o (H.gh u)).trans u,R⟩ ?_;rintro _ T ⟨rfl,w⟩;simp;by_cases K:k<a.length
 ·have N:¬x=j:=by
   rw[cK K]at n;rintro rfl;exact ht (aC n)
  simp[g,c,r,s,N,I];exact⟨k+1,B,B,h.trans w,G⟩
 ·have J:k=a.length:=B;subst J;have O:x=j:=by simpa using n.symm
  simp[O];exact⟨rfl,(h.trans w).out⟩
def Z5(f:H)(g j:Ty)(h:af)(b d e a c:Nat)(k:jK)(i:g.u= .slice h)(ht:cx.ty h=some j)(m:f.get b=some k)(o:k.sz=j.size)(n:c<=a):Kq cx f g (.arr b d e a false) (some c) none none=some (.val (.arr b d (e+c) (a-c) false) f):=by
 unfold Kq;have l:jW cx f g.u (.arr b d e a false)=true:=by
  rw[i];unfold jW;simp only[ht,m,o,Nat.beq_refl]
 rw[l,jf,show BS none none=true from rfl,jf,show asSlice g.u (.arr b d e a false)= .arr b d e a false by rw[i];rfl];show val f (iS (Nat.ble c a) (iS (Nat.ble a a) (J (jd (Nat.add e c)) λq=>J (jd (Nat.sub a c)) λp=>some (T.arr b d q p false))))=_;simp[n]
def Ub{d:Nat}{b:Env}{c:H}(a:List ai)(e:ah af):ke (.call ⟨.builtin .clear,a.toArray,e⟩) cx d b c=J (iH (iG cx d b) a) λf=>mU .clear cx c e.toList f:=by
 show(J (s7 cx d b a) λa=>mU .clear cx c e.toList a)=_;rw[KG]
def abw{b:H}{c a g d:Nat}{f:Bool}{e:List T}(l:Hp b)(h:b.get c=some ⟨1,a,g,f,false,e⟩)(k:d<e.length):mU .clear cx b [38] [.arr c a d 1 false]=some (.val .undef (fJ b c ⟨1,a,g+1,f,false,e.set d (C 0)⟩)):=by
 show GM cx b 38 (.arr c a d 1 false)=_;unfold GM ql;rw[kO,fw];simp only[show pI.u= .slice 3 from rfl,nP,fw];rw[h,fw];simp only[KB l (H.gh h)];show iS (Nat.beq a a) (iS (Nat.beq 1 1) (J (mG e d [C 0]) λi=>J (jd g.succ) λm=>J (some (fJ b c ⟨1,a,m,f,false,i⟩)) λj=>some (nh.val T.undef j)))=_;rw[wy,au dR,Nat.beq_refl,jf,show Nat.beq 1 1=true from rfl,jf,fw,jt,fw,fw,List.set_eq_take_append_cons_drop,au k];simp
def Zb(a:On)(d:List T)(c:H):Prop:=d=[a.v,fnT a]/\abO c a/\iQ 0 c/\Gr c a.v 1 (iz (a.P++a.t::a.Q))/\a.t∉a.P/\a.t∉a.Q/\a.P.length+a.Q.length<=1000/\fq a.v≠some a.b
def Te(b:On)(f:List T)(c:H)(e:T)(d:H):Prop:=Gr d e 1 (iz (b.P++b.Q))/\fq e=fq b.v/\iQ c.size d/\∀a,a<c.size->fq b.v≠some a->d.get a=c.get a
def UH{P b:List Int}{t:Int}{a:Nat}(d:a<b.length):(iz (P++b.take a++(t::b).drop a)).set (P.length+a) (C b[a])=iz (P++b.take (a+1)++(t::b).drop (a+1)):=by
 rw[<-aW,List.set_append_right _ _ dR];have c:(t::b).drop a=(t::b)[a]' dR::(t::b).drop (a+1):=aJ dR;rw[c,show P.length+a-(P++b.take a).length=0 by simp;omega,cz,aP d];show iz _=iz _;congr 1;simp only[bj,cJ,cQ]
def IZ:(km On Zb Te).Ok prog cx 102:=by
 refine kh (tb:=⟨pt [],ht [(103,km (On×Int) ST MU),(141,km On Y8 Tb)]⟩) jv jl (jF 537399539 [] func102) (λ_ _=>2000) (λi a h bX=>by obtain⟨rfl,_⟩:=bX;simp[f102]) ?_;rintro⟨P,c,t,J,A,aE⟩ _ h ⟨rfl,ab,cp,E,bi,bn,hl,av⟩ z a7;simp only at E bi bn hl av;simp[fnT]at a7;obtain⟨s,p⟩:=a7;have O:=λp:H=>E.len (cx:=cx) p pI _ rfl;simp at O;have bu:∀b,fq J=some b->b<h.size:=λb g=>by have⟨_,_,_,_,cb,_⟩:=E.box g;exact H.gh cb
 simp[f102,s,p];refine jB KR G ⟨P,c,t,J,A,aE⟩ ⟨rfl,(iU h A).trans ab,cp.hr,E.mono λb _=>iU h b,bi,hl⟩ ?_;rintro _ dd ⟨rfl,cd⟩;have bC:binop .add (C (P.length:Int)) (C 1)=some (C ((P.length:Int)+1)):=jp B B;simp[show¬((P.length:Int)=-1)by omega,bC];have aA:=cd.hr;refine vh c.length (λd z h'=>iQ h.size h'/\Gr h' J 1 (iz (P++c.take d++(t::c).drop d))/\(∀b,b<h.size->fq J≠some b->h'.get b=h.get b)/\Y z 0 J/\Y z 1 (.func 103 [.fc A 0 0 0])/\Y z 5 (C ((P.length+d:Nat):Int))/\Y z 6 (C ((P.length+d+1:Nat):Int))) ?_ B (k:=0) B ⟨aA.ok,by simpa using E.mono λb g=>aA.get b (bu b g),λb g _=>aA.get b g,by simp[s,p]⟩;rintro d z h' de ⟨w,F,U,s,p,V,K⟩;have bp:iQ 0 h':=⟨w.hp,w.low,ay _⟩;have⟨i,a8⟩:∃i,i=P.length+d:=⟨_,rfl⟩;have⟨j,u⟩:∃j,j=P.length+(c.length+1):=⟨_,rfl⟩;have bT:(P.length:Int)+((c.length:Int)+1)=j:=B;rw[<-a8]at V K;rw[bT]at O;have W:(iz (P++c.take d++(t::c).drop d)).length=j:=dR;have bH:binop .add (C (i:Int)) (C 1)=some (C ((i:Int)+1)):=jp B B;have bN:binop .add (C ((i:Int)+1)) (C 1)=some (C ((i:Int)+1+1)):=jp B B;by_cases ap:d<c.length
 ·have D:(P++c.take d++(t::c).drop d)[i+1]? =some c[d]:=by
   rw[du dR,bU];rw[show d+(i+1-(P++c.take d).length)=d+1 by simp;omega];simp[ap]
  have⟨f,bA⟩:∃f,(P++c.take d++(t::c).drop d)[i]? =some f:=⟨_,aB dR⟩;have⟨e,m,y,q,o,n,l,N,L⟩:=F.at (x:= C c[d]) (i:=i+1) (by rw[aR,D];rfl);have⟨cX,c4,di,c7,dm,ae,al,b9,bg⟩:=F.at (x:= C f) (i:=i) (by rw[aR,bA];rfl);rw[n]at ae;simp at ae;obtain⟨rfl,rfl⟩:=ae;rw[l]at al;simp at al;obtain⟨rfl,rfl,rfl⟩:=al;rw[W]at n L bg;have aN:=UH (P:=P) (t:=t) ap;rw[<-a8]at aN;generalize b7:c[d]=R at*
  have b8:¬R=t:=λk=>bn (by rw[<-k,<-b7];exact aG ap);subst n;simp at av;have cL:lJ ((i:Int)+1)=some (i+1):=by have:=fU (show(0:Int)<=((i+1:Nat):Int)by omega);simpa using this
  simp[s,p,K,O,show(i:Int)+1<j by omega,cL,l,N,L];refine jB TZ G (⟨P,c,t,.arr e m 0 j false,A,aE⟩,R) ⟨rfl,(U A (H.gh ab) (by simpa using av)).trans ab,bp⟩ ?_;rintro _ I ⟨rfl,v⟩;have an:=(v.get e (H.gh l)).trans l;have r:∀f b,(fJ I e f).get b=if b=e then some f else I.get b:=λf b=>eG an f b;simp[s,p,V,K,b8,an,b9,bg,bH,bN];have Q:iQ h.size I:=⟨v.ok.hp,v.ok.low,aU w.sz v.ok.sz⟩;have a6:=(F.mono (h':=I) λb g=>v.get b (by simp at g;have:=H.gh l;omega)).setAt rfl an i (C R) (h':=fJ I e ⟨1,m,y+1,q,false,o.set i (C R)⟩) (ver2:=y+1) (ex2:=q) (by rw[r,au rfl]);rw[aN,bj]at a6;have ds:=w.sz;exact⟨d+1,B,B,Q.put _ _,a6,λb g u=>by rw[r,Z (λS=>u S.symm),v.get b B];exact U b g (by simpa using u),B⟩
 ·have bS:d=c.length:=B;subst bS;have⟨e,m,y,q,o,n,l,N,L⟩:=F.at (x:= C ((P++c.take c.length++(t::c).drop c.length)[i]' dR)) (i:=i) (by rw[aR,aB dR];rfl);rw[W]at n L;have ca:i<o.length:=by
   rcases aT i o.length with k|k
   ·exact k
   ·rw[bV k]at N;simp at N
  have bB:o.take j=iz (P++c.take c.length++(t::c).drop c.length):=by
   rcases F with⟨rfl,_⟩|⟨c1,c6,dk,c9,dn,D,T,aX⟩
   ·simp at n
   ·rw[n]at D;simp at D;obtain⟨rfl,rfl,_⟩:=D;rw[l]at T;simp at T;obtain⟨_,_,rfl⟩:=T;rw[W]at aX;exact aX
  subst n;have r:∀f b,(fJ h' e f).get b=if b=e then some f else h'.get b:=λf b=>eG l f b;have bW:j-i=1:=B;have bs:=Z5 h' pI Ek _ e m 0 j i _ rfl nP l rfl B;rw[bW,cU]at bs;have cF:=OH (cx:=cx) (h:=fJ h' e ⟨1,m,y+1,q,false,o.set i (C 0)⟩) pI Ek _ e m 0 j i false _ rfl nP (by rw[r,au rfl]) rfl B;simp[s,V,K,O,show¬(i:Int)+1<j by omega,bs,Ub,abw bp.hp l ca,cF];have Q:=(w.put e ⟨1,m,y+1,q,false,o.set i (C 0)⟩).out h;refine⟨.inr ⟨e,m,y+1,q,o.set i (C 0),?_,by rw[iB,r,au rfl],?_⟩,rfl,⟨Q.hp,Q.low,by simpa using w.sz⟩,λb g u=>by
   rw[iB,r,Z (λS=>u (by rw[S];rfl))];exact U b g u⟩
  ·simp;omega
  ·have b6:(iz (P++c)).length=i:=dR;rw[b6,List.take_set_of_le (ax _)];have:=bL (List.take i) bB;rw[List.take_take,cE B]at this;rw[this,aL];show List.take i (iz (P++c++(t::c).drop c.length))=iz (P++c);rw[iz,List.map_append,dt dR,bQ dR]
section
def Vu{g i:Type}{f:g->i->Prop}:∀{b:List g} {a:List i},b.length=a.length->(∀(d:Nat) e c,b[d]? =some e->a[d]? =some c->f e c)->jw f b a:=by
 intro b;induction b with
 |nil=>intro a hl _;cases a with
  |nil=>exact .nil
  |cons c a=>simp at hl
 |cons e b l=>intro a hl h;cases a with
  |nil=>simp at hl
  |cons c a=>exact .cons (h 0 e c rfl rfl) (l (by simpa using hl) λd m n j k=>h (d+1) m n (by simpa using j) (by simpa using k))
def JX{b c:Type}{d:b->c->Prop}{f:List b}{g:List c}(k:jw d f g){e:Nat}{i:b}{j:c}(l:f[e]? =some i)(m:g[e]? =some j):d i j:=by
 have⟨o,a,n⟩:=k.get m;rw[l]at a;simp only[aw]at a;rw[a];exact n
structure G5(w:fy)(t:Int)(c0 c2 c3:T)(h:H)(es:List T)(S:gY)(ver:Nat):Prop where
 sy:Eh 4 h.size h c0 c2 c3 es S
 ok:iQ 0 h
 g0:h.get 0=some (X 6 0 [w.t])
 g1:h.get 1=some (X 4 ver [.eZ [c0,C S.tx,c2,c3]])
 g2:h.get 2=some (X 1 0 [C t])
 g3:h.get 3=some (X 4 0 [.eZ [dV,C 0,dV,dV]])
section
variable {w:fy}{t:Int}{c0 c2 c3:T}{h h':H}{es:List T}{S:gY}{ver:Nat}
theorem G5.put(a:G5 w t c0 c2 c3 h es S ver){b:Nat}{x:jK}(d:h.get b=some x)(j:4<=b){g:jK}{f:List T}{e:gY}(i:Eh 4 h.size (fJ h b g) c0 c2 c3 f e)(ht:e.tx=S.tx):G5 w t c0 c2 c3 (fJ h b g) f e ver:=
 ⟨by rw[iy];exact i,a.ok.put _ _,by rw[eG d,Z B];exact a.g0,by rw[eG d,Z B,ht];exact a.g1,by rw[eG d,Z B];exact a.g2,by rw[eG d,Z B];exact a.g3⟩
def G5.pf(c:G5 w t c0 c2 c3 h es S ver){a e k:Nat}{f:Bool}{l:List T}(g:fq c3=some a)(j:h.get a=some ⟨3,e,k,f,false,l⟩){i:Nat}{me:ei}(m:S.ee[i]? =some me)(d:ei->ei):
 G5 w t c0 c2 c3 (fJ h a ⟨3,e,k+1,f,false,l.set i (d me).t⟩) es {S with ee:=S.ee.modify i d} ver:=by
 have:=c.put j (c.sy.b a (.inr (.inr g))).1 (c.sy.pf g j i (d me)) rfl;rw[qh m];exact this
def G5.pO(g:G5 w t c0 c2 c3 h es S ver){d i m:Nat}{j:Bool}{n:List T}(k:fq c0=some d)(l:h.get d=some ⟨2,i,m,j,false,n⟩){c:Nat}{f:fa}(hl:S.fI[c]? =some f)(e:fa->fa){rv:T}(hr:qZ h 1 rv (iz (e f).fO))(o:∀a,fq rv=some a->4<=a/\a<h.size/\fq c0≠some a/\fq c2≠some a/\fq c3≠some a):
 G5 w t c0 c2 c3 (fJ h d ⟨2,i,m+1,j,false,n.set c (.eZ [C (e f).jg,rv])⟩) (es.set c (.eZ [C (e f).jg,rv])) {S with fI:=S.fI.modify c e} ver:=by
 have:=g.put l (g.sy.b d (.inl k)).1 (g.sy.pO k l c hr o) rfl;rw[qh hl];exact this
def G5.don(c:G5 w t c0 c2 c3 h es S ver){a f k:Nat}{g:Bool}{l:List T}(i:fq c2=some a)(j:h.get a=some ⟨1,f,k,g,false,l⟩)(d:Nat)(e:Bool):G5 w t c0 c2 c3 (fJ h a ⟨1,f,k+1,g,false,l.set d (.ez e)⟩) es {S with done:=S.done.set d e} ver:=
 c.put j (c.sy.b a (.inr (.inl i))).1 (c.sy.don i j d e) rfl
def G5.tx(a:G5 w t c0 c2 c3 h es S ver)(b:Int):G5 w t c0 c2 c3 (fJ h 1 (X 4 (ver+1) [.eZ [c0,C b,c2,c3]])) es {S with tx:=b} (ver+1):=
 ⟨by rw[iy];exact(a.sy.tx b).mono (ax _) λc d _=>by rw[eG a.g1,Z B],a.ok.put _ _,by rw[eG a.g1,Z B];exact a.g0,by rw[eG a.g1,au rfl],by rw[eG a.g1,Z B];exact a.g2,by rw[eG a.g1,Z B];exact a.g3⟩
def G5.ad1(c:G5 w t c0 c2 c3 h es S ver){l:List ei}(j:abW h h' c3 l):G5 w t c0 c2 c3 h' es {S with ee:=l} ver:=by
 have k:∀a,a<4->fq c3≠some a:=λa d f=>by have:=(c.sy.b a (.inr (.inr f))).1;omega
 have r:=j.ok.sz;have e:∀a,fq c3≠some a->a<h.size->h'.get a=h.get a:=λa f d=>j.fr a d f;refine⟨⟨c.sy.g0.mono λa d=>e a (λf=>?_) (c.sy.b a (.inl d)).2,c.sy.g2.mono λa d=>e a (λf=>?_) (c.sy.b a (.inr (.inl d))).2,j.g,c.sy.el.imp λp q ⟨o,m,n,i⟩=>⟨o,m,n.mono λa d=>e a (i a d).2.2.2.2 (i a d).2.1,λa d=>⟨(i a d).1,by have:=(i a d).2.1;omega,(i a d).2.2⟩⟩,λa d=>⟨(c.sy.b a d).1,by have:=(c.sy.b a d).2;omega⟩⟩,⟨j.ok.hp,j.ok.low,ay _⟩,(e 0 (k 0 B) (H.gh c.g0)).trans c.g0,(e 1 (k 1 B) (H.gh c.g1)).trans c.g1,(e 2 (k 2 B) (H.gh c.g2)).trans c.g2,(e 3 (k 3 B) (H.gh c.g3)).trans c.g3⟩
 ·exact c.sy.g0.ne c.sy.g3 dT a d f
 ·exact c.sy.g2.ne c.sy.g3 dT a d f
def G5.aeW(d:G5 w t c0 c2 c3 h es S ver)(ap:LkD es){f J Q:Nat}{K:Bool}{R:List T}(q:fq c0=some f)(M:h.get f=some ⟨2,J,Q,K,false,R⟩){l:Nat}{A:fa}(hl:S.fI[l]? =some A){o m:T}(al:es[l]? =some (.eZ [o,m]))(i:∀a,fq m=some a->4<=a/\fq c0≠some a/\fq c2≠some a/\fq c3≠some a)
 {hT:H} (Wv:iQ h.size hT) (E:∀a,a<h.size->fq m≠some a->hT.get a=h.get a) {u:T} (v:fa->fa) (L:Gr hT u 1 (iz (v A).fO)) (s:∀a,fq u=some a->fq m=some a\/h.size<=a):
 G5 w t c0 c2 c3 (fJ hT f ⟨2,J,Q+1,K,false,R.set l (.eZ [C (v A).jg,u])⟩) (es.set l (.eZ [C (v A).jg,u])) {S with fI:=S.fI.modify l v} ver:=by
 have z:=Wv.sz;have ae:=H.gh M;have av:=(d.sy.b f (.inl q)).1;have O:fq m≠some f:=λc=>(i f c).2.1 q;have N:hT.get f=_:=(E f ae O).trans M;have F:∀n a,(fJ hT f n).get a=if a=f then some n else hT.get a:=λn a=>eG N n a;have D:∀a,a<4->fq m≠some a:=λa q c=>by have:=(i a c).1;omega
 have p:∀n a,a<h.size->a≠f->fq m≠some a->(fJ hT f n).get a=h.get a:=λn a V W ab=>by rw[F,Z W];exact E a V ab
 refine⟨⟨?_,d.sy.g2.mono λa c=>p _ a (d.sy.b a (.inr (.inl c))).2 (λe=>?_) (λe=>(i a e).2.2.1 c),d.sy.g3.mono λa c=>p _ a (d.sy.b a (.inr (.inr c))).2 (λe=>?_) (λe=>(i a e).2.2.2 c),Vu ?_ λk x n g j=>?_,λa c=>⟨(d.sy.b a c).1,by have:=(d.sy.b a c).2;simp;omega⟩⟩,(⟨Wv.hp,Wv.low,ay _⟩:iQ 0 hT).put _ _,?_,?_,?_,?_⟩
 ·exact(d.sy.g0.mono (h':=hT) λa c=>E a (d.sy.b a (.inl c)).2 (λe=>(i a e).2.1 c)).setAt q N l _ (by rw[F,au rfl])
 ·subst e;exact d.sy.g2.ne d.sy.g0 dT a c q
 ·subst e;exact d.sy.g3.ne d.sy.g0 dT a c q
 ·rw[dg,List.length_modify];exact d.sy.el.length
 ·rw[cw]at g;rw[cZ]at j;by_cases y:l=k
  ·subst y;rw[hl]at j;simp at j;rw[au rfl]at g;split at g
   ·simp only[aw]at g;subst g j;refine⟨u,rfl,.inr (L.mono λa c=>?_),λa c=>?_⟩
    ·rw[F,Z];rintro rfl;rcases s a c with k|k
     ·exact O k
     ·omega
    ·have⟨_,_,_,_,j,_⟩:=L.box c;have an:=H.gh j;refine⟨?_,by simpa using an,?_,?_,?_⟩
     ·rcases s a c with k|k
      ·exact(i a k).1
      ·omega
     ·rcases s a c with k|k
      ·exact(i a k).2.1
      ·exact λe=>by have:=(d.sy.b a (.inl e)).2;omega
     ·rcases s a c with k|k
      ·exact(i a k).2.2.1
      ·exact λe=>by have:=(d.sy.b a (.inr (.inl e))).2;omega
     ·rcases s a c with k|k
      ·exact(i a k).2.2.2
      ·exact λe=>by have:=(d.sy.b a (.inr (.inr e))).2;omega
   ·simp at g
  ·rw[Z y]at g;simp[y]at j;have⟨P,I,U,r⟩:=JX d.sy.el g j;refine⟨P,I,U.mono λa c=>p _ a (r a c).2.1 (λe=>(r a c).2.2.1 (by rw[e];exact q)) (λe=>y ?_),λa c=>⟨(r a c).1,by have:=(r a c).2.1;simp;omega,(r a c).2.2⟩⟩;rw[I]at g;exact ap l k m P _ _ a al g e c
 ·exact(p _ 0 (H.gh d.g0) B (D 0 B)).trans d.g0
 ·exact(p _ 1 (H.gh d.g1) B (D 1 B)).trans d.g1
 ·exact(p _ 2 (H.gh d.g2) B (D 2 B)).trans d.g2
 ·exact(p _ 3 (H.gh d.g3) B (D 3 B)).trans d.g3
end
end
structure ApO(w:fy)(s:gY)(t k o wk:Int)(c0 c2 c3:T)(h:H)(n:Int):Prop where
 ex:∃S es ver,fZ w s t k o wk=(S,n)/\G5 w t c0 c2 c3 h es S ver
structure ApF(w:fy)(s:gY)(t k o:Int):Prop where
 en:iV w s t k o=true
 cl:w.iL.length<=1000000
 sm:Qt s
 r:∀l∈s.fI,l.fO.length<=10
def vD:iK:=⟨fy×gY×Int×Int×Int×Int,λa=>[a.1.t,a.2.1.t,C a.2.2.1,C a.2.2.2.1,C a.2.2.2.2.1,C a.2.2.2.2.2],λa=>ApF a.1 a.2.1 a.2.2.1 a.2.2.2.1 a.2.2.2.2.1,λa=> .tuple [(fZ a.1 a.2.1 a.2.2.1 a.2.2.2.1 a.2.2.2.2.1 a.2.2.2.2.2).1.t,C (fZ a.1 a.2.1 a.2.2.1 a.2.2.2.1 a.2.2.2.2.1 a.2.2.2.2.2).2,.ez true],λa c b=>by
 obtain⟨a1,a2,a3,a4,a5,d⟩:=a;obtain⟨e,f,g,h,i,j⟩:=c;simp at b;rw[fy.inj b.1,gY.inj b.2.1,b.2.2.1,b.2.2.2.1,b.2.2.2.2.1,b.2.2.2.2.2]⟩
def K3:vD.Ok prog cx 59:=by
 refine Ah (tb:=⟨pt [(98,pk)],ht [(99,km gY HP Ze),(100,km VI Y2 IU),(101,km ICo Zc Tf),(102,km On Zb Te),(104,km Mf Y5 S8),(105,km Mf Y6 S9)]⟩) jv jl (jF 772424076352653274097095092108232752774234854811365887 [(19,[(1,4)]),(21,[(1,10)]),(32,[(4,9),(5,9)]),(35,[(4,8),(5,8)])] func59) (λ_=>1000005) (by simp[vD]) nl9 ?_;rintro⟨w,s,t,k,o,v⟩ ⟨O,eM,⟨hl,eO,ht,hr,dv⟩,dm⟩ cb eI;simp only at O eM hl eO ht hr dv dm;simp[vD]at eI|-;obtain⟨fY,cL,dn,eF,J,gi⟩:=eI;unfold iV at O;simp only[az]at O;obtain⟨⟨⟨eb,ec⟩,bH⟩,O⟩:=O;have⟨bN,bS,e0⟩:=kY eb;have fA:=λ{tb:io} (ht:tb.p 98=some pk)=>RC ht (w:=w) (s:=s) (t:=t) (k:=k) (o:=o) ⟨eb,ec,bH,O,eM,hr⟩
 ·simp[f59,fY,cL,dn,eF,J,fA];generalize aA:(((hE.cons _).cons _).cons _).cons _=bA;have gM:iQ 0 bA:=by rw[<-aA];exact⟨G,G,G⟩
  have gV:bA.size=4:=by rw[<-aA];rfl
  have e9:bA.get 0=some (X 6 0 [w.t]):=by rw[<-aA];simp
  have fb:bA.get 1=some (X 4 0 [s.t]):=by rw[<-aA];simp
  have fe:bA.get 2=some (X 1 0 [C t]):=by rw[<-aA];simp
  have N:bA.get 3=some (X 4 0 [.eZ [dV,C 0,dV,dV]]):=by rw[<-aA];simp
  clear aA;refine jB T7 G s ⟨rfl,gM,hl,eO,ht,hr⟩ ?_;rintro _ av ⟨bn,bp,bs,eD,rfl,e7,a6,eu,eV⟩;rw[gV]at e7 eu;have hv:=a6.ok.sz;have gF:iQ 0 av:=⟨a6.ok.hp,a6.ok.low,ay _⟩;have eB:=(a6.get 1 B).trans fb;have fi:=(a6.get 0 B).trans e9;have fl:=(a6.get 2 B).trans fe;have fo:=(a6.get 3 B).trans N;have bu:∀y d,(fJ av 1 y).get d=if d=1 then some y else av.get d:=λy d=>eG eB y d;have c:G5 w t bn bp bs (fJ av 1 (X 4 1 [.eZ [bn,C s.tx,bp,bs]])) eD s 1:=⟨by rw[iy];exact e7.mono (ax _) λd q _=>by rw[bu,Z B],gF.put _ _,by rw[bu,Z B];exact fi,by rw[bu,au rfl],by rw[bu,Z B];exact fl,by rw[bu,Z B];exact fo⟩;have ey:jw (LkG (fJ av 1 (X 4 1 [.eZ [bn,C s.tx,bp,bs]])) λd=>4<=d/\d<av.size/\fq bn≠some d/\fq bp≠some d/\fq bs≠some d) eD s.fI:=eu.imp λU m ⟨rv,al,fs,eC⟩=>⟨rv,al,fs.mono λd q=>by rw[bu,Z (by have:=(eC d q).1;omega)],eC⟩;simp[Ql,eB,eF];generalize fJ av 1 _=W at*
  have eP:=ec;rw[<-e0]at eP;have⟨me,L,hd⟩:=jn eP;have bW:=fU (fQ.1 ec).1;refine lV (λcb b8=>∃n,ApO w s t k o v bn bp bs b8 n/\Y cb 7 (.fc 1 0 0 0)/\Y cb 12 (.fc 3 0 0 0)/\Y cb 15 (C n)) (λaN=>?_) (λaN=>?_) ?_
  ·have aN:k=1:=by simpa using aN
   subst aN
   ·have⟨A,an,a8,ap,bi,D,e,l,j⟩:=c.sy.g3.at (x:=me.t) (i:=t.toNat) (by simp[L]);rw[aI]at D j;subst D;simp[c.g1,c.g2,bW,e,l,j];exact⟨_,_,_,show fZ w s t 1 o v=(s.pf t (kV 2),0)by simp[fZ],c.pf rfl e L (kV 2)⟩
  ·have aN:¬k=1:=by simpa using aN
   rcases qr bH with g|rfl|rfl|rfl|rfl|rfl|rfl|rfl|rfl|g|g|g|g
   ·exact absurd g aN
   ·have⟨A,an,a8,ap,bi,D,e,l,j⟩:=c.sy.g3.at (x:=me.t) (i:=t.toNat) (by simp[L]);rw[aI]at D j;subst D;simp[c.g1,c.g2,bW,e,l,j];exact⟨_,_,_,show fZ w s t 2 o v=(s.pf t (kV 5),0)by simp[fZ],c.pf rfl e L (kV 5)⟩
   ·simp;exact⟨_,_,_,show fZ w s t 3 o v=(s,0)by simp[fZ],c⟩
   ·simp;exact⟨_,_,_,show fZ w s t 4 o v=(s,0)by simp[fZ],c⟩
   ·simp;exact⟨_,_,_,show fZ w s t 5 o v=(s,0)by simp[fZ],c⟩
   ·simp[c.g1,c.g2,fG];exact⟨_,_,_,show fZ w s t 12 o v=({s with tx:=t},0)by simp[fZ],c.tx t⟩
   ·simp[c.g1,fG];exact⟨_,_,_,show fZ w s t 13 o v=({s with tx:=-1},0)by simp[fZ],c.tx (-1)⟩
   ·have⟨A,an,a8,ap,bi,D,e,l,j⟩:=c.sy.g3.at (x:=me.t) (i:=t.toNat) (by simp[L]);rw[aI]at D j;subst D;simp[c.g1,c.g2,bW,e,l,j];exact⟨_,_,_,show fZ w s t 14 o v=(s.pf t (λx=>{x with atomic:=true}),0)by simp[fZ],c.pf rfl e L (λx=>{x with atomic:=true})⟩
   ·have⟨A,an,a8,ap,bi,D,e,l,j⟩:=c.sy.g3.at (x:=me.t) (i:=t.toNat) (by simp[L]);rw[aI]at D j;subst D;simp[c.g1,c.g2,bW,e,l,j];exact⟨_,_,_,show fZ w s t 15 o v=(s.pf t (λx=>{x with atomic:=false}),0)by simp[fZ],c.pf rfl e L (λx=>{x with atomic:=false})⟩
   ·have K:=kJ bH g;rw[<-bN]at K;have⟨E,F,ds⟩:=jn K;have I:=fU (fQ.1 K).1;obtain⟨U,aE,rv,rfl,bT,a7⟩:=c.sy.el.get F;obtain⟨A,an,a8,ap,bi,rfl,e,l,j⟩:=c.sy.g0.at aE;have b9:=H.gh e;have gZ:=(c.sy.b A (.inl rfl)).1;have eh:(1=W.size)=False:=by have:=H.gh c.g1;simp;omega
    have hj:(A=W.size)=False:=dR;have hf:=hr E (aC F);have hg:∀d,fq rv=some d->d<W.size:=λd q=>(a7 d q).2.1;rcases g with rfl|rfl|rfl|rfl|rfl|rfl
    ·simp[J,c.g1,c.g2,I,e,l,j];exact⟨_,_,_,show fZ w s t 6 o v=(s.pO o (λh=>{h with jg:=t}),0)by simp[fZ],c.pO rfl e F (λh=>{h with jg:=t}) bT a7⟩
    ·simp[J,c.g1,I,e,l,j];exact⟨_,_,_,show fZ w s t 7 o v=(s.pO o (λh=>{h with jg:=-1}),0)by simp[fZ],c.pO rfl e F (λh=>{h with jg:=-1}) bT a7⟩
    ·have b6:=dv E (aC F);have cX:=dm E (aC F);have gv:t∉E.fO:=by
      simp[vd,ds,kl]at O;exact O.2.2
     have⟨gP,al,gL,R⟩:=JX ey aE F;simp at al;subst al;have cp:Gr W rv 1 (iz E.fO):=gL;have⟨et,b7,fv,bg⟩:=cp.m9 (cx:=cx) (f:=T.int .i64) c.ok kO rfl nP rfl G (λx=>rfl) t dR;have hb:=c.ok.low;have hh:(2=W.size)=False:=by have:=H.gh c.g2;simp;omega
     simp[J,c.g1,c.g2,I,e,l,j,fv];refine jB aas G ⟨E.fO,t,et⟩ ⟨rfl,bg.1,⟨bg.2.2.2.hp,bg.2.2.2.low,ay _⟩,b6,gv,cX⟩ ?_;rintro _ eH aX;have gS:=bg.2.2.2.sz;have hy:=aX.ok.sz;have dk:∀d,d<W.size->fq rv≠some d->eH.get d=W.get d:=λd bN bS=>(aX.fr d B (λq=>(bg.2.2.1 d q).elim bS B)).trans (bg.2.1 d bN bS);have gz:∀d,d<4->fq rv≠some d:=λd q k=>by have:=(R d k).1;omega
     have c9:=(dk 1 (H.gh c.g1) (gz 1 B)).trans c.g1;have e4:=(dk A b9 (λk=>(R A k).2.2.1 rfl)).trans e;have gI:iQ 0 eH:=⟨aX.ok.hp,aX.ok.low,ay _⟩;have ha:=F2 E.fO t;simp[J,c9];refine mf Q5 G ⟨m6 E.fO t,et⟩ ⟨rfl,aX.g,gI,F3 b6 t,dS⟩ ?_;rintro r hT ⟨U,ab⟩;simp only at U;rw[U];have er:=il (ab.get 1 (H.gh c9));have t1:=(ab.get 1 (H.gh c9)).trans c9;have tb:=(ab.get A (H.gh e4)).trans e4;have gT:Gr hT et 1 (iz (m6 E.fO t)):=aX.g.mono λd q=>by
      have⟨_,_,_,_,gy,_⟩:=aX.g.box q;exact ab.get d (H.gh gy)
     have hA:=ab.ok.sz;simp[I,tb,l,j,er,fG,gT.jc,gT.cells];exact⟨_,_,_,show fZ w s t 8 o v=(s.pO o (λh=>{h with fO:=m6 h.fO t}),0)by simp[fZ],c.aeW eV rfl e F aE (λd q=>⟨(R d q).1,(R d q).2.2⟩) (hT:=hT) ⟨ab.ok.hp,ab.ok.low,B⟩ (λd bN bS=>(ab.get d B).trans (dk d bN bS)) (λh=>{h with fO:=m6 h.fO t}) gT bg.2.2.1⟩
    ·have⟨gP,al,gL,R⟩:=JX ey aE F;simp at al;subst al;have cp:Gr W rv 1 (iz E.fO):=gL;have b6:=dv E (aC F);have cX:=dm E (aC F);have gn:t∈E.fO:=by
      simp[vd,ds,kl]at O;exact O.2
     have⟨P,Q,c1⟩:=List.append_of_mem gn;have c4:t∉P/\t∉Q:=by
      rw[c1]at b6;have cL:=List.pairwise_append.1 b6;have dn:=List.pairwise_cons.1 cL.2.1;exact⟨λk=>by have:=cL.2.2 t k t G;omega,λk=>by have:=dn.1 t k;omega⟩
     simp[J,c.g1,I,e,l,j];have gD:fq rv≠some 2:=λk=>by have:=(R 2 k).1;omega
     refine mf IZ G ⟨P,Q,t,rv,2,⟨0,0,0,false,false,[]⟩⟩ ⟨rfl,c.g2,c.ok,by rw[c1]at cp;exact cp,c4.1,c4.2,by rw[c1]at cX;simp at cX|-;omega,gD⟩ ?_;rintro r b7 ⟨cF,eL,eX,cd⟩;simp only at cF eL cd;have eE:=cd 1 (H.gh c.g1) (λk=>by have:=(R 1 k).1;omega);have fW:=cd A b9 (λk=>(R A k).2.2.1 rfl);have er:=il eE;have gX:=eE.trans c.g1;have ff:=fW.trans e;have gm:E.fO.filter (λr=> !decide (r=t))=P++Q:=by
      rw[c1,List.filter_append,List.filter_cons];simp;rw[List.filter_eq_self.2 λx l=>?_,List.filter_eq_self.2 λx l=>?_]
      ·simp;exact λU=>c4.2 (by rw[<-U];exact l)
      ·simp;exact λU=>c4.1 (by rw[<-U];exact l)
     have gS:=eX.sz;simp[I,ff,l,j,er,fG,cF.jc,cF.cells];exact⟨_,_,_,show fZ w s t 9 o v=(s.pO o (λh=>{h with fO:=h.fO.filter λr=> !decide (r=t)}),0)by simp[fZ],c.aeW eV rfl e F aE (λd q=>⟨(R d q).1,(R d q).2.2⟩) (hT:=b7) eX cd (λh=>{h with fO:=h.fO.filter λr=> !decide (r=t)}) (by show Gr b7 r 1 (iz (E.fO.filter _));rw[gm];exact cF) (λd q=> .inl (by rw[<-eL];exact q))⟩
    ·simp[J,c.g1,c.g2,I,e,l,j];exact⟨_,_,_,show fZ w s t 10 o v=(s.pO o (λh=>{h with jg:=t}),0)by simp[fZ],c.pO rfl e F (λh=>{h with jg:=t}) bT a7⟩
    ·simp[J,c.g1,I,e,l,j];exact⟨_,_,_,show fZ w s t 11 o v=(s.pO o (λh=>{h with jg:=-1}),0)by simp[fZ],c.pO rfl e F (λh=>{h with jg:=-1}) bT a7⟩
   ·have K:=mZ bH g;have⟨d,ea,eN⟩:=jn K;have ef:=r7 eb ea;rw[<-bN]at ef;have⟨E,F,ds⟩:=jn ef;have I:=fU (fQ.1 K).1;have e8:=fU (fQ.1 ef).1;obtain⟨U,aE,rv,rfl,bT,a7⟩:=c.sy.el.get F;obtain⟨A,an,a8,ap,bi,rfl,e,l,j⟩:=c.sy.g0.at aE;have⟨N,fB,gQ,fE,dd,D,bB,c7,ed⟩:=c.sy.g3.at (x:=me.t) (i:=t.toNat) (by simp[L]);rw[aI]at D ed;subst D;have b9:=H.gh e;have eK:=H.gh bB;have eh:(1=A)=False:=by have:=(c.sy.b A (.inl rfl)).1;simp;omega
    have gB:(1=N)=False:=by have:=(c.sy.b N (.inr (.inr rfl))).1;simp;omega
    have eW:(2=A)=False:=by have:=(c.sy.b A (.inl rfl)).1;simp;omega
    have gE:(2=N)=False:=by have:=(c.sy.b N (.inr (.inr rfl))).1;simp;omega
    have eo:(N=A)=False:=by simp;rintro rfl;rw[e]at bB;simp at bB
    have eU:∀x,(dd.set t.toNat x)[t.toNat]? =some x:=λx=>by
     have:t.toNat<dd.length:=by
      rcases aT t.toNat dd.length with k|k
      ·exact k
      ·rw[bV k]at c7;simp at c7
     rw[cw];simp[this]
    have bC:∀y,(fJ W A y).get N=some ⟨3,fB,gQ,fE,false,dd⟩:=λy=>by rw[eG e,Z (by simpa using eo)];exact bB
    have e5:=λy z=>oU (bC y) (show 1≠N by simpa using gB) z;have e6:=λy z=>oU (bC y) (show 2≠N by simpa using gE) z;have eA:=λ(f:fa->fa) (q:(f E).fO=E.fO)=>c.pO rfl e F f (rv:=rv) (by rw[q];exact bT) a7;rcases g with rfl|rfl|rfl|rfl
    ·have di:=(eA (λh=>{h with jg:=-1}) rfl).pf rfl (bC _) L (λx=>{x with je:=3});have bX:=di.pf (me:=(λx=>{x with je:=3}) me) rfl ((eG (bC _) _ _).trans (au rfl)) (i:=t.toNat) (by simp[L]) (λx=>{x with cond:=o});simp only[Es,List.set_set]at bX;simp[J,c.g0,c.g1,c.g2,I,e8,bW,ea,e,bB,l,c7,j,ed,ou,c.ok.hp,b9,eK,eh,eo,eW,eU,e5,e6];exact⟨_,_,_,show fZ w s t 16 o v=((s.pO d.kU λh=>{h with jg:=-1}).pf t (λx=>{x with je:=3,cond:=o}),0)by simp[fZ,eN],bX⟩
    ·have di:=(eA (λh=>{h with jg:=t}) rfl).pf rfl (bC _) L (λx=>{x with je:=2});have bX:=di.pf (me:=(λx=>{x with je:=2}) me) rfl ((eG (bC _) _ _).trans (au rfl)) (i:=t.toNat) (by simp[L]) (λx=>{x with cond:=0});simp only[Es,List.set_set]at bX;simp[J,c.g0,c.g1,c.g2,I,e8,bW,ea,e,bB,l,c7,j,ed,ou,c.ok.hp,b9,eK,eh,eo,eW,eU,e5,e6];exact⟨_,_,_,show fZ w s t 17 o v=((s.pO d.kU λh=>{h with jg:=t}).pf t (λx=>{x with je:=2,cond:=0}),0)by simp[fZ,eN],bX⟩
    ·simp[J,gi,c.g1];refine jB TG G ⟨s,_,_,_,o,v⟩ ⟨rfl,c.sy.g3,c.ok,ht⟩ ?_;rintro _ b7 ⟨n,rfl,eR,ca⟩;simp only at eR ca;simp;exact⟨_,_,_,show fZ w s t 18 o v=({s with ee:=if ji o s.ee 0=[]then s.ee else s.ee.modify n.toNat (kV 4)},n)by
      have eS:xW o v s.ee=n:=by rw[eR];rfl
      unfold fZ;simp;by_cases q:ji o s.ee 0=[]
      ·rw[au q,au q,<-eS];unfold xW;rw[q];rfl
      ·rw[Z q,Z q,eS];rfl,c.ad1 ca⟩
    ·simp[J,c.g1];refine jB KO G ⟨s,_,_,_,o,0⟩ ⟨rfl,c.sy.g3,c.ok,ht⟩ ?_;rintro _ b7 ⟨rfl,ca⟩;simp only at ca;simp;exact⟨_,_,_,show fZ w s t 19 o v=({s with ee:=s.ee.map (FK o)},((ji o s.ee 0).length:Int))by
      unfold fZ;simp;intro a _;rfl,c.ad1 ca⟩
   ·have K:=rR bH g;rw[<-e0]at K;have⟨u,c6,gw⟩:=jn K;have I:=fU (fQ.1 K).1;rcases g with rfl|rfl
    ·have⟨A,an,a8,ap,bi,D,e,l,j⟩:=c.sy.g3.at (x:=u.t) (i:=o.toNat) (by simp[c6]);rw[aI]at D j;subst D;simp[J,c.g1,I,e,l,j];exact⟨_,_,_,show fZ w s t 20 o v=(s.pf o (kV 1),0)by simp[fZ],c.pf rfl e c6 (kV 1)⟩
    ·simp;exact⟨_,_,_,show fZ w s t 21 o v=(s,0)by simp[fZ],c⟩
   ·have K:=uv bH g;rw[<-bS]at K;have⟨u,c6,gw⟩:=jn K;have I:=fU (fQ.1 K).1;rcases g with rfl|rfl
    ·have⟨A,an,a8,ap,bi,D,e,l,j⟩:=c.sy.g2.at (x:= .ez u) (i:=o.toNat) (by simp[c6]);rw[aI]at D j;subst D;simp[J,c.g1,I,e,l,j];exact⟨_,_,_,show fZ w s t 22 o v=({s with done:=s.done.set o.toNat true},0)by simp[fZ],c.don rfl e o.toNat true⟩
    ·simp;exact⟨_,_,_,show fZ w s t 23 o v=(s,0)by simp[fZ],c⟩
  ·rintro cb b8 ⟨n,⟨S,fC,hn,gk,ae⟩,gj,gd,gg⟩;have⟨ho,hq,hs⟩:=ae.sy.fz;have fX:∀y,(fJ b8 3 y).get 3=some y:=λy=>(eG ae.g3 y _).trans (au rfl);have de:∀y,Eh 4 b8.size (fJ b8 3 y) bn bp bs fC S:=λy=>ae.sy.mono (ax _) λd q _=>by rw[eG ae.g3,Z B]
   have fL:=λy=>(de y).fz.1;have fP:=λy=>(de y).fz.2.1;have fS:=λy=>(de y).fz.2.2;simp[gj,gd,gg,ae.g1,ae.g3,fX,fG,fL,fP,fS,gk,ae.ok.hp]
def lj.apf{w:fg}(e:lj w){c:Nat}{b:fR}(h:w.ej[c]? =some b){d:gH}(f:d=r9 w.fM w.ka (w.ej.take c)):ApF w.fM d.gu b.eJ b.fh b.obj/\(r9 w.fM w.ka (w.ej.take (c+1))).gu=(fZ w.fM d.gu b.eJ b.fh b.obj (mr b)).1:=by
 have p:c<w.ej.length:=(List.getElem?_eq_some_iff.1 h).1;have i:=e.ok.ok h;rw[<-f]at i;have⟨q,r,o⟩:=oF i;have g:u5 (1000+(w.ej.take c).length) d:=by rw[f];exact e.sm.r9 (w:=w.fM) _
 have hl:=e.ok.len;have hr:=zf e.ok.run c;have m:GW 4 d.gu:=by rw[f];exact PX e.ok.pf _ _ hr e.rdt
 have⟨l1,l2,l3,l4,l5,l6⟩:=g.l;have⟨s,t,u,v,x,y⟩:=lY e.wb;refine⟨⟨o,B,⟨B,B,B,λj k=>?_,g.a⟩,λj k=>?_⟩,?_⟩
 ·have:=m.len g.a j k;omega
 ·have:=m.len g.a j k;omega
 ·have n:w.ej.take (c+1)=w.ej.take c++[b]:=by rw[dK,h];rfl
  rw[n];have:r9 w.fM w.ka (w.ej.take c++[b])=(kz w.fM d b).1:=by
   rw[f];unfold r9;rw[GS];rfl
  rw[this,rD d b i];rfl
def uH:iK:=⟨fg,λa=>[a.t],λa=>lj a,λa=> .tuple [iw.t ⟨a,a.gx.st⟩,.ez true],λc d b=>by simp at b;rw[fg.inj b]⟩
def Yc(a:fg)(b:T):List T:=[sl (a.fM.cells.map iY.t),sl (a.fM.fI.map jq.t),sl (a.fM.iL.map jG.t),sl (a.fM.fH.map T.str),sl (a.fM.ee.map T.str),sl (a.fM.jy.map js.t),C a.start,sl (a.ka.gu.fI.map fa.t),C a.ka.gu.tx,sl (a.ka.gu.done.map T.ez),sl (a.ka.gu.ee.map ei.t),sl (a.ka.cells.map (T.int .i64)),sl (a.ka.fH.map (T.int .i64)),sl (a.ka.count.map (T.int .i64)),sl (a.ej.map fR.t),b]
def anZ:List T:=[dV,dV,dV,dV,dV,dV,C 0,dV,C 0,dV,dV,dV,dV,dV,dV,dV]
structure AnJ(w:fg)(h:H)(k:Nat)(v:T)(ver ver5:Nat):Prop where
 ok:iQ 4 h
 b0:h.get 0=some (X 15 0 [w.t])
 b1:h.get 1=some (X 16 0 [.eZ anZ])
 b2:h.get 2=some (X 16 ver [.eZ (Yc w v)])
 b3:h.get 3=some (X 4 ver5 [(r9 w.fM w.ka (w.ej.take k)).gu.t])
 g:Gr h v 4 ((w.gx.st.take k).map gY.t)
 l:∀b,fq v=some b->4<=b
def H7:uH.Ok prog cx 25:=by
 refine iF [(59,vD)] (jF 9223389645163727807 [] func25) (λ_=>100) (by simp[uH]) ?_;rintro(c:fg) y m aA;replace y:lj c:=y;simp[uH]at aA|-;have ca:=y.ok.len;have cb:=y.ok.pf;simp[f25,aA,show¬(16:Int)<c.ej.length by omega,show¬(4:Int)<c.fM.ee.length by omega];refine ik c.ej.length B (λk m h=>∃z o A,AnJ c h k z o A/\Y m 1 (.fc 0 0 0 0)/\Y m 2 (.fc 1 0 0 0)/\Y m 4 (.fc 2 0 0 0)/\Y m 5 (.fc 3 0 0 0)/\Y m 30 (sl (c.ej.map fR.t))/\Y m 31 (C c.ej.length)/\Y m 32 (C k)) ?_ ?_ B ?_
 ·rintro k m h P aE ⟨z,o,A,⟨l,av,u,r,F,v,Q⟩,K,x,O,ab,W,L,N⟩;have⟨bu,al⟩:=y.apf (aB P) rfl;have bN:=y.ok.st P;have bS:(c.gx.st.take (k+1))=c.gx.st.take k++[(r9 c.fM c.ka (c.ej.take k)).gu]:=by rw[dK,bN];rfl
  generalize(r9 c.fM c.ka (c.ej.take k)).gu=q at*
  have cp:=l.ne (b:=0) B;have cL:=l.ne (b:=1) B;have a8:=l.ne (b:=2) B;have bg:=l.ne (b:=3) B;have bW:iQ 0 h:=⟨l.hp,l.low,ay _⟩;generalize aX:c.ej[k]=d at*
  have bB:Gr (h.cons (X 7 1 [d.t])) z 4 ((c.gx.st.take k).map gY.t):=v.mono λb ae=>by
   have⟨_,_,_,_,E,_⟩:=v.box ae;rw[fk,Z (by have:=H.gh E;omega)]
  have b9:(c.gx.st.take k).length<=16:=dR;have⟨s,g,S,i⟩:=bB.m9 (cx:=cx) (f:=gY.t) (bW.cons _) abi rfl abn rfl G (λ_=>rfl) q (by simp only[show ZX.bytes=80 from rfl];omega);rw[show(h.cons (X 7 1 [d.t])).size=h.size+1 from rfl]at S;have I:∀{bp:io},bp.p 59=some vD->rl prog cx bp 59 [c.fM.t,q.t,C d.eJ,C d.fh,C d.obj,C (mr d)]=some (.tuple [(fZ c.fM q d.eJ d.fh d.obj (mr d)).1.t,C (fZ c.fM q d.eJ d.fh d.obj (mr d)).2,.ez true]):=λht=>iN ht K3 (c.fM,q,d.eJ,d.fh,d.obj,mr d) bu;have b7:=l.sz;have b6:=i.2.2.2.sz;simp at b6;have a6:=l.low;have bT:∀a,a<4->fq z≠some a:=λa aN j=>by have:=Q a j;omega
  have J:∀a,a<4->g.get a=h.get a:=λa aN=>(i.2.1 a dR (bT a aN)).trans (by rw[fk,Z B]);have a0:=(J 0 B).trans av;have a1:=(J 1 B).trans u;have a2:=(J 2 B).trans r;have a3:=(J 3 B).trans F;have ap:g.get h.size=some (X 7 1 [d.t]):=(i.2.1 h.size G (λj=>by have⟨_,_,_,_,E,_⟩:=v.box j;have:=H.gh E;omega)).trans G;have w:∀e a,(fJ g 2 e).get a=if a=2 then some e else g.get a:=λe a=>eG a2 e a;have bs:(h.size=2)=False:=dR;have an:iQ 0 g:=⟨i.2.2.2.hp,i.2.2.2.low,ay _⟩;have bn:∀e n b,fJ ((fJ g 2 e).cons n) g.size b=(fJ g 2 e).cons b:=λe n b=>Fh _ _ _ _ G (by have:=(an.put 2 e).low;simpa using this);have bi:(3=g.size)=False:=dR;have cX:(2=g.size)=False:=dR;have cF:(0=g.size)=False:=dR;have c1:(h.size=g.size)=False:=dR;have cd:∀e,(fJ g 2 e).low<=g.size:=λe=>by have:=(an.put 2 e).low;simpa using this
  have fin:∀(n:jK),AnJ c (fJ ((fJ g 2 (X 16 (o+1) [.eZ (Yc c s)])).cons n) 3 (X 4 (A+1) [(fZ c.fM q d.eJ d.fh d.obj (mr d)).1.t])) (k+1) s (o+1) (A+1):=λn=>by
   have T:∀b a,(fJ ((fJ g 2 (X 16 (o+1) [.eZ (Yc c s)])).cons n) 3 b).get a=if a=3 then some b else((fJ g 2 (X 16 (o+1) [.eZ (Yc c s)])).cons n).get a:=λb a=>ou (by simp[an.hp]) dR b a;have U:∀b a,a<g.size->a≠3->a≠2->(fJ ((fJ g 2 (X 16 (o+1) [.eZ (Yc c s)])).cons n) 3 b).get a=g.get a:=λb a K x bH=>by rw[T,Z x,fk,Z dR,w,Z bH]
   have bX:=(((⟨i.2.2.2.hp,i.2.2.2.low,B⟩:iQ 4 g).put 2 (X 16 (o+1) [.eZ (Yc c s)])).cons n).put 3 (X 4 (A+1) [(fZ c.fM q d.eJ d.fh d.obj (mr d)).1.t]);have a7:∀a,fq s=some a->4<=a:=λa j=>(i.2.2.1 a j).elim (λj=>Q a j) (λj=>by simp at j;omega);refine⟨bX,(U _ 0 B B B).trans a0,(U _ 1 B B B).trans a1,?_,?_,?_,a7⟩
   ·rw[T,Z B,fk,Z dR,w,au rfl]
   ·rw[T,au rfl,al]
   ·rw[bS];exact i.1.mono λa j=>by
     have⟨_,_,_,_,E,_⟩:=i.1.box j;have:=a7 a j;exact U _ a (H.gh E) B B
  have D:mr d=if d.fh=18 then d.value else-1:=rfl;simp only[Yc]at r a2;cases R:decide (d.fh=18)with
  |true=>
   rw[au (by simpa using R)]at D;rw[D]at I al;simp[K,x,O,ab,W,L,N,P,aX,r,F,a8,bg,a6,S,a0,a2,a3,ap,w,bs,bn,bi,fG,i.1.jc,i.1.cells,R,I,aE];rw[D]at fin;exact⟨_,_,_,fin _⟩
  |false=>
   rw[Z (by simpa using R)]at D;rw[D]at I al;simp[K,x,O,ab,W,L,N,P,aX,r,F,a8,bg,a6,S,a0,a2,a3,ap,w,bs,bn,bi,fG,i.1.jc,i.1.cells,R,I,aE];rw[D]at fin;exact⟨_,_,_,fin _⟩
 ·rintro m h ⟨z,o,A,⟨l,av,u,r,F,v,Q⟩,K,x,O,ab,W,L,N⟩;simp only[Yc]at r;simp only[anZ]at u;have b8:c.gx.st.length=c.ej.length:=by unfold fg.gx;simp[Qq]
  rw[bQ B]at v;have b7:=l.sz;have w:∀e,(fJ h 1 e).get 1=some e:=λe=>(eG u e 1).trans (au rfl);have bC:∀e,Gr (fJ h 1 e) z 4 (c.gx.st.map gY.t):=λe=>v.mono λb ae=>by rw[eG u,Z (by have:=Q b ae;omega)]
  have bA:=λe=>(bC e).fz G;simp[x,O,L,N,u,r,w,bA,fG,l.hp]
  try rfl
 ·exact⟨dV,1,1,⟨by exact⟨G,G,G⟩,G,by simp[anZ],by simp[Yc],by simp;rfl,by simpa using Gr.nil _ _,G⟩,G⟩
end
end
noncomputable section
open Go Go.TI
def l0:T:= .eZ [(.V [(.eZ [(C 1),(C 1),(.str [120]),(C 0),(C 0),(.str [])])] false),(.V [(.eZ [(.str [116]),(C 1),dV,(.V [(.eZ [(C 12),(C 1),(.str [117]),(.str []),dV,(C 0),(C 0),(.str []),dV,dV,dV]),(.eZ [(C 1),(C 1),(.str [120]),(.str []),dV,(C 1),(C 1),(.str []),dV,dV,dV])] false)]),(.eZ [(.str [117]),(C 1),dV,(.V [(.eZ [(C 1),(C 1),(.str [120]),(.str []),dV,(C 1),(C 2),(.str []),dV,dV,dV])] false)])] false)]
def l1:T:= .V [(.eZ [(.str [120]),(C 0),(C 0),(.ez false),(C 0)])] false
def l2:T:= .V [(.eZ [(C 0),(C 0),(C 1)]),(.eZ [(C 0),(C 1),(C 1)]),(.eZ [(C 1),(C 0),(C 1)])] false
def l3:T:= .eZ [(C 28),(C 0),(C 0),(C 0),(C 0),(C (.negSucc 0))]
def l4:T:= .eZ [l1,dV,dV,dV,(.V [(.str [116]),(.str [117])] false),l2,(.V [(.eZ [(C 1),(.V [(.eZ [(C 24),(C 1),(C 0),(C 0),(C 0),(C 0)]),(.eZ [(C 1),(C 0),(C 0),(C 0),(C 1),(C 1)]),(.eZ [(C 8),(C 0),(C 0),(C 0),(C 0),(C 1)]),l3] false)]),(.eZ [(C 1),(.V [(.eZ [(C 1),(C 0),(C 0),(C 0),(C 2),(C 2)]),(.eZ [(C 8),(C 0),(C 0),(C 0),(C 0),(C 2)]),l3] false)])] false)]
def l5:T:= .V [(.eZ [(C 0),(C 1),(C (.negSucc 0)),(C 0),(C (.negSucc 0)),dV,dV]),(.eZ [(C 0),(C 20),(C 1),(C 0),(C 0),dV,dV]),(.eZ [(C 0),(C 4),(C 0),(C 1),(C 1),dV,dV]),(.eZ [(C 0),(C 2),(C (.negSucc 0)),(C 0),(C (.negSucc 0)),dV,dV]),(.eZ [(C 1),(C 1),(C (.negSucc 0)),(C 0),(C (.negSucc 0)),dV,dV]),(.eZ [(C 1),(C 4),(C 0),(C 2),(C 2),dV,dV]),(.eZ [(C 1),(C 2),(C (.negSucc 0)),(C 0),(C (.negSucc 0)),dV,dV])] false
def l6:T:= .eZ [(C 5),(C 0),(.ez false)]
