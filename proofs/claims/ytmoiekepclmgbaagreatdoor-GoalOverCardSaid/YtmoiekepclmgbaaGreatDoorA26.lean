/- W09h -/
import Derived.Test.YtmoiekepclmgbaaGreatDoorA22
import Derived.Test.YtmoiekepclmgbaaGreatDoorA25
set_option linter.all false
set_option maxRecDepth 100000
set_option maxHeartbeats 0
namespace Go.Proofs.YtmoiekepclmgbaaGreatDoor
noncomputable section
open Go Go.TI Tryz
attribute [-simp] List.map_take List.map_drop List.map_append fU fK fh Bool.not_or Bool.not_and
attribute [simp] fT fM
def ag5(b:T):Prop:=∃(a:kV) (c:jo),b= .tuple [a.t,c.t]/\ML a.dY/\a.dY.length<=80
def NJ:o9 prog cx 42 (λi:ky×List gJ=>[i.1.t,sl (i.2.map gJ.t)]) (λi=>(∀o∈i.1.dW,o.jO.length<=10000001)/\i.2.length<=80) (λ_=>ag5):=by
 refine AA (tb:=⟨pt [(88,yI.jX),(90,G5.jX)],ht [(89,jY IFr Yk RX)]⟩) jg iT (jr 1271 [(3,[(0,2),(2,8),(4,8)]),(4,[(4,5)])] func42) (λ_=>105) (λi r l=>by simp at l;exact aD (ky.inj l.1) (jH (λ_ _ l=>gJ.inj l) l.2)) Y nl9 ?_;rintro⟨k,A⟩ ⟨n,x⟩ aA y;simp only at n x;simp at y;obtain⟨w,K⟩:=y;obtain⟨_,⟨r,rfl,av⟩,u⟩:=yI.use k n;obtain⟨_,⟨P,rfl,R,E⟩,B⟩:=G5.use k n;cases r with
 |false=>
  simp[f42,w,u];exact⟨⟨⟨[],[],[],[],[],[]⟩,[]⟩,⟨⟨[],0,[],[]⟩,[],[],[]⟩,rfl,λe L=>by simp at L,Y⟩
 |true=>
  simp[f42,w,K,u,B];generalize j:((hE.cons _).cons _).cons _=h;have O:iE 0 h:=by rw[<-j];exact⟨Y,Y,Y⟩
  have ap:h.size=3:=by rw[<-j];rfl
  have V:h.get 0=some (dS 7 0 [k.t]):=by rw[<-j];simp
  have W:h.get 1=some (dS 7 0 [.agg [dR,dR,dR,dR,dR,dR,dR]]):=by rw[<-j];simp
  have X:h.get 2=some (dS 7 0 [.agg [dR,G 0,dR,dR,dR,dR,dR]]):=by rw[<-j];simp
  clear j;refine lH SI Y ⟨k,P,A⟩ ⟨rfl,O,n,R,E,x⟩ ?_;rintro _ b ⟨z,d,U,rfl,m,s,f,C,hl⟩;have an:=f.ok.sz;rw[ap]at s an;have a0:=(f.get 0 D).trans V;have a1:=(f.get 1 D).trans W;have a2:=(f.get 2 D).trans X;have sv:=λa (M:a<h.size)=>fZ (f.get a M);have S:=sv 0 D;have Z:(0=b.size)=False:=dN;have ae:(1=b.size)=False:=dN;have al:(2=b.size)=False:=dN;have N:=f.ok.low;have Q:fQ h b b.size=true:=jw (mv _ f.ok.sz);have okB:iE 0 (b.cons (dS 7 1 [d.t])):=iE.cons ⟨f.ok.hp,f.ok.low,aw _⟩ _;have q:∀a,(b.cons (dS 7 1 [d.t])).get a=if a=b.size then some (dS 7 1 [d.t])else b.get a:=λa=>ez ..;have v:=(q 1).trans ((ao D).trans a1);have p:∀c a,(fg (b.cons (dS 7 1 [d.t])) 1 c).get a=if a=1 then some c else if a=b.size then some (dS 7 1 [d.t])else b.get a:=λc a=>(ee v c a).trans (by rw[q]);have J:=λc=>(p c 2).trans ((ao D).trans ((ao D).trans a2));have G2:∀c g a,(fg (fg (b.cons (dS 7 1 [d.t])) 1 c) 2 g).get a=if a=2 then some g else if a=1 then some c else if a=b.size then some (dS 7 1 [d.t])else b.get a:=λc g a=>(ee (J c) g a).trans (by rw[p]);have T:∀c,fQ (b.cons (dS 7 1 [d.t])) (fg (b.cons (dS 7 1 [d.t])) 1 c) b.size=true:=λc=>oo v D c;have aE:(b.size=1)=False:=dN;have F:∀c g,TI.fz (fg (fg (b.cons (dS 7 1 [d.t])) 1 c) 2 g) U=some (sl (z.map fk.t)):=λc g=>(m.mono (h':=fg (fg (b.cons (dS 7 1 [d.t])) 1 c) 2 g) λa o=>by
   have⟨_,_,_,_,I,_⟩:=m.box o;have:=H.fG I;have:=s a o;rw[G2,ao D,ao D,ao D]).fz Y
  simp[m.iN,m.cells,a0,a1,a2,S,Z,ae,al,N,Q,eZ,p,G2,T,F,q,f.ok.hp];exact⟨⟨k.fq,z⟩,d,rfl,C,hl⟩
def JV:o9 prog cx 43 (λc:List Int=>[sl (c.map (T.int .u8))]) okB (λ_ l=>∃a:ky,l=a.t/\∀m∈a.dW,m.jO.length<=10000001):=by
 refine jL [(91,SA.jX),(75,CR.jX)] (jr 13 [] func43) (λ_=>105) (λn o b=>by simp at b;exact jH (λ_ _ b=>by simpa using b) b) ?_;rintro c g r d;simp at d;obtain⟨_,⟨k,rfl,i,j⟩,e⟩:=SA.use c g;obtain⟨_,⟨a,p,q,rfl,h⟩,f⟩:=CR.use k ⟨i,j⟩;simp[f43,d,e,f];exact⟨a,rfl,h⟩
def agW(b:T):Prop:=∃a:kV,b=a.t/\ML a.dY/\a.dY.length<=80
def GZ:o9 prog cx 17 (λa:List Int×List Int=>[sl (a.1.map (T.int .u8)),sl (a.2.map (T.int .u8))]) (λa=>okB a.1/\okB a.2/\a.2.length<=80) (λ_=>agW):=by
 refine jL [(43,JV.jX),(44,Ha.jX),(42,NJ.jX)] (jr 51 [] func17) (λ_=>105) (λa s b=>by simp at b;exact aD (jH (λ_ _ b=>by simpa using b) b.1) (jH (λ_ _ b=>by simpa using b) b.2)) ?_;rintro⟨i,h⟩ ⟨e,d,p⟩ v f;simp only at e d p;simp at f;obtain⟨n,o⟩:=f;obtain⟨_,⟨j,rfl,q⟩,k⟩:=JV.use i e;obtain⟨_,⟨g,rfl,t⟩,l⟩:=Ha.use h ⟨d,D⟩;obtain⟨_,⟨r,u,rfl,m,hl⟩,c⟩:=NJ.use (j,g) ⟨q,dO⟩;simp only at c;simp[f17,n,o,k,l,c];exact⟨r,rfl,m,hl⟩
end
noncomputable section
open Go Go.TI
structure nj where
 program:List Int
 schedule:List Int
 GL:List Int
 size:Int
 xn:Int
 deriving DecidableEq,Inhabited
def nj.cs(a:nj):List T:=[sl (a.program.map (T.int .u8)),sl (a.schedule.map (T.int .u8)),sl (a.GL.map (T.int .u8)),.int .u8 a.size,.int .u8 a.xn]
def nj.t(a:nj):T:= .agg a.cs
@[simp]def nj.ag (a:nj):rn a.t [sl (a.program.map (T.int .u8)),sl (a.schedule.map (T.int .u8)),sl (a.GL.map (T.int .u8)),.int .u8 a.size,.int .u8 a.xn] 5:=C2
@[simp]theorem nj.fold (a0 a1 a2:List Int) (a3 a4:Int):T.agg [sl (a0.map (T.int .u8)),sl (a1.map (T.int .u8)),sl (a2.map (T.int .u8)),.int .u8 a3,.int .u8 a4]=nj.t ⟨a0,a1,a2,a3,a4⟩:=rfl
@[simp]theorem nj.eta (a:nj):nj.mk a.program a.schedule a.GL a.size a.xn=a:=rfl
def nj.inj{a b:nj}(c:a.t=b.t):a=b:=by
 rcases a with⟨_,_,_,_,_⟩;rcases b with⟨_,_,_,_,_⟩;simp[nj.t,nj.cs,Vo,-nj.fold]at c;simp[c]
end
noncomputable section
open Go Go.TI Tryz
attribute [-simp] List.map_take List.map_drop List.map_append fU fK fh Bool.not_or Bool.not_and
attribute [simp] fT fM
def QV(a:Int):Prop:=0<=a/\a<256
structure HH(v:nj):Prop where
 p:okB v.program
 q:okB v.schedule
 s:okB v.GL
 z:QV v.size
 w:QV v.xn
def EH:o9 prog cx 5 (λb:nj=>[b.t,G 16]) HH (λ_=>XD):=by
 refine jL [(16,H5.jX),(17,GZ.jX),(18,G6.jX)] (jr 17592186046583 [(3,[(9,10)])] func5) (λ_=>105) (λa X n=>by simp at n;exact nj.inj n) ?_;rintro b d av r;simp at r;obtain⟨I,o⟩:=r;have⟨W,aE⟩:=d.z;have⟨U,aA⟩:=d.w;obtain⟨_,⟨C,rfl,J⟩,h⟩:=H5.use (b.GL,(1+b.size% 16).toNat) ⟨d.s,dO⟩;obtain⟨_,⟨i,rfl,K⟩,l⟩:=H5.use ([],0) ⟨⟨Y,Y⟩,Y⟩;obtain⟨_,⟨T,rfl,F,hl⟩,eT⟩:=GZ.use (b.program,b.schedule.take (min b.schedule.length 80)) ⟨d.p,⟨by have:=d.q.1;simp;omega,λV S=>d.q.2 V (bJ S)⟩,dN⟩;obtain⟨_,⟨c,Z,rfl,R⟩,g⟩:=G6.use (T,(1+b.size% 16).toNat) ⟨F,dO,dO,dO⟩;simp only at eT g h l;rw[show(((1+b.size% 16).toNat:Nat):Int)=1+b.size% 16 by omega]at g h;have Q:∀e:Int,0<=e->e<1000->IntKind.i64.wrap e=e:=λe an ap=>by rw[<-kh,kr D D]
 have m:b.size.tmod 16=b.size% 16:=Int.tmod_eq_emod_of_nonneg W;have A: -9223372036854775808<=b.size:=D;have B:b.size<9223372036854775808:=D;have x:=Da (k:= .i64) (a:=b.size) (show¬(16:Int)=0 by omega);have j:=Q (1+b.size% 16) D D;simp[f5,I];refine fw (λP=>?_) (λP=>?_)
 ·simp[o,A,B,x,pP,m,j,h];exact⟨C,rfl,J⟩
 have⟨k,L,M⟩:∃k:Nat,min (b.schedule.length:Int) 80=k/\k=min b.schedule.length 80:=⟨_,D,rfl⟩;rw[<-M]at eT;simp[o,L,show k<=b.schedule.length by omega,eT,A,B,x,pP,m,j,g];refine fw (λu=>?_) (λu=>?_)
 ·have E:=λ{y:gG} (ht:y.p 16=some H5.jX)=>(show rl prog cx y 16 [.iO,G 0]=some i.t from l ht);simp[E];exact⟨i,rfl,K⟩
 have N:c≠ []:=by simpa using u
 have ae:0<c.length:=by rcases c with _|_<;>simp at N|-
 have H:b.xn.tmod (c.length:Int)=b.xn% (c.length:Int):=Int.tmod_eq_emod_of_nonneg U;have O:0<=b.xn% (c.length:Int):=Int.emod_nonneg _ D;have al:b.xn% (c.length:Int)<c.length:=Int.emod_lt_of_pos _ D;have⟨f,v⟩:∃f,c[(b.xn% (c.length:Int)).toNat]? =some f:=⟨_,az D⟩;simp[show-9223372036854775808<=b.xn by omega,show b.xn<9223372036854775808 by omega,Da (show¬(c.length:Int)=0 by omega),H,fy O,v];exact⟨f,rfl,R f (ay v)⟩
section
attribute [-simp] size_cons
def Ut(d:GX){lo hi:Int}{a b:Nat}(c:fk->Bool)(e:lo=a)(f:hi=b):d.YN lo hi c=((d.ev.drop a).take (b-a)).all c:=by
 unfold GX.YN;rw[e,f,show((b:Int)-a).toNat=b-a by omega];rfl
def kZ.nat{c:ej}{a:Int}(d:ju a c.dY.length=true):∃b:Nat,a=b/\b<c.dY.length:=by
 have:=fI.1 d;exact⟨a.toNat,D,this.2⟩
def IE(c:GX)(d:Int->Int->Bool)(a:List Int)(b:Nat):Bool:=
 !decide (a.getD b 0<a.getD 0 0)&&d (a.getD ((b+1)% a.length) 0) (a.getD b 0)&&(List.range b).all λf=> !decide ((c.e (a.getD b 0)).eg=(c.e (a.getD f 0)).eg)
def TP{d:GX}{e:Int->Int->Bool}{b:List Int}(f:2<=b.length)(g:b.length<=4)(h:∀a<b.length,ju (b.getD a 0) d.ev.length=true)(i:∀a<b.length,IE d e b a=true):d.KR e b=true:=by
 unfold GX.KR;simp only[ax,aK];refine⟨⟨⟨f,g⟩,List.all_eq_true.2 λk j=>?_⟩,List.all_eq_true.2 λa c=>i a (List.mem_range.1 c)⟩;obtain⟨a,c,rfl⟩:=List.mem_iff_getElem.1 j;have:=h a c;simpa[List.getD,c]using this
def yR{e:GX}{f:Int->Int->Bool}{a:List Int}(h:a.length<2\/4<a.length\/(∃b<a.length,ju (a.getD b 0) e.ev.length=false)\/∃b<a.length,IE e f a b=false):e.KR f a=false:=by
 rw[dC];intro d;unfold GX.KR at d;simp only[ax,aK]at d;obtain⟨⟨⟨j,k⟩,g⟩,i⟩:=d;rcases h with h|h|⟨b,c,h⟩|⟨b,c,h⟩
 ·omega
 ·omega
 ·have:=List.all_eq_true.1 g (a.getD b 0) (by simp[List.getD,c]);rw[h]at this;simp at this
 ·have:=List.all_eq_true.1 i b (List.mem_range.2 c);unfold IE at h;rw[h]at this;simp at this
def Vt(a b:Nat)(d:b≠0)(c:a<9223372036854775808):binop .rem (G (a:Int)) (G (b:Int))=some (G ((a% b:Nat):Int)):=by
 rw[Da D];rfl
end
end
noncomputable section
open Go Go.TI Tryz
section
attribute [-simp] List.map_take List.map_drop List.map_append
def nZ(c:Nat)(b:List Int):Bool:=b.all λa=>ju a c
def ry:iy:=⟨gY×List Int,λa=>[a.1.t,sl (a.2.map (T.int .i64))],λa=>a.2.length<=1099511627776,λa=> .bool (nZ a.1.w.dY.length a.2),λa c b=>by simp at b;rw[gY.inj b.1,jH Y b.2]⟩
def Sb:ry.Ok prog cx 64:=by
 refine iq [] (jr 4196311 [] func64) (λo=>o.2.length+1) (by simp[ry]) ?_;rintro⟨e,b⟩ hl d m;simp[ry]at hl m|-;obtain⟨p,q⟩:=m;simp[f64,p,q];refine gu b.length D (λc d j=>j=H.cons hE (dS 16 0 [e.t])/\dT d 2 (.ptr 0 0 0 0)/\dT d 7 (sl (b.map (T.int .i64)))/\dT d 8 (G b.length)/\dT d 9 (G c)/\nZ e.w.dY.length (b.drop c)=nZ e.w.dY.length b) ?_ ?_ D Y
 ·rintro c d j i r ⟨rfl,k,h,f,g,a⟩;rw[aH i]at a;simp only[nZ,cB]at a;by_cases l:b[c]<0
  ·have:ju b[c] e.w.dY.length=false:=by simp[ju];omega
   rw[this,df]at a;simp[h,f,g,i,l,nZ,a.symm]
  ·by_cases n:(e.w.dY.length:Int)<=b[c]
   ·have:ju b[c] e.w.dY.length=false:=by simp[ju];omega
    rw[this,df]at a;simp[k,h,f,g,i,l,n,nZ,a.symm]
   ·have:ju b[c] e.w.dY.length=true:=by simp[ju];omega
    rw[this,bg]at a;simp[k,h,f,g,i,r,l,n,nZ,a]
 ·rintro d j ⟨rfl,k,h,f,g,a⟩;simp[nZ]at a;simp[f,g,nZ];exact a
def IR{c:gG}(ht:c.p 64=some ry)(b:gY)(a:List Int)(hl:a.length<=1099511627776):rl prog cx c 64 [b.t,sl (a.map (T.int .i64))]=some (.bool (nZ b.w.dY.length a)):=iA ht Sb (b,a) hl
def ux{d:gG}(ht:d.p 64=some ry)(a:gY)(b c:Int):rl prog cx d 64 [a.t,sl [G b,G c]]=some (.bool (ju b a.w.dY.length&&ju c a.w.dY.length)):=by
 have:=IR ht a [b,c] Y;simpa[nZ]using this
def CJ(a:ej)(b c:Int):Bool:=ju b a.dY.length&&ju c a.dY.length&&decide (b<c)&&nD (lL a.dY b) (lL a.dY c)&& !decide ((lL a.dY b).eg=(lL a.dY c).eg)&& !((qJ a.fq.cells (lL a.dY b).obj).getD default).vL
def I5(b:ej):Prop:=∀a∈b.dY,uG a=true->ju a.obj b.fq.cells.length=true
def BV:iy:=⟨gY×Int×Int,λa=>[a.1.t,G a.2.1,G a.2.2],λa=>I5 a.1.w,λa=> .bool (CJ a.1.w a.2.1 a.2.2),λa c b=>by simp at b;rw[gY.inj b.1,b.2.1,b.2.2]⟩
def VM:BV.Ok prog cx 61:=by
 refine iq [(64,ry),(104,uS)] (jr 67109327 [(3,[(8,14),(10,14),(11,14)])] func61) (λb=>1) (by simp[BV]) ?_;rintro⟨j,d,e⟩ r F c;simp[BV]at r c|-;obtain⟨g,h,i⟩:=c;cases l:(ju d j.w.dY.length&&ju e j.w.dY.length)with
 |false=>simp[f61,g,h,i,ux,l,CJ,iF]
 |true=>
  have a:=l;rw[ax]at a;have⟨b,c,t⟩:=iU a.1;have⟨k,v,x⟩:=iU a.2;have A:=fy (fI.1 a.1).1;have B:=fy (fI.1 a.2).1;have n:lL j.w.dY d=b:=by simp[lL,t]
  have o:lL j.w.dY e=k:=by simp[lL,x]
  by_cases m:e<=d
  ·have:¬d<e:=D;simp[f61,g,h,i,ux,l,m,CJ,iF,this]
  ·have p:d<e:=D;cases f:nD b k with
   |false=>simp[f61,g,h,i,ux,m,CJ,iF,p,DR,a.1,a.2,n,o,f]
   |true=>
    have u:uG b=true:=by unfold nD at f;simp at f;exact f.1.1.1
    have q:=r b (ay c) u;have⟨E,y,z⟩:=iU q;have s:=fy (fI.1 q).1;cases C:decide (b.eg=k.eg)<;>
     simp[f61,g,h,i,ux,m,CJ,iF,p,DR,a.1,a.2,n,o,f,C,A,B,c,v,y,z,s,qR]
def aaU{d:gG}(ht:d.p 61=some BV)(a:gY)(b c:Int)(e:I5 a.w):rl prog cx d 61 [a.t,G b,G c]=some (.bool (CJ a.w b c)):=iA ht VM (a,b,c) e
end
end
noncomputable section
open Go Go.TI Tryz
attribute [-simp] List.map_take List.map_drop List.map_append fU fK fh Bool.not_or Bool.not_and
attribute [simp] fT fM
section
attribute [-simp] size_cons
def oz{a b:Nat}(c:a<b):kf a b=a::kf (a+1) b:=by
 unfold kf;rw[show b-a=(b-(a+1))+1 by omega,List.range'_succ]
def p7{a b:Nat}(c:b<=a):kf a b=[]:=by unfold kf;rw[show b-a=0 by omega];rfl
def Lu(a:Nat):List.range a=kf 0 a:=by unfold kf;rw[List.range_eq_range'];rfl
def ni{d i:Type}(b:Nat){f:d->List i}:∀{l:List d},(∀a∈l,(f a).length<=b)->(l.flatMap f).length<=l.length*b:=by
 intro l;induction l with
 |nil=>intro _;simp
 |cons a l g=>
  intro c;rw[bm,aT,aP,cg];have j:=c a Y;have k:=g λh e=>c h (by simp[e]);omega
def D1(b a:Nat):(kf b a).length<=a:=by unfold kf;simp
def WA{c:Nat}(h:c<=16){d:List Int->Bool}{go:List Int->Int->Bool}:∀(a:Nat) (b:List Int),(DI c d go a b).length<=17^a:=by
 intro a;induction a with
 |zero=>intro b;unfold DI;split<;>simp
 |succ a i=>
  intro b;unfold DI;rw[aT];have j:(if d b=true then [b]else []).length<=1:=by split<;>simp
  have k:=ni (17^a) (l:=kf ((b.getD 0 0).toNat+1) c) (f:=λ(e:Nat)=>if go b e=true then DI c d go a (b++[(e:Int)])else []) λo _=>by
   split
   ·exact i _
   ·simp
  have g:=D1 ((b.getD 0 0).toNat+1) c;have m:=aV (17^a) (aQ g h);have n:0<17^a:=Nat.pow_pos D;rw[Nat.pow_succ];omega
def Hl(b:iX->Bool)(a:iX):(ks b a).length<=1:=by unfold ks;split<;>simp
def B9(a:GX)(m:a.n<=16):a.E0.length<=100000+80000:=by
 unfold GX.E0;simp only[aT];have two:∀h:Nat->Nat->iX,((List.range a.n).flatMap λ(b:Nat)=>(List.range a.n).flatMap λ(c:Nat)=>ks a.vR (h b c)).length<=256:=λh=>by
  have j:=ni 16 (l:=List.range a.n) (f:=λ(b:Nat)=>(List.range a.n).flatMap λ(c:Nat)=>ks a.vR (h b c)) λb _=>by
   have k:=ni 1 (l:=List.range a.n) (f:=λ(c:Nat)=>ks a.vR (h b c)) λc _=>Hl _ _;rw[dI]at k;omega
  rw[dI]at j;omega
 have j:=two gR;have k:=two gL;have p:((List.range a.n).flatMap λ(b:Nat)=>(a.Qw b).map gC).length<=16*4913:=by
  have i:=ni 4913 (l:=List.range a.n) (f:=λ(b:Nat)=>(a.Qw b).map gC) λb _=>by
   rw[aG];exact WA (show a.ev.length<=16 from m) 3 _
  rw[dI]at i;omega
 have q:((List.range a.n).flatMap λ(b:Nat)=>(kf (b+1) a.n).flatMap λ(c:Nat)=>if(a.e b).eg=(a.e c).eg/\uG (a.e b)=true/\uG (a.e c)=true then(List.range a.n).flatMap λ(d:Nat)=>(kf d a.n).flatMap λ(g:Nat)=>ks a.vR (gA b c d g)else []).length<=16*(16*256):=by
  have i:=ni (16*256) (l:=List.range a.n) (f:=λ(b:Nat)=>(kf (b+1) a.n).flatMap λ(c:Nat)=>if(a.e b).eg=(a.e c).eg/\uG (a.e b)=true/\uG (a.e c)=true then(List.range a.n).flatMap λ(d:Nat)=>(kf d a.n).flatMap λ(g:Nat)=>ks a.vR (gA b c d g)else []) λb _=>by
   have r:=ni 256 (l:=kf (b+1) a.n) (f:=λ(c:Nat)=>if(a.e b).eg=(a.e c).eg/\uG (a.e b)=true/\uG (a.e c)=true then(List.range a.n).flatMap λ(d:Nat)=>(kf d a.n).flatMap λ(g:Nat)=>ks a.vR (gA b c d g)else []) λc _=>by
    split
    ·have o:=ni 16 (l:=List.range a.n) (f:=λ(d:Nat)=>(kf d a.n).flatMap λ(g:Nat)=>ks a.vR (gA b c d g)) λd _=>by
      have s:=ni 1 (l:=kf d a.n) (f:=λ(g:Nat)=>ks a.vR (gA b c d g)) λg _=>Hl _ _;have:=D1 d a.n;omega
     rw[dI]at o;omega
    ·simp
   have:=D1 (b+1) a.n;omega
  rw[dI]at i;omega
 omega
structure yw(x:gY):Prop where
 w:kZ x.w
 s:x.D4=x.w.gx.st
def yw.st{a:gY}(c:yw a){e:Int}(d:ju e a.w.dY.length=true):∃b,a.D4[e.toNat]? =some b/\a.w.gx.s e=b/\mn a.w.fq b=true/\(∀h∈b.fj,h.fF.length<=2000):=by
 have⟨f,i⟩:=c.w.ok.s d;have g:=c.w.ok.st (fI.1 d).2;refine⟨_,by rw[c.s];exact g,f,by rw[<-f];exact i,by rw[<-f];exact(c.w.rd d).1⟩
def rV:iy:=⟨gY×Int×Int,λa=>[a.1.t,G a.2.1,G a.2.2],λa=>yw a.1/\ju a.2.1 a.1.w.dY.length=true/\ju a.2.2 a.1.w.dY.length=true,λa=> .bool (a.1.w.gx.sP a.2.1 a.2.2),λa c b=>by simp at b;rw[gY.inj b.1,b.2.1,b.2.2]⟩
def PZ:rV.Ok prog cx 67:=by
 refine iq [(105,AK),(70,oK)] (jr 36051629065113551 [(1,[(8,14),(10,14),(11,14)])] func67) (λ_=>10) (by simp[rV]) ?_;rintro⟨f,i,h⟩ ⟨p,u,A⟩ an z;simp only at p u A;simp[rV]at z|-;obtain⟨O,k,P⟩:=z;have⟨v,N,j,y,ae,al⟩:=p.w.at u;have⟨c,K,L,M,Z,n⟩:=p.w.at A;have⟨E,r,U,s,V⟩:=p.st u;have a:=GX.Cy.eq_1 f.w.gx i h;rw[M,y,U,show f.w.gx.w=f.w.fq from rfl]at a;have t:f.w.gx.sP i h=(sH v.kind&&f.w.gx.Cy i h):=by rw[<-y];rfl
 generalize f.w.gx.sP i h=C at*
 generalize f.w.gx.Cy i h=W at*
 simp[f67,O,k,P,K,L,N,j,W7,qR];refine fw (λl=>?_) (λl=>?_)
 ·have:C=false:=by
   rw[t];cases R:sH v.kind with
   |false=>rfl
   |true=>
    rw[R]at l;have ht:c.eg=v.eg:=by simpa using l
    rw[aq ht]at a;rw[a];rfl
  simp[this]
 simp only[cP,cT,bZ]at l;obtain⟨Q,S⟩:=l;rw[S,bg]at t;subst t;rw[ao Q]at a;simp;have o:∀b:em,b∈E.fj->b.fF.length<=1000000:=λb hl=>by have:=V b hl;omega
 cases B:decide (c.kind=6)with
 |true=>
  have d:c.kind=6:=by simpa using B
  have⟨b,l1,l2,l3⟩:=Bd s (nz n D);have hl:=o b (ay l2);rw[aq (.inl d),l3]at a;simp[k,l1,l2,r,j,pY,hl,a]
 |false=>
  cases e:decide (c.kind=10)with
  |true=>
   have d:c.kind=10:=by simpa using e
   have⟨b,l1,l2,l3⟩:=Bd s (nz n D);have hl:=o b (ay l2);rw[aq (.inr d),l3]at a;simp[k,e,l1,l2,r,j,pY,hl,a]
  |false=>
   have T:¬(c.kind=6\/c.kind=10):=by simp at B e;omega
   rw[ao T]at a;cases g:decide (c.kind=8)with
   |true=>
    have d:c.kind=8:=by simpa using g
    have⟨b,l1,l2,l3⟩:=Bd s (nz n D);rw[aq d,l3]at a;have hl:=o b (ay l2);simp[k,e,g,l1,l2,r,j,a]
   |false=>
    rw[ao (by simpa using g)]at a;cases m:decide (c.kind=17)with
    |true=>
     have d:c.kind=17:=by simpa using m
     have⟨X,b,F,H,I,x,J⟩:=IL s (pL n D);rw[aq d,J]at a;have hl:=o b (ay x);simp[k,e,g,m,F,H,I,x,r,j,a]
    |false=>
     rw[ao (by simpa using m)]at a;cases q:decide (c.kind=21)with
     |true=>
      rw[aq (by simpa using q)]at a;simp[e,g,m,q,a]
     |false=>
      rw[ao (by simpa using q)]at a;simp[e,g,m,q,a]
def Ek:iy:=⟨gY×Int×Int,λa=>[a.1.t,G a.2.1,G a.2.2],λa=>yw a.1,λa=> .bool ((ju a.2.1 a.1.w.dY.length&&ju a.2.2 a.1.w.dY.length)&&a.1.w.gx.Yx a.2.1 a.2.2),λa c b=>by simp at b;rw[gY.inj b.1,b.2.1,b.2.2]⟩
def VQ:Ek.Ok prog cx 63:=by
 refine iq [(64,ry)] (jr 1238093369775042453301102031 [(3,[(8,14),(10,14),(11,14)])] func63) (λ_=>100) (by simp[Ek]) ?_;rintro⟨f,a,b⟩ p h L;replace p:yw f:=p;simp[Ek]at L|-;obtain⟨E,i,u⟩:=L;cases z:(ju a f.w.dY.length&&ju b f.w.dY.length)with
 |false=>simp[f63,E,i,u,ux,z,iF]
 |true=>
  have P:=z;rw[ax]at P;obtain⟨I,M⟩:=P;have⟨J,a1,a2,a3,a4,a5⟩:=p.w.at I;have⟨A,K,bn,U,V,bp⟩:=p.w.at M;have⟨S,Q,aN,aX,bW⟩:=p.st I;have⟨R,a7,a8,bi⟩:=BQ aX V;have d:=GX.Yx.eq_1 f.w.gx a b;rw[a3,U,aN,bi]at d;generalize f.w.gx.Yx a b=T at*
  obtain⟨e,rfl,bH⟩:=kZ.nat I;obtain⟨c,rfl,bS⟩:=kZ.nat M;have bT:=p.w.ok.len;rw[cm]at a1 K Q;by_cases bN:c<e;rotate_left
  ·rw[aO (show¬(c:Int)<e by omega)]at d;simp[f63,E,i,u,ux,z,iF,d,show e<=c by omega]
  have ae:=Ut f.w.gx (lo:=(c:Int)+1) (hi:=e) (a:=c+1) (b:=e) (λo=> !decide (o.eg=A.eg)) D rfl;rw[ae,show f.w.gx.ev=f.w.dY from rfl,bI (show(c:Int)<e by omega)]at d;have Z:binop .add (G (c:Int)) (G 1)=some (G ((c:Int)+1)):=iZ D D;have a6:kT ((c:Int)+1)=some (c+1):=by have:=fy (show(0:Int)<=((c+1:Nat):Int)by omega);simpa using this
  simp[f63,E,i,u,ux,z,iF,show¬e<=c by omega,a1,K,qR];refine fw (λs=>?_) (λs=>?_)
  ·have:T=false:=by
    rw[dC];intro g;rw[d]at g;simp only[ax,cr,aK,cj,bZ]at g s;obtain⟨⟨⟨⟨⟨⟨⟨_,bA⟩,W⟩,r⟩,l⟩,bB⟩,bs⟩,bu⟩:=g;simp[W,r,l]at s;omega
   simp[this]
  simp only[cP,Bool.and_eq_false_iff,cT,bZ,aK]at s;obtain⟨⟨⟨ap,av⟩,aA⟩,aE⟩:=s;rw[bI av,bI aA,aO aE,show(decide (J.kind=18)||decide (J.kind=19))=true by simpa using ap]at d;simp[-List.length_take,-List.length_drop,i,u,Z,a6,show c+1<=e by omega,show e<=f.w.dY.length by omega];have bC:((f.w.dY.drop (c+1)).take (e-(c+1))).length<=16:=dN;generalize(f.w.dY.drop (c+1)).take (e-(c+1))=n at*
  refine gu n.length D (λy h g=>iE 4 g/\g.get 0=some (dS 16 0 [f.t])/\g.get 2=some (dS 7 1 [J.t])/\g.get 3=some (dS 7 1 [A.t])/\((n.drop y).all λo=> !decide (o.eg=A.eg))=(n.all λo=> !decide (o.eg=A.eg))/\dT h 1 (G e)/\dT h 3 (.ptr 0 0 0 0)/\dT h 7 (.ptr 2 0 0 0)/\dT h 8 (.ptr 3 0 0 0)/\dT h 67 (sl (n.map fk.t))/\dT h 68 (G n.length)/\dT h 69 (G y)) ?_ ?_ D ?_
  ·rintro y h g N X ⟨j,B,C,q,k,i,F,r,l,H,v,x⟩;have al:=j.ne (b:=0) D;have an:=j.ne (b:=2) D;have O:=j.ne (b:=3) D;rw[aH N,cB]at k;simp[q,l,H,v,x,O,j.low,N];generalize n[y]=o at*
   refine fw (λm=>?_) (λm=>?_)
   ·rw[m]at k;rw[<-k]at d;simp at d;simp[d,j.hp]
   ·rw[m]at k;simp[i,F,r,l,H,v,x,X];exact⟨j.cons _,by simp[B,al],by simp[C,an],by simp[q,O],by simpa using k⟩
  ·rintro h g ⟨j,B,C,q,k,i,F,r,l,H,v,x⟩;rw[bU]at k;rw[<-k]at d;simp at d;simp[B,q,i,F,l,v,x,Q,a7,a8];refine fw (λm=>?_) (λm=>?_)
   ·rw[show decide (R.jf=3)=false by simpa using m]at d;simp at d;simp[d,j.hp]
   ·rw[show decide (R.jf=3)=true by simpa using m]at d;simp at d;simp[C,q,r,l,j.hp,d]
  ·simp[i]
def wL:iy:=⟨gY×Int×Int,λa=>[a.1.t,G a.2.1,G a.2.2],λa=>yw a.1/\ju a.2.1 a.1.w.dY.length=true/\ju a.2.2 a.1.w.dY.length=true,λa=> .bool (a.1.w.gx.K6 a.2.1 a.2.2),λa c b=>by simp at b;rw[gY.inj b.1,b.2.1,b.2.2]⟩
def JY:wL.Ok prog cx 28:=by
 refine iq [] (jr 18463641368405213903 [] func28) (λ_=>100) (by simp[wL]) ?_;rintro⟨g,a,b⟩ ⟨l,p,z⟩ h E;simp only at l p z;simp[wL]at E|-;obtain⟨C,u,v⟩:=E;have⟨i,a1,a2,a3,a4,a5⟩:=l.w.at p;have⟨X,B,ae,K,al,an⟩:=l.w.at z;have⟨Z,I,Q,R,aX⟩:=l.st p;have⟨T,U,V,W⟩:=BQ R a4;have d:=GX.K6.eq_1 g.w.gx a b;rw[a3,K,Q,W]at d;generalize g.w.gx.K6 a b=J at*
 obtain⟨c,rfl,av⟩:=kZ.nat p;obtain⟨e,rfl,aE⟩:=kZ.nat z;have aN:=l.w.ok.len;rw[cm]at a1 B I;have N:=Ut g.w.gx (lo:=(c:Int)+1) (hi:=e) (a:=c+1) (b:=e) (GX.Gw i.eg) D rfl;rw[N,show g.w.gx.ev=g.w.dY from rfl]at d;have M:binop .add (G (c:Int)) (G 1)=some (G ((c:Int)+1)):=iZ D D;have S:kT ((c:Int)+1)=some (c+1):=by have:=fy (show(0:Int)<=((c+1:Nat):Int)by omega);simpa using this
 by_cases aA:c<e;rotate_left
 ·rw[aO (show¬(c:Int)<e by omega)]at d;simp[f28,C,u,v,d,show e<=c by omega,a1]
 rw[bI (show(c:Int)<e by omega),bg]at d;simp[f28,C,u,v,show¬e<=c by omega,a1,B,I,U,V];refine fw (λk=>?_) (λk=>?_)
 ·have:J=false:=by
   rw[d];cases O:decide (X.eg=i.eg)<;>cases P:T.atomic<;>simp[O,P]at k|-
  simp[this]
 simp only[cP,cT]at k;rw[k.1,k.2]at d;simp[-List.length_take,-List.length_drop,u,v,M,S,show c+1<=e by omega,show e<=g.w.dY.length by omega];have ap:((g.w.dY.drop (c+1)).take (e-(c+1))).length<=16:=dN;generalize(g.w.dY.drop (c+1)).take (e-(c+1))=j at*
 refine gu j.length D (λq h s=>iE 1 s/\(j.drop q).all (GX.Gw i.eg)=j.all (GX.Gw i.eg)/\dT h 7 (G i.eg)/\dT h 50 (sl (j.map fk.t))/\dT h 51 (G j.length)/\dT h 52 (G q)) ?_ ?_ D ?_
 ·rintro q h s H L ⟨m,f,y,x,n,o⟩;rw[aH H,cB]at f;simp[y,x,n,o,m.low,H];generalize j[q]=r at*
  have F:GX.Gw i.eg r= !(decide (r.eg=i.eg)&&decide (r.kind=15)):=rfl;refine fw (λA=>?_) (λA=>?_)
  ·rw[F,A]at f;rw[<-f]at d;simp at d;simp[d,m.hp]
  ·rw[F,A]at f;simp[y,x,n,o,L];exact⟨m.cons _,by simpa using f⟩
 ·rintro h s ⟨m,f,y,x,n,o⟩;rw[bU]at f;rw[<-f]at d;simp at d;simp[n,o,m.hp,d]
 ·simp
def xZ:iy:=⟨gY×iX,λe=>[e.1.t,e.2.t],λe=>yw e.1/\ju e.2.a e.1.w.dY.length=true/\ju e.2.b e.1.w.dY.length=true/\ju e.2.c e.1.w.dY.length=true/\ju e.2.d e.1.w.dY.length=true,λe=> .bool (e.1.w.gx.brk e.2.a e.2.b e.2.c e.2.d),λe g f=>by simp at f;rw[gY.inj f.1,iX.inj f.2]⟩
def PY:xZ.Ok prog cx 65:=by
 refine iq [(104,uS)] (jr 63 [] func65) (λ_=>100) (by simp[xZ]) ?_;rintro⟨a,⟨H,b,c,d,f,I⟩⟩ ⟨g,h,q,i,j⟩ L o;simp only at g h q i j;simp[xZ]at o|-;obtain⟨y,z⟩:=o;have⟨M,a1,a2,a3,a4,a5⟩:=g.w.at h;have⟨J,r,s,t,B,C⟩:=g.w.at i;have⟨K,u,v,x,E,F⟩:=g.w.at j;have n:=GX.brk.eq_1 a.w.gx b c d f;have l:=λ{k:gG} (ht:k.p 104=some uS)=>DR ht a b d h i;have m:=λ{k:gG} (ht:k.p 104=some uS)=>DR ht a f c j q;rw[show lL a.w.dY b=a.w.gx.e b from rfl,show lL a.w.dY d=a.w.gx.e d from rfl]at l;rw[show lL a.w.dY f=a.w.gx.e f from rfl,show lL a.w.dY c=a.w.gx.e c from rfl]at m;generalize a.w.gx.brk b c d f=A at*
 generalize nD (a.w.gx.e b) (a.w.gx.e d)=p1 at*
 generalize nD (a.w.gx.e f) (a.w.gx.e c)=p2 at*
 rw[a3,t,x]at n;simp[f65,y,z,a1,a2,r,s,u,v,l,m,n]
def AT:iy:=⟨gY×List Int,λa=>[a.1.t,sl (a.2.map (T.int .i64))],λa=>yw a.1/\a.2.length<=1000000,λa=> .bool (a.1.w.gx.KR a.1.w.gx.sP a.2),λa c b=>by simp at b;rw[gY.inj b.1,jH Y b.2]⟩
def K4{d:gG}(ht:d.p 67=some rV)(a:gY)(c b:Int)(g:yw a)(e:ju c a.w.dY.length=true)(f:ju b a.w.dY.length=true):rl prog cx d 67 [a.t,G c,G b]=some (.bool (a.w.gx.sP c b)):=iA ht PZ (a,c,b) ⟨g,e,f⟩
def SS:AT.Ok prog cx 62:=by
 refine iq [(67,rV),(64,ry)] (jr 2361217299907134620023 [] func62) (λ_=>100) (by simp[AT]) ?_;rintro⟨f,a⟩ ⟨C,bp⟩ g X;simp only at C bp;simp[AT]at X|-;obtain⟨aX,i⟩:=X;have bN:=C.w.ok.len;have⟨E,s⟩:∃E,f.w.gx.KR f.w.gx.sP a=E:=⟨_,rfl⟩;rw[s];simp[f62,aX,i,IR,show a.length<=1099511627776 by omega];refine fw (λB=>?_) (λB=>?_)
 ·have:E=false:=by
   rw[<-s];simp only[cr,aK,cj]at B;rcases B with(h|h)|h
   ·exact yR D
   ·exact yR D
   ·unfold nZ at h;rw[List.all_eq_false]at h;obtain⟨d,v,bu⟩:=h;obtain⟨b,ap,rfl⟩:=List.mem_iff_getElem.1 v;exact yR (.inr (.inr (.inl ⟨b,ap,by simp[List.getD,ap];exact(by simpa using bu:ju a[b] f.w.dY.length=false)⟩)))
  simp[this]
 simp only[cP,cT,bZ]at B;obtain⟨⟨bS,bT⟩,aA⟩:=B;have bi:2<=a.length:=D;have bn:a.length<=4:=D;have z:∀c (j:c<a.length),ju a[c] f.w.dY.length=true:=λc j=>by
  unfold nZ at aA;exact List.all_eq_true.1 aA _ (aC j)
 have bs:∀c<a.length,ju (a.getD c 0) f.w.gx.ev.length=true:=λc j=>by simp[List.getD,j];exact z c j
 simp[i];generalize Q:H.cons _ _=J;have W:J.get 0=some (dS 16 0 [f.t]):=by rw[<-Q];simp
 have V:Hp J:=by rw[<-Q];simp
 clear Q;refine gu a.length D (λb g h=>J=h/\(∀c<b,IE f.w.gx f.w.gx.sP a c=true)/\dT g 1 (sl (a.map (T.int .i64)))/\dT g 2 (.ptr 0 0 0 0)/\dT g 23 (sl (a.map (T.int .i64)))/\dT g 24 (G a.length)/\dT g 25 (G b)) ?_ ?_ D ?_
 ·rintro b g _ A Z ⟨rfl,R,i,l,r,n,o⟩;have U:∀c (j:c<a.length),a.getD c 0=a[c]:=λc j=>by simp[List.getD,j]
  have M:0<a.length:=D;have av:=Vt (b+1) a.length D D;have L:(b+1)% a.length<a.length:=Nat.mod_lt _ M;have u:IE f.w.gx f.w.gx.sP a b=(!decide (a[b]<a[0])&&f.w.gx.sP (a[(b+1)% a.length]'L) a[b]&&(List.range b).all λd=> !decide ((f.w.gx.e a[b]).eg=(f.w.gx.e (a.getD d 0)).eg)):=by unfold IE;rw[U _ A,U _ M,U _ L]
  generalize(b+1)% a.length=m at*
  have aN:=λ{bB:gG} (ht:bB.p 67=some rV)=>K4 ht f a[m] a[b] C (z m L) (z b A);have⟨x,a1,a2,a3,a4,a5⟩:=C.w.at (z b A);rw[a3]at u;simp at av;have ae:IE f.w.gx f.w.gx.sP a b=false->E=false:=λh=>by rw[<-s];exact yR (.inr (.inr (.inr ⟨b,A,h⟩)))
  simp[W,i,l,r,n,o,A,Z,M,av,L,aN];refine fw (λk=>?_) (λk=>?_)
  ·have:IE f.w.gx f.w.gx.sP a b=false:=by
    rw[u,dC];intro h;simp only[ax,cj,bZ]at h;simp[h.1.2]at k;omega
   simp[ae this,V]
  ·simp only[cP,cT,bZ]at k;rw[k.2,aO k.1]at u;simp[-List.length_take,i,show b<=a.length by omega];have⟨q,P⟩:∃q,q=a.take b:=⟨_,rfl⟩;rw[<-P];have a8:q.length=b:=by rw[P];simp;omega
   have bA:∀d (v:d<q.length) (hl:d<a.length),q[d]=a[d]:=λd v hl=>by subst P;exact List.getElem_take
   refine gu b D (λd g h=>J=h/\(∀c<d,decide (x.eg=(f.w.gx.e (a.getD c 0)).eg)=false)/\dT g 1 (sl (a.map (T.int .i64)))/\dT g 2 (.ptr 0 0 0 0)/\dT g 6 (G a[b])/\dT g 23 (sl (a.map (T.int .i64)))/\dT g 24 (G a.length)/\dT g 25 (G b)/\dT g 51 (sl (q.map (T.int .i64)))/\dT g 52 (G b)/\dT g 53 (G d)) ?_ ?_ D ?_
   ·rintro d g _ an a7 ⟨rfl,S,i,l,O,r,n,o,N,F,I⟩;have K:d<a.length:=D;have⟨y,bC,bH,aE,bW,bX⟩:=C.w.at (z d K);have al:d<q.length:=D;have a6:=bA d al K;simp[W,l,O,N,F,I,an,al,a6,a1,a2,bC,bH];refine fw (λk=>?_) (λk=>?_)
    ·have:IE f.w.gx f.w.gx.sP a b=false:=by
      rw[u];simp;exact⟨d,an,by simpa[K,aE]using k⟩
     simp[ae this,V]
    ·simp[i,l,O,r,n,o,N,F,I,a7];intro c j;rcases aS c d with h|h
     ·simpa using S c h
     ·rw[show c=d by omega];simp[K,aE];simpa using k
   ·rintro g _ ⟨rfl,S,i,l,O,r,n,o,N,F,I⟩;simp[i,l,r,n,o,F,I,Z];intro c j;rcases aS c b with h|h
    ·exact R c h
    ·rw[show c=b by omega,u];simp;intro d v;simpa using S d v
   ·simp[i,l,r,n,o,a8]
 ·rintro g _ ⟨rfl,R,i,l,r,n,o⟩;rw[TP bi bn bs R]at s;simp[n,o,s.symm,V]
 ·simp[i]
theorem kZ.cells{a:ej}(g:kZ a):I5 a:=λd h e=>by
 have⟨i,f⟩:=cN h;have hl:i<a.dY.length:=(List.getElem?_eq_some_iff.1 f).1;have⟨k,b,l,m,n,c⟩:=g.at (i:=i) (fI.2 ⟨D,by simpa using hl⟩);rw[cm,f]at b;simp only[ar]at b;subst b;have j:d.kind=3\/d.kind=4:=by unfold uG at e;simpa using e
 unfold jN at c;rw[ao D,aq j]at c;exact c
def K1{f:gG}(ht:f.p 64=some ry)(a:gY)(b c d e:Int):rl prog cx f 64 [a.t,sl [G b,G c,G d,G e]]=some (.bool (ju b a.w.dY.length&&ju c a.w.dY.length&&ju d a.w.dY.length&&ju e a.w.dY.length)):=by
 have:=IR ht a [b,c,d,e] Y;simpa[nZ,Bool.and_assoc]using this
def Ry{a:gY}(d:yw a)(b c:Int):CJ a.w b c=((ju b a.w.dY.length&&ju c a.w.dY.length)&&a.w.gx.Zt b c):=by
 unfold CJ GX.Zt GX.e ej.gx;cases ju b a.w.dY.length<;>cases ju c a.w.dY.length<;>simp
 ac_rfl
def wG:iy:=⟨gY×iX,λa=>[a.1.t,a.2.t],λa=>yw a.1/\a.2.kc.length<=1000000,λa=> .bool (a.1.w.gx.vG a.2),λa c b=>by simp at b;rw[gY.inj b.1,iX.inj b.2]⟩
def Sg:wG.Ok prog cx 26:=by
 refine iq [(61,BV),(62,AT),(63,Ek),(64,ry),(28,wL),(65,xZ)] (jr 2417851783344448572752095 [] func26) (λ_=>100) (by simp[wG]) ?_;rintro⟨f,e⟩ ⟨j,v⟩ I u;simp only at j v;simp[wG]at u|-;obtain⟨l,m⟩:=u;have g:=GX.vG.eq_1 f.w.gx e;simp only[show∀x,f.w.gx.CV x=ju x f.w.dY.length from λ_=>rfl]at g;generalize f.w.gx.vG e=H at*
 cases i:decide (e.kind=1)with
 |true=>
  rw[aq (by simpa using i)]at g;have o:∀{h:gG},h.p 61=some BV->rl prog cx h 61 [f.t,G e.a,G e.b]=some (.bool ((ju e.a f.w.dY.length&&ju e.b f.w.dY.length)&&f.w.gx.Zt e.a e.b)):=λht=>by rw[<-Ry j];exact aaU ht f e.a e.b j.w.cells
  simp[f26,l,m,i,o,g]
  try ac_rfl
 |false=>
  rw[ao (by simpa using i)]at g;cases k:decide (e.kind=2)with
  |true=>
   rw[aq (by simpa using k)]at g;have o:∀{h:gG},h.p 62=some AT->rl prog cx h 62 [f.t,sl (e.kc.map (T.int .i64))]=some (.bool (f.w.gx.KR f.w.gx.sP e.kc)):=λht=>iA ht SS (f,e.kc) ⟨j,v⟩;simp[f26,l,m,i,k,o,g,GX.dead]
  |false=>
   rw[ao (by simpa using k)]at g;cases n:decide (e.kind=3)with
   |true=>
    rw[aq (by simpa using n)]at g;have o:∀{h:gG},h.p 63=some Ek->rl prog cx h 63 [f.t,G e.a,G e.b]=some (.bool ((ju e.a f.w.dY.length&&ju e.b f.w.dY.length)&&f.w.gx.Yx e.a e.b)):=λht=>iA ht VQ (f,e.a,e.b) j;simp[f26,l,m,i,k,n,o,g]
    try ac_rfl
   |false=>
    rw[ao (by simpa using n)]at g;cases q:decide (e.kind=4)with
    |false=>
     rw[ao (by simpa using q)]at g;simp[f26,l,m,i,k,n,q,g]
    |true=>
     rw[aq (by simpa using q)]at g;cases r:(ju e.a f.w.dY.length&&ju e.b f.w.dY.length&&ju e.c f.w.dY.length&&ju e.d f.w.dY.length)with
     |false=>
      rw[r]at g;cases s:decide (e.kc=[])<;>simp[f26,l,m,i,k,n,q,K1,iF,r,g,s]
     |true=>
      rw[r]at g;have A:=r;simp only[ax]at A;obtain⟨⟨⟨y,z⟩,E⟩,F⟩:=A;have B:∀{h:gG},h.p 28=some wL->rl prog cx h 28 [f.t,G e.a,G e.b]=some (.bool (f.w.gx.K6 e.a e.b)):=λht=>iA ht JY (f,e.a,e.b) ⟨j,y,z⟩;have C:∀{h:gG},h.p 65=some xZ->rl prog cx h 65 [f.t,e.t]=some (.bool (f.w.gx.brk e.a e.b e.c e.d)):=λht=>iA ht PY (f,e) ⟨j,y,z,E,F⟩;cases s:decide (e.kc=[])<;>simp[f26,l,m,i,k,n,q,K1,iF,r,B,C,g,s]
def Oz{c:gG}(ht:c.p 26=some wG)(b:gY)(a:iX)(d:yw b)(hl:a.kc.length<=1000000):rl prog cx c 26 [b.t,a.t]=some (.bool (b.w.gx.vG a)):=iA ht Sg (b,a) ⟨d,hl⟩
def cv8(b:H)(a:Int)(c:0<=a)(d:a<256):cvK cx b 285 5 ty5 (.int .u64 a)=some (.val (.int .u8 a) b):=by
 refine IJ TU rfl ?_;rw[kh];unfold IntKind.wrap;simp[IntKind.bits,IntKind.signed];omega
def NN:o9 prog cx 180 (λa:Nat=>[.int .u64 a]) (λa=>a<=11) (λ_=>Hm):=by
 refine jL [] (jr 16661 [] func180) (λ_=>10) (λe f c=>by simp at c;omega) ?_;rintro(a:Nat) g h b;simp at b;have d:a=0\/a=1\/a=2\/a=3\/a=4\/a=5\/a=6\/a=7\/a=8\/a=9\/a=10\/a=11:=D;rcases d with rfl|rfl|rfl|rfl|rfl|rfl|rfl|rfl|rfl|rfl|rfl|rfl<;>simp at b<;>simp[f180,b,cv8,pP]
def UO{c:jB}{g h:Nat}{d:DL}(i b:Code)(e:Env)(f:H)(a:jp):W (j4 cx c h g d (.cond (.const (Value.bool false)) i b) e f) a=W (j4 cx c h g d b e f) a:=rfl
def Ys:o9 prog cx 139 (λa:Nat=>[.int .u64 a]) (λa=>a<=11) (λ_=>Hm):=by
 refine jL [(180,NN.jX)] (jr 5 [] func139) (λ_=>10) (λf g d=>by simp at d;omega) ?_;rintro(a:Nat) e i b;simp at b;obtain⟨_,⟨h,rfl⟩,c⟩:=NN.use a e;simp[f139,b,c,UO]
def Yd(a:US)(c:List T)(b:H):Prop:=c=[a.v]/\Gr b a.v 1 (ij (a.A++[a.t]))/\iE 0 b/\Lj a.A/\a.t∉a.A/\a.A.length<=10
def cvu(b:H)(a:Int)(c:0<=a)(d:a<256):cvK cx b 3 236 Q8 (G a)=some (.val (.int .u64 a) b):=by
 refine IJ WB rfl ?_;rw[kh];unfold IntKind.wrap;simp[IntKind.bits,IntKind.signed];omega
def ZI:(jY US Yd HZ).Ok prog cx 98:=by
 refine jV (tb:=⟨pt [(139,Ys.jX)],ht [(138,jY (US×Int) Ye RR)]⟩) jg iT (jr 5 [] func98) (λ_ _=>100) (λs q c l=>by obtain⟨rfl,_⟩:=l;simp[f98]) ?_;rintro⟨a,h,i⟩ _ c ⟨rfl,b,p,e,ht,hl⟩ u f;simp only at b e ht hl;simp at f;have g:=λk:H=>b.len (cx:=cx) k pf _ rfl;simp at g;have m:Gr (TI.hr c) i 1 (ij (a++[h])):=b.mono λj _=>iI c j;obtain⟨_,⟨o,rfl⟩,d⟩:=Ys.use (a.length+1) D;simp at d;simp[f98,f,g,cvu,show(a.length:Int)+1<256 by omega,show(0:Int)<=(a.length:Int)+1 by omega,d];refine jm adL Y (⟨a,h,i⟩,o) ⟨Y,m,p.hr,e,ht,hl⟩ ?_;rintro t r n;simp;exact YV.out n
structure ICo where
 (l:List Int) (v:T)
def Yn(a:ICo)(c:List T)(b:H):Prop:=c=[a.v]/\Gr b a.v 1 (ij a.l)/\iE 0 b/\Lj a.l/\a.l.length<=1000
def R0(c:ICo)(e:List T)(a:H)(d:T)(b:H):Prop:=d=c.v/\Nb a b
def PX:(jY ICo Yn R0).Ok prog cx 99:=by
 refine jV (tb:=⟨pt [],ht []⟩) jg iT (jr 17596514574653 [] func99) (λ_ _=>1005) (λi E a A=>by obtain⟨rfl,_⟩:=A;simp[f99]) ?_;rintro⟨b,f⟩ _ a ⟨rfl,h,C,m,hl⟩ g c;simp only at h m hl;simp at c;have e:=λw:H=>h.len (cx:=cx) w pf _ rfl;rw[aG]at e;have n:Gr (TI.hr a) f 1 (ij b):=h.mono λq _=>iI a q;have o:Nb a (mK a (TI.hr a)):=(Nb.refl C.hr).out;simp[f99,c,e];refine fw (λp=>?_) (λp=>?_)
 ·simp[c];exact⟨rfl,o⟩
 have J:2<=b.length:=by simp at p;omega
 simp;refine uH b.length (λk g v=>TI.hr a=v/\1<=k/\dT g 0 f/\dT g 3 (G k)) ?_ D (k:=1) D (by simp[c]);rintro k g _ I ⟨rfl,F,j,l⟩;by_cases d:k<b.length
 ·have y:binop .add (G (k:Int)) (G 1)=some (G ((k:Int)+1)):=iZ D D;have B:binop .sub (G (k:Int)) (G 1)=some (G ((k-1:Nat):Int)):=by rw[lJ D D];congr 2;omega
  have⟨p1,r,s⟩:=(show qA (TI.hr a) 1 f _ from .inr n).idx (te:=D3) rfl rfl (i:=k) (x:= G b[k]) (by simp[d]) rfl;have⟨p2,t,u⟩:=(show qA (TI.hr a) 1 f _ from .inr n).idx (te:=D3) rfl rfl (i:=k-1) (x:= G b[k-1]) (by simp[show k-1<b.length by omega]) rfl;have z:¬b[k]=b[k-1]:=by
   have:=List.pairwise_iff_getElem.1 m (k-1) k D d D;omega
  simp[j,l,e,d,B,r,s,t,u,z,y];exact⟨k+1,D,D,D,Y⟩
 ·simp[j,l,e,d];exact⟨rfl,o⟩
structure Nk where
 (P Q:List Int) (t:Int) (v:T) (b:Nat) (bx:jv)
def fnT(a:Nk):T:= .func 101 [.ptr a.b 0 0 0]
def eQ(c:H)(a:Nk):Prop:=c.get a.b=some (dS 1 0 [G a.t])
def RM(a:Nk×Int)(d:List T)(c:H):Prop:=d=[G a.2,.ptr a.1.b 0 0 0]/\eQ c a.1/\iE 0 c
def LV(a:Nk×Int)(e:List T)(b:H)(d:T)(c:H):Prop:=d= .bool (decide (a.2=a.1.t))/\Nb b c
def SP:(jY (Nk×Int) RM LV).Ok prog cx 101:=by
 refine jV (tb:=⟨pt [],ht []⟩) jg iT (jr 11 [] func101) (λ_ _=>10) (λo m a h=>by obtain⟨rfl,_⟩:=h;simp[f101]) ?_;rintro⟨⟨k,l,j,p,b,n⟩,r⟩ _ a ⟨rfl,f,i⟩ q c;simp at c;obtain⟨d,e⟩:=c;have g:(TI.hr a).get b=some (dS 1 0 [G j]):=(iI a b).trans f;simp[f101,d,e,g];exact⟨rfl,(Nb.refl i.hr).out⟩
def Yj(a:Nk)(c:List T)(b:H):Prop:=c=[a.v,fnT a]/\eQ b a/\iE 0 b/\Gr b a.v 1 (ij (a.P++a.t::a.Q))/\a.t∉a.P/\a.P.length+a.Q.length<=1000
def RW(c:Nk)(e:List T)(a:H)(d:T)(b:H):Prop:=d= G c.P.length/\Nb a b
def JN:(jY Nk Yj RW).Ok prog cx 140:=by
 refine jV (tb:=⟨pt [],ht [(101,jY (Nk×Int) RM LV)]⟩) jg iT (jr 66483 [] func140) (λ_ _=>2000) (λi Q p K=>by obtain⟨rfl,_⟩:=K;simp[f140]) ?_;rintro⟨a,e,j,l,o,A⟩ _ p ⟨rfl,u,O,m,ht,hl⟩ d t;simp only at m ht hl;simp[fnT]at t;obtain⟨g,c⟩:=t;have v:=λc:H=>m.len (cx:=cx) c pf _ rfl;simp at v;have z:∀b,eG l=some b->b<p.size:=λb q=>by have⟨_,_,_,_,N,_⟩:=m.box q;exact H.fG N
 simp[f140,g,v];refine uH a.length (λk d f=>Nb (TI.hr p) f/\dT d 0 l/\dT d 1 (.func 101 [.ptr o 0 0 0])/\dT d 7 (G ((a.length:Int)+((e.length:Int)+1)))/\dT d 8 (G k)) ?_ D (k:=0) D ⟨Nb.refl O.hr,by simp[g,c]⟩;rintro k d f S ⟨h,g,c,r,s⟩;have P:iE 0 f:=⟨h.ok.hp,h.ok.low,aw _⟩;have y:=h.hr;have E:Gr f l 1 (ij (a++j::e)):=m.mono λb q=>y.get b (z b q);have F:binop .add (G (k:Int)) (G 1)=some (G ((k:Int)+1)):=iZ D D;have⟨x,n⟩:∃x,(a++j::e)[k]? =some x:=⟨_,az dN⟩;have⟨p1,B,C⟩:=(show qA f 1 l _ from .inr E).idx (te:=D3) rfl rfl (i:=k) (x:= G x) (by rw[aR,n];rfl) rfl;simp[g,c,r,s,show(k:Int)<(a.length:Int)+((e.length:Int)+1)by omega,B,C];refine jm SP Y (⟨a,e,j,l,o,A⟩,x) ⟨rfl,(y.get o (H.fG u)).trans u,P⟩ ?_;rintro _ R ⟨rfl,w⟩;simp;by_cases J:k<a.length
 ·have L:¬x=j:=by
   rw[cv J]at n;rintro rfl;exact ht (ay n)
  simp[g,c,r,s,L,F];exact⟨k+1,D,D,h.trans w,Y⟩
 ·have I:k=a.length:=D;subst I;have M:x=j:=by simpa using n.symm
  simp[M];exact⟨rfl,(h.trans w).out⟩
def Zh(f:H)(g j:Ty)(h:ab)(b d e a c:Nat)(k:jv)(i:g.u= .slice h)(ht:cx.ty h=some j)(m:f.get b=some k)(o:k.sz=j.size)(n:c<=a):Ji cx f g (.arr b d e a false) (some c) none none=some (.val (.arr b d (e+c) (a-c) false) f):=by
 unfold Ji;have l:jI cx f g.u (.arr b d e a false)=true:=by
  rw[i];unfold jI;simp only[ht,m,o,Nat.beq_refl]
 rw[l,iR,show A9 none none=true from rfl,iR,show asSlice g.u (.arr b d e a false)= .arr b d e a false by rw[i];rfl];show val f (iG (Nat.ble c a) (iG (Nat.ble a a) (Z (iQ (Nat.add e c)) λq=>Z (iQ (Nat.sub a c)) λp=>some (T.arr b d q p false))))=_;simp[n]
def S9{d:Nat}{b:Env}{c:H}(a:List ah)(e:af ab):jT (.call ⟨.builtin .clear,a.toArray,e⟩) cx d b c=Z (iu (ir cx d b) a) λf=>mH .clear cx c e.toList f:=by
 show(Z (r7 cx d b a) λa=>mH .clear cx c e.toList a)=_;rw[Jz]
def aaP{b:H}{c a g d:Nat}{f:Bool}{e:List T}(l:Hp b)(h:b.get c=some ⟨1,a,g,f,false,e⟩)(k:d<e.length):mH .clear cx b [38] [.arr c a d 1 false]=some (.val .undef (fg b c ⟨1,a,g+1,f,false,e.set d (G 0)⟩)):=by
 show FW cx b 38 (.arr c a d 1 false)=_;unfold FW qt;rw[kx,eJ];simp only[show pf.u= .slice 3 from rfl,mP,eJ];rw[h,eJ];simp only[Jt l (H.fG h)];show iG (Nat.beq a a) (iG (Nat.beq 1 1) (Z (mg e d [G 0]) λi=>Z (iQ g.succ) λm=>Z (some (fg b c ⟨1,a,m,f,false,i⟩)) λj=>some (mS.val T.undef j)))=_;rw[vM,aq dN,Nat.beq_refl,iR,show Nat.beq 1 1=true from rfl,iR,eJ,jd,eJ,eJ,List.set_eq_take_append_cons_drop,aq k];simp
def Ym(a:Nk)(d:List T)(c:H):Prop:=d=[a.v,fnT a]/\eQ c a/\iE 0 c/\Gr c a.v 1 (ij (a.P++a.t::a.Q))/\a.t∉a.P/\a.t∉a.Q/\a.P.length+a.Q.length<=1000/\eG a.v≠some a.b
def RZ(b:Nk)(f:List T)(c:H)(e:T)(d:H):Prop:=Gr d e 1 (ij (b.P++b.Q))/\eG e=eG b.v/\iE c.size d/\∀a,a<c.size->eG b.v≠some a->d.get a=c.get a
def TO{P b:List Int}{t:Int}{a:Nat}(d:a<b.length):(ij (P++b.take a++(t::b).drop a)).set (P.length+a) (G b[a])=ij (P++b.take (a+1)++(t::b).drop (a+1)):=by
 rw[<-aU,List.set_append_right _ _ dN];have c:(t::b).drop a=(t::b)[a]' dN::(t::b).drop (a+1):=aH dN;rw[c,show P.length+a-(P++b.take a).length=0 by simp;omega,cA,aM d];show ij _=ij _;congr 1;simp only[aZ,cM,cG]
def H6:(jY Nk Ym RZ).Ok prog cx 100:=by
 refine jV (tb:=⟨pt [],ht [(101,jY (Nk×Int) RM LV),(140,jY Nk Yj RW)]⟩) jg iT (jr 537399539 [] func100) (λ_ _=>2000) (λi a h bT=>by obtain⟨rfl,_⟩:=bT;simp[f100]) ?_;rintro⟨P,c,t,I,A,ap⟩ _ h ⟨rfl,V,cb,C,a7,a8,hl,al⟩ z aN;simp only at C a7 a8 hl al;simp[fnT]at aN;obtain⟨s,p⟩:=aN;have M:=λp:H=>C.len (cx:=cx) p pf _ rfl;simp at M;have bp:∀b,eG I=some b->b<h.size:=λb g=>by have⟨_,_,_,_,b9,_⟩:=C.box g;exact H.fG b9
 simp[f100,s,p];refine jm JN Y ⟨P,c,t,I,A,ap⟩ ⟨rfl,(iI h A).trans V,cb.hr,C.mono λb _=>iI h b,a7,hl⟩ ?_;rintro _ c9 ⟨rfl,ca⟩;have bA:binop .add (G (P.length:Int)) (G 1)=some (G ((P.length:Int)+1)):=iZ D D;simp[show¬((P.length:Int)=-1)by omega,bA];have an:=ca.hr;refine uH c.length (λd z h'=>iE h.size h'/\Gr h' I 1 (ij (P++c.take d++(t::c).drop d))/\(∀b,b<h.size->eG I≠some b->h'.get b=h.get b)/\dT z 0 I/\dT z 1 (.func 101 [.ptr A 0 0 0])/\dT z 5 (G ((P.length+d:Nat):Int))/\dT z 6 (G ((P.length+d+1:Nat):Int))) ?_ D (k:=0) D ⟨an.ok,by simpa using C.mono λb g=>an.get b (bp b g),λb g _=>an.get b g,by simp[s,p]⟩;rintro d z h' dd ⟨w,E,S,s,p,T,J⟩;have bi:iE 0 h':=⟨w.hp,w.low,aw _⟩;have⟨i,aX⟩:∃i,i=P.length+d:=⟨_,rfl⟩;have⟨j,u⟩:∃j,j=P.length+(c.length+1):=⟨_,rfl⟩;have bN:(P.length:Int)+((c.length:Int)+1)=j:=D;rw[<-aX]at T J;rw[bN]at M;have U:(ij (P++c.take d++(t::c).drop d)).length=j:=dN;have bB:binop .add (G (i:Int)) (G 1)=some (G ((i:Int)+1)):=iZ D D;have bC:binop .add (G ((i:Int)+1)) (G 1)=some (G ((i:Int)+1+1)):=iZ D D;by_cases ae:d<c.length
 ·have B:(P++c.take d++(t::c).drop d)[i+1]? =some c[d]:=by
   rw[cZ dN,bM];rw[show d+(i+1-(P++c.take d).length)=d+1 by simp;omega];simp[ae]
  have⟨f,bs⟩:∃f,(P++c.take d++(t::c).drop d)[i]? =some f:=⟨_,az dN⟩;have⟨e,m,y,q,o,n,l,L,K⟩:=E.at (x:= G c[d]) (i:=i+1) (by rw[aR,B];rfl);have⟨cL,c1,de,c6,dk,W,X,b7,a6⟩:=E.at (x:= G f) (i:=i) (by rw[aR,bs];rfl);rw[n]at W;simp at W;obtain⟨rfl,rfl⟩:=W;rw[l]at X;simp at X;obtain⟨rfl,rfl,rfl⟩:=X;rw[U]at n K a6;have av:=TO (P:=P) (t:=t) ae;rw[<-aX]at av;generalize bX:c[d]=O at*
  have b6:¬O=t:=λk=>a8 (by rw[<-k,<-bX];exact aC ae);subst n;simp at al;have cF:kT ((i:Int)+1)=some (i+1):=by have:=fy (show(0:Int)<=((i+1:Nat):Int)by omega);simpa using this
  simp[s,p,J,M,show(i:Int)+1<j by omega,cF,l,L,K];refine jm SP Y (⟨P,c,t,.arr e m 0 j false,A,ap⟩,O) ⟨rfl,(S A (H.fG V) (by simpa using al)).trans V,bi⟩ ?_;rintro _ F ⟨rfl,v⟩;have Z:=(v.get e (H.fG l)).trans l;have r:∀f b,(fg F e f).get b=if b=e then some f else F.get b:=λf b=>ee Z f b;simp[s,p,T,J,b6,Z,b7,a6,bB,bC];have N:iE h.size F:=⟨v.ok.hp,v.ok.low,aQ w.sz v.ok.sz⟩;have aE:=(E.mono (h':=F) λb g=>v.get b (by simp at g;have:=H.fG l;omega)).setAt rfl Z i (G O) (h':=fg F e ⟨1,m,y+1,q,false,o.set i (G O)⟩) (ver2:=y+1) (ex2:=q) (by rw[r,aq rfl]);rw[av,aZ]at aE;have dn:=w.sz;exact⟨d+1,D,D,N.put _ _,aE,λb g u=>by rw[r,ao (λQ=>u Q.symm),v.get b D];exact S b g (by simpa using u),D⟩
 ·have bH:d=c.length:=D;subst bH;have⟨e,m,y,q,o,n,l,L,K⟩:=E.at (x:= G ((P++c.take c.length++(t::c).drop c.length)[i]' dN)) (i:=i) (by rw[aR,az dN];rfl);rw[U]at n K;have b8:i<o.length:=by
   rcases aS i o.length with k|k
   ·exact k
   ·rw[bP k]at L;simp at L
  have bu:o.take j=ij (P++c.take c.length++(t::c).drop c.length):=by
   rcases E with⟨rfl,_⟩|⟨cX,c4,di,c7,dm,B,R,aA⟩
   ·simp at n
   ·rw[n]at B;simp at B;obtain⟨rfl,rfl,_⟩:=B;rw[l]at R;simp at R;obtain⟨_,_,rfl⟩:=R;rw[U]at aA;exact aA
  subst n;have r:∀f b,(fg h' e f).get b=if b=e then some f else h'.get b:=λf b=>ee l f b;have bS:j-i=1:=D;have bn:=Zh h' pf D3 _ e m 0 j i _ rfl mP l rfl D;rw[bS,cJ]at bn;have cp:=Nz (cx:=cx) (h:=fg h' e ⟨1,m,y+1,q,false,o.set i (G 0)⟩) pf D3 _ e m 0 j i false _ rfl mP (by rw[r,aq rfl]) rfl D;simp[s,T,J,M,show¬(i:Int)+1<j by omega,bn,S9,aaP bi.hp l b8,cp];have N:=(w.put e ⟨1,m,y+1,q,false,o.set i (G 0)⟩).out h;refine⟨.inr ⟨e,m,y+1,q,o.set i (G 0),?_,by rw[il,r,aq rfl],?_⟩,rfl,⟨N.hp,N.low,by simpa using w.sz⟩,λb g u=>by
   rw[il,r,ao (λQ=>u (by rw[Q];rfl))];exact S b g u⟩
  ·simp;omega
  ·have bW:(ij (P++c)).length=i:=dN;rw[bW,List.take_set_of_le (au _)];have:=bO (List.take i) bu;rw[List.take_take,cy D]at this;rw[this,aI];show List.take i (ij (P++c++(t::c).drop c.length))=ij (P++c);rw[ij,List.map_append,dj dN,bL dN]
section
def UE{g i:Type}{f:g->i->Prop}:∀{b:List g} {a:List i},b.length=a.length->(∀(d:Nat) e c,b[d]? =some e->a[d]? =some c->f e c)->jh f b a:=by
 intro b;induction b with
 |nil=>intro a hl _;cases a with
  |nil=>exact .nil
  |cons c a=>simp at hl
 |cons e b l=>intro a hl h;cases a with
  |nil=>simp at hl
  |cons c a=>exact .cons (h 0 e c rfl rfl) (l (by simpa using hl) λd m n j k=>h (d+1) m n (by simpa using j) (by simpa using k))
def IZ{b c:Type}{d:b->c->Prop}{f:List b}{g:List c}(k:jh d f g){e:Nat}{i:b}{j:c}(l:f[e]? =some i)(m:g[e]? =some j):d i j:=by
 have⟨o,a,n⟩:=k.get m;rw[l]at a;simp only[ar]at a;rw[a];exact n
structure F7(w:fc)(t:Int)(c0 c2 c3:T)(h:H)(es:List T)(S:gh)(ver:Nat):Prop where
 sy:Dp 4 h.size h c0 c2 c3 es S
 ok:iE 0 h
 g0:h.get 0=some (dS 6 0 [w.t])
 g1:h.get 1=some (dS 4 ver [.agg [c0,G S.tx,c2,c3]])
 g2:h.get 2=some (dS 1 0 [G t])
 g3:h.get 3=some (dS 4 0 [.agg [dR,G 0,dR,dR]])
section
variable {w:fc}{t:Int}{c0 c2 c3:T}{h h':H}{es:List T}{S:gh}{ver:Nat}
theorem F7.put(a:F7 w t c0 c2 c3 h es S ver){b:Nat}{x:jv}(d:h.get b=some x)(j:4<=b){g:jv}{f:List T}{e:gh}(i:Dp 4 h.size (fg h b g) c0 c2 c3 f e)(ht:e.tx=S.tx):F7 w t c0 c2 c3 (fg h b g) f e ver:=
 ⟨by rw[ig];exact i,a.ok.put _ _,by rw[ee d,ao D];exact a.g0,by rw[ee d,ao D,ht];exact a.g1,by rw[ee d,ao D];exact a.g2,by rw[ee d,ao D];exact a.g3⟩
def F7.qB(c:F7 w t c0 c2 c3 h es S ver){a e k:Nat}{f:Bool}{l:List T}(g:eG c3=some a)(j:h.get a=some ⟨3,e,k,f,false,l⟩){i:Nat}{me:dZ}(m:S.dW[i]? =some me)(d:dZ->dZ):
 F7 w t c0 c2 c3 (fg h a ⟨3,e,k+1,f,false,l.set i (d me).t⟩) es {S with dW:=S.dW.modify i d} ver:=by
 have:=c.put j (c.sy.b a (.inr (.inr g))).1 (c.sy.qB g j i (d me)) rfl;rw[pM m];exact this
def F7.qF(g:F7 w t c0 c2 c3 h es S ver){d i m:Nat}{j:Bool}{n:List T}(k:eG c0=some d)(l:h.get d=some ⟨2,i,m,j,false,n⟩){c:Nat}{f:em}(hl:S.fj[c]? =some f)(e:em->em){rv:T}(hr:qA h 1 rv (ij (e f).fF))(o:∀a,eG rv=some a->4<=a/\a<h.size/\eG c0≠some a/\eG c2≠some a/\eG c3≠some a):
 F7 w t c0 c2 c3 (fg h d ⟨2,i,m+1,j,false,n.set c (.agg [G (e f).jl,rv])⟩) (es.set c (.agg [G (e f).jl,rv])) {S with fj:=S.fj.modify c e} ver:=by
 have:=g.put l (g.sy.b d (.inl k)).1 (g.sy.qF k l c hr o) rfl;rw[pM hl];exact this
def F7.don(c:F7 w t c0 c2 c3 h es S ver){a f k:Nat}{g:Bool}{l:List T}(i:eG c2=some a)(j:h.get a=some ⟨1,f,k,g,false,l⟩)(d:Nat)(e:Bool):F7 w t c0 c2 c3 (fg h a ⟨1,f,k+1,g,false,l.set d (.bool e)⟩) es {S with done:=S.done.set d e} ver:=
 c.put j (c.sy.b a (.inr (.inl i))).1 (c.sy.don i j d e) rfl
def F7.tx(a:F7 w t c0 c2 c3 h es S ver)(b:Int):F7 w t c0 c2 c3 (fg h 1 (dS 4 (ver+1) [.agg [c0,G b,c2,c3]])) es {S with tx:=b} (ver+1):=
 ⟨by rw[ig];exact(a.sy.tx b).mono (au _) λc d _=>by rw[ee a.g1,ao D],a.ok.put _ _,by rw[ee a.g1,ao D];exact a.g0,by rw[ee a.g1,aq rfl],by rw[ee a.g1,ao D];exact a.g2,by rw[ee a.g1,ao D];exact a.g3⟩
def F7.adh(c:F7 w t c0 c2 c3 h es S ver){l:List dZ}(j:abb h h' c3 l):F7 w t c0 c2 c3 h' es {S with dW:=l} ver:=by
 have k:∀a,a<4->eG c3≠some a:=λa d f=>by have:=(c.sy.b a (.inr (.inr f))).1;omega
 have r:=j.ok.sz;have e:∀a,eG c3≠some a->a<h.size->h'.get a=h.get a:=λa f d=>j.fr a d f;refine⟨⟨c.sy.g0.mono λa d=>e a (λf=>?_) (c.sy.b a (.inl d)).2,c.sy.g2.mono λa d=>e a (λf=>?_) (c.sy.b a (.inr (.inl d))).2,j.g,c.sy.el.imp λp q ⟨o,m,n,i⟩=>⟨o,m,n.mono λa d=>e a (i a d).2.2.2.2 (i a d).2.1,λa d=>⟨(i a d).1,by have:=(i a d).2.1;omega,(i a d).2.2⟩⟩,λa d=>⟨(c.sy.b a d).1,by have:=(c.sy.b a d).2;omega⟩⟩,⟨j.ok.hp,j.ok.low,aw _⟩,(e 0 (k 0 D) (H.fG c.g0)).trans c.g0,(e 1 (k 1 D) (H.fG c.g1)).trans c.g1,(e 2 (k 2 D) (H.fG c.g2)).trans c.g2,(e 3 (k 3 D) (H.fG c.g3)).trans c.g3⟩
 ·exact c.sy.g0.ne c.sy.g3 dP a d f
 ·exact c.sy.g2.ne c.sy.g3 dP a d f
def F7.aed(d:F7 w t c0 c2 c3 h es S ver)(al:LkD es){f I P:Nat}{J:Bool}{Q:List T}(q:eG c0=some f)(L:h.get f=some ⟨2,I,P,J,false,Q⟩){l:Nat}{A:em}(hl:S.fj[l]? =some A){o m:T}(Z:es[l]? =some (.agg [o,m]))(i:∀a,eG m=some a->4<=a/\eG c0≠some a/\eG c2≠some a/\eG c3≠some a)
 {hT:H} (VK:iE h.size hT) (C:∀a,a<h.size->eG m≠some a->hT.get a=h.get a) {u:T} (v:em->em) (K:Gr hT u 1 (ij (v A).fF)) (s:∀a,eG u=some a->eG m=some a\/h.size<=a):
 F7 w t c0 c2 c3 (fg hT f ⟨2,I,P+1,J,false,Q.set l (.agg [G (v A).jl,u])⟩) (es.set l (.agg [G (v A).jl,u])) {S with fj:=S.fj.modify l v} ver:=by
 have z:=VK.sz;have X:=H.fG L;have an:=(d.sy.b f (.inl q)).1;have N:eG m≠some f:=λc=>(i f c).2.1 q;have M:hT.get f=_:=(C f X N).trans L;have E:∀n a,(fg hT f n).get a=if a=f then some n else hT.get a:=λn a=>ee M n a;have B:∀a,a<4->eG m≠some a:=λa q c=>by have:=(i a c).1;omega
 have p:∀n a,a<h.size->a≠f->eG m≠some a->(fg hT f n).get a=h.get a:=λn a U V W=>by rw[E,ao V];exact C a U W
 refine⟨⟨?_,d.sy.g2.mono λa c=>p _ a (d.sy.b a (.inr (.inl c))).2 (λe=>?_) (λe=>(i a e).2.2.1 c),d.sy.g3.mono λa c=>p _ a (d.sy.b a (.inr (.inr c))).2 (λe=>?_) (λe=>(i a e).2.2.2 c),UE ?_ λk x n g j=>?_,λa c=>⟨(d.sy.b a c).1,by have:=(d.sy.b a c).2;simp;omega⟩⟩,(⟨VK.hp,VK.low,aw _⟩:iE 0 hT).put _ _,?_,?_,?_,?_⟩
 ·exact(d.sy.g0.mono (h':=hT) λa c=>C a (d.sy.b a (.inl c)).2 (λe=>(i a e).2.1 c)).setAt q M l _ (by rw[E,aq rfl])
 ·subst e;exact d.sy.g2.ne d.sy.g0 dP a c q
 ·subst e;exact d.sy.g3.ne d.sy.g0 dP a c q
 ·rw[dc,List.length_modify];exact d.sy.el.length
 ·rw[bR]at g;rw[dE]at j;by_cases y:l=k
  ·subst y;rw[hl]at j;simp at j;rw[aq rfl]at g;split at g
   ·simp only[ar]at g;subst g j;refine⟨u,rfl,.inr (K.mono λa c=>?_),λa c=>?_⟩
    ·rw[E,ao];rintro rfl;rcases s a c with k|k
     ·exact N k
     ·omega
    ·have⟨_,_,_,_,j,_⟩:=K.box c;have ae:=H.fG j;refine⟨?_,by simpa using ae,?_,?_,?_⟩
     ·rcases s a c with k|k
      ·exact(i a k).1
      ·omega
     ·rcases s a c with k|k
      ·exact(i a k).2.1
      ·exact λe=>by have:=(d.sy.b a (.inl e)).2;omega
     ·rcases s a c with k|k
      ·exact(i a k).2.2.1
      ·exact λe=>by have:=(d.sy.b a (.inr (.inl e))).2;omega
     ·rcases s a c with k|k
      ·exact(i a k).2.2.2
      ·exact λe=>by have:=(d.sy.b a (.inr (.inr e))).2;omega
   ·simp at g
  ·rw[ao y]at g;simp[y]at j;have⟨O,F,R,r⟩:=IZ d.sy.el g j;refine⟨O,F,R.mono λa c=>p _ a (r a c).2.1 (λe=>(r a c).2.2.1 (by rw[e];exact q)) (λe=>y ?_),λa c=>⟨(r a c).1,by have:=(r a c).2.1;simp;omega,(r a c).2.2⟩⟩;rw[F]at g;exact al l k m O _ _ a Z g e c
 ·exact(p _ 0 (H.fG d.g0) D (B 0 D)).trans d.g0
 ·exact(p _ 1 (H.fG d.g1) D (B 1 D)).trans d.g1
 ·exact(p _ 2 (H.fG d.g2) D (B 2 D)).trans d.g2
 ·exact(p _ 3 (H.fG d.g3) D (B 3 D)).trans d.g3
end
end
structure ApO(w:fc)(s:gh)(t k o wk:Int)(c0 c2 c3:T)(h:H)(n:Int):Prop where
 ex:∃S es ver,fO w s t k o wk=(S,n)/\F7 w t c0 c2 c3 h es S ver
structure ApF(w:fc)(s:gh)(t k o:Int):Prop where
 en:je w s t k o=true
 cl:w.iB.length<=1000000
 sm:Pj s
 r:∀l∈s.fj,l.fF.length<=10
def uU:iy:=⟨fc×gh×Int×Int×Int×Int,λa=>[a.1.t,a.2.1.t,G a.2.2.1,G a.2.2.2.1,G a.2.2.2.2.1,G a.2.2.2.2.2],λa=>ApF a.1 a.2.1 a.2.2.1 a.2.2.2.1 a.2.2.2.2.1,λa=> .tuple [(fO a.1 a.2.1 a.2.2.1 a.2.2.2.1 a.2.2.2.2.1 a.2.2.2.2.2).1.t,G (fO a.1 a.2.1 a.2.2.1 a.2.2.2.1 a.2.2.2.2.1 a.2.2.2.2.2).2,.bool true],λa c b=>by
 obtain⟨a1,a2,a3,a4,a5,d⟩:=a;obtain⟨e,f,g,h,i,j⟩:=c;simp at b;rw[fc.inj b.1,gh.inj b.2.1,b.2.2.1,b.2.2.2.1,b.2.2.2.2.1,b.2.2.2.2.2]⟩
def JZ:uU.Ok prog cx 56:=by
 refine y9 (tb:=⟨pt [(96,oJ)],ht [(97,jY gh GU Yp),(98,jY US Yd HZ),(99,jY ICo Yn R0),(100,jY Nk Ym RZ),(102,jY Lh Yg RT),(103,jY Lh Yh RU)]⟩) jg iT (jr 772424076352653274097095092108232752774234854811365887 [(19,[(1,4)]),(21,[(1,10)]),(32,[(4,9),(5,9)]),(35,[(4,8),(5,8)])] func56) (λ_=>1000005) (by simp[uU]) nl9 ?_;rintro⟨w,s,t,k,o,r⟩ ⟨L,eL,⟨hl,eN,ht,hr,dn⟩,di⟩ b8 eH;simp only at L eL hl eN ht hr dn di;simp[uU]at eH|-;obtain⟨fY,cp,dk,eE,F,gi⟩:=eH;unfold je at L;simp only[ax]at L;obtain⟨⟨⟨dv,ea⟩,bA⟩,L⟩:=L;have⟨bB,bC,eX⟩:=mF dv;have fA:=λ{tb:gG} (ht:tb.p 96=some oJ)=>QA ht (w:=w) (s:=s) (t:=t) (k:=k) (o:=o) ⟨dv,ea,bA,L,eL,hr⟩
 ·simp[f56,fY,cp,dk,eE,F,fA];generalize al:(((hE.cons _).cons _).cons _).cons _=bp;have gM:iE 0 bp:=by rw[<-al];exact⟨Y,Y,Y⟩
  have gV:bp.size=4:=by rw[<-al];rfl
  have e8:bp.get 0=some (dS 6 0 [w.t]):=by rw[<-al];simp
  have e9:bp.get 1=some (dS 4 0 [s.t]):=by rw[<-al];simp
  have fb:bp.get 2=some (dS 1 0 [G t]):=by rw[<-al];simp
  have K:bp.get 3=some (dS 4 0 [.agg [dR,G 0,dR,dR]]):=by rw[<-al];simp
  clear al;refine jm SY Y s ⟨rfl,gM,hl,eN,ht,hr⟩ ?_;rintro _ ae ⟨a7,a8,bi,eC,rfl,e6,aA,et,eU⟩;rw[gV]at e6 et;have hv:=aA.ok.sz;have gF:iE 0 ae:=⟨aA.ok.hp,aA.ok.low,aw _⟩;have eA:=(aA.get 1 D).trans e9;have ff:=(aA.get 0 D).trans e8;have fi:=(aA.get 2 D).trans fb;have fo:=(aA.get 3 D).trans K;have bn:∀v d,(fg ae 1 v).get d=if d=1 then some v else ae.get d:=λv d=>ee eA v d;have c:F7 w t a7 a8 bi (fg ae 1 (dS 4 1 [.agg [a7,G s.tx,a8,bi]])) eC s 1:=⟨by rw[ig];exact e6.mono (au _) λd q _=>by rw[bn,ao D],gF.put _ _,by rw[bn,ao D];exact ff,by rw[bn,aq rfl],by rw[bn,ao D];exact fi,by rw[bn,ao D];exact fo⟩;have eu:jh (LkG (fg ae 1 (dS 4 1 [.agg [a7,G s.tx,a8,bi]])) λd=>4<=d/\d<ae.size/\eG a7≠some d/\eG a8≠some d/\eG bi≠some d) eC s.fj:=et.imp λN m ⟨rv,W,fs,eB⟩=>⟨rv,W,fs.mono λd q=>by rw[bn,ao (by have:=(eB d q).1;omega)],eB⟩;simp[Pb,eA,eE];generalize fg ae 1 _=O at*
  have eO:=ea;rw[<-eX]at eO;have⟨me,J,hd⟩:=iU eO;have bN:=fy (fI.1 ea).1;refine kP (λb8 bX=>∃n,ApO w s t k o r a7 a8 bi bX n/\dT b8 7 (.ptr 1 0 0 0)/\dT b8 12 (.ptr 3 0 0 0)/\dT b8 15 (G n)) (λap=>?_) (λap=>?_) ?_
  ·have ap:k=1:=by simpa using ap
   subst ap
   ·have⟨y,X,aN,Z,a6,A,e,l,j⟩:=c.sy.g3.at (x:=me.t) (i:=t.toNat) (by simp[J]);rw[aG]at A j;subst A;simp[c.g1,c.g2,bN,e,l,j];exact⟨_,_,_,show fO w s t 1 o r=(s.qB t (lx 2),0)by simp[fO],c.qB rfl e J (lx 2)⟩
  ·have ap:¬k=1:=by simpa using ap
   rcases tK bA with g|rfl|rfl|rfl|rfl|rfl|rfl|rfl|rfl|g|g|g|g
   ·exact absurd g ap
   ·have⟨y,X,aN,Z,a6,A,e,l,j⟩:=c.sy.g3.at (x:=me.t) (i:=t.toNat) (by simp[J]);rw[aG]at A j;subst A;simp[c.g1,c.g2,bN,e,l,j];exact⟨_,_,_,show fO w s t 2 o r=(s.qB t (lx 5),0)by simp[fO],c.qB rfl e J (lx 5)⟩
   ·simp;exact⟨_,_,_,show fO w s t 3 o r=(s,0)by simp[fO],c⟩
   ·simp;exact⟨_,_,_,show fO w s t 4 o r=(s,0)by simp[fO],c⟩
   ·simp;exact⟨_,_,_,show fO w s t 5 o r=(s,0)by simp[fO],c⟩
   ·simp[c.g1,c.g2,eZ];exact⟨_,_,_,show fO w s t 12 o r=({s with tx:=t},0)by simp[fO],c.tx t⟩
   ·simp[c.g1,eZ];exact⟨_,_,_,show fO w s t 13 o r=({s with tx:=-1},0)by simp[fO],c.tx (-1)⟩
   ·have⟨y,X,aN,Z,a6,A,e,l,j⟩:=c.sy.g3.at (x:=me.t) (i:=t.toNat) (by simp[J]);rw[aG]at A j;subst A;simp[c.g1,c.g2,bN,e,l,j];exact⟨_,_,_,show fO w s t 14 o r=(s.qB t (λx=>{x with atomic:=true}),0)by simp[fO],c.qB rfl e J (λx=>{x with atomic:=true})⟩
   ·have⟨y,X,aN,Z,a6,A,e,l,j⟩:=c.sy.g3.at (x:=me.t) (i:=t.toNat) (by simp[J]);rw[aG]at A j;subst A;simp[c.g1,c.g2,bN,e,l,j];exact⟨_,_,_,show fO w s t 15 o r=(s.qB t (λx=>{x with atomic:=false}),0)by simp[fO],c.qB rfl e J (λx=>{x with atomic:=false})⟩
   ·have I:=nz bA g;rw[<-bB]at I;have⟨B,C,dm⟩:=iU I;have E:=fy (fI.1 I).1;obtain⟨N,an,rv,rfl,bH,aE⟩:=c.sy.el.get C;obtain⟨y,X,aN,Z,a6,rfl,e,l,j⟩:=c.sy.g0.at an;have b6:=H.fG e;have gZ:=(c.sy.b y (.inl rfl)).1;have ef:(1=O.size)=False:=by have:=H.fG c.g1;simp;omega
    have hj:(y=O.size)=False:=dN;have hf:=hr B (ay C);have hg:∀d,eG rv=some d->d<O.size:=λd q=>(aE d q).2.1;rcases g with rfl|rfl|rfl|rfl|rfl|rfl
    ·simp[F,c.g1,c.g2,E,e,l,j];exact⟨_,_,_,show fO w s t 6 o r=(s.qF o (λh=>{h with jl:=t}),0)by simp[fO],c.qF rfl e C (λh=>{h with jl:=t}) bH aE⟩
    ·simp[F,c.g1,E,e,l,j];exact⟨_,_,_,show fO w s t 7 o r=(s.qF o (λh=>{h with jl:=-1}),0)by simp[fO],c.qF rfl e C (λh=>{h with jl:=-1}) bH aE⟩
    ·have bT:=dn B (ay C);have cF:=di B (ay C);have gv:t∉B.fF:=by
      simp[Ao,dm,m8]at L;exact L.2.2
     have⟨gP,W,gL,M⟩:=IZ eu an C;simp at W;subst W;have ca:Gr O rv 1 (ij B.fF):=gL;have⟨er,bW,fv,aX⟩:=ca.my (cx:=cx) (f:=T.int .i64) c.ok kx rfl mP rfl Y (λx=>rfl) t dN;have hb:=c.ok.low;have hh:(2=O.size)=False:=by have:=H.fG c.g2;simp;omega
     simp[F,c.g1,c.g2,E,e,l,j,fv];refine jm ZI Y ⟨B.fF,t,er⟩ ⟨rfl,aX.1,⟨aX.2.2.2.hp,aX.2.2.2.low,aw _⟩,bT,gv,cF⟩ ?_;rintro _ eF av;have gS:=aX.2.2.2.sz;have hy:=av.ok.sz;have de:∀d,d<O.size->eG rv≠some d->eF.get d=O.get d:=λd bB bC=>(av.fr d D (λq=>(aX.2.2.1 d q).elim bC D)).trans (aX.2.1 d bB bC);have gz:∀d,d<4->eG rv≠some d:=λd q k=>by have:=(M d k).1;omega
     have c6:=(de 1 (H.fG c.g1) (gz 1 D)).trans c.g1;have e0:=(de y b6 (λk=>(M y k).2.2.1 rfl)).trans e;have gI:iE 0 eF:=⟨av.ok.hp,av.ok.low,aw _⟩;have ha:=Ku B.fF t;simp[F,c6];refine lH PX Y ⟨ng B.fF t,er⟩ ⟨rfl,av.g,gI,E7 bT t,dO⟩ ?_;rintro U hT ⟨N,R⟩;simp only at N;rw[N];have eo:=fZ (R.get 1 (H.fG c6));have t1:=(R.get 1 (H.fG c6)).trans c6;have tb:=(R.get y (H.fG e0)).trans e0;have gT:Gr hT er 1 (ij (ng B.fF t)):=av.g.mono λd q=>by
      have⟨_,_,_,_,gy,_⟩:=av.g.box q;exact R.get d (H.fG gy)
     have hC:=R.ok.sz;simp[E,tb,l,j,eo,eZ,gT.iN,gT.cells];exact⟨_,_,_,show fO w s t 8 o r=(s.qF o (λh=>{h with fF:=ng h.fF t}),0)by simp[fO],c.aed eU rfl e C an (λd q=>⟨(M d q).1,(M d q).2.2⟩) (hT:=hT) ⟨R.ok.hp,R.ok.low,D⟩ (λd bB bC=>(R.get d D).trans (de d bB bC)) (λh=>{h with fF:=ng h.fF t}) gT aX.2.2.1⟩
    ·have⟨gP,W,gL,M⟩:=IZ eu an C;simp at W;subst W;have ca:Gr O rv 1 (ij B.fF):=gL;have bT:=dn B (ay C);have cF:=di B (ay C);have gn:t∈B.fF:=by
      simp[Ao,dm,m8]at L;exact L.2
     have⟨P,Q,cL⟩:=List.append_of_mem gn;have cX:t∉P/\t∉Q:=by
      rw[cL]at bT;have cp:=List.pairwise_append.1 bT;have dk:=List.pairwise_cons.1 cp.2.1;exact⟨λk=>by have:=cp.2.2 t k t Y;omega,λk=>by have:=dk.1 t k;omega⟩
     simp[F,c.g1,E,e,l,j];have gD:eG rv≠some 2:=λk=>by have:=(M 2 k).1;omega
     refine lH H6 Y ⟨P,Q,t,rv,2,⟨0,0,0,false,false,[]⟩⟩ ⟨rfl,c.g2,c.ok,by rw[cL]at ca;exact ca,cX.1,cX.2,by rw[cL]at cF;simp at cF|-;omega,gD⟩ ?_;rintro U bW ⟨cb,eK,eW,b9⟩;simp only at cb eK b9;have eD:=b9 1 (H.fG c.g1) (λk=>by have:=(M 1 k).1;omega);have fW:=b9 y b6 (λk=>(M y k).2.2.1 rfl);have eo:=fZ eD;have gX:=eD.trans c.g1;have fe:=fW.trans e;have gm:B.fF.filter (λU=> !decide (U=t))=P++Q:=by
      rw[cL,List.filter_append,List.filter_cons];simp;rw[List.filter_eq_self.2 λx l=>?_,List.filter_eq_self.2 λx l=>?_]
      ·simp;exact λN=>cX.2 (by rw[<-N];exact l)
      ·simp;exact λN=>cX.1 (by rw[<-N];exact l)
     have gS:=eW.sz;simp[E,fe,l,j,eo,eZ,cb.iN,cb.cells];exact⟨_,_,_,show fO w s t 9 o r=(s.qF o (λh=>{h with fF:=h.fF.filter λU=> !decide (U=t)}),0)by simp[fO],c.aed eU rfl e C an (λd q=>⟨(M d q).1,(M d q).2.2⟩) (hT:=bW) eW b9 (λh=>{h with fF:=h.fF.filter λU=> !decide (U=t)}) (by show Gr bW U 1 (ij (B.fF.filter _));rw[gm];exact cb) (λd q=> .inl (by rw[<-eK];exact q))⟩
    ·simp[F,c.g1,c.g2,E,e,l,j];exact⟨_,_,_,show fO w s t 10 o r=(s.qF o (λh=>{h with jl:=t}),0)by simp[fO],c.qF rfl e C (λh=>{h with jl:=t}) bH aE⟩
    ·simp[F,c.g1,E,e,l,j];exact⟨_,_,_,show fO w s t 11 o r=(s.qF o (λh=>{h with jl:=-1}),0)by simp[fO],c.qF rfl e C (λh=>{h with jl:=-1}) bH aE⟩
   ·have I:=pL bA g;have⟨d,ds,eM⟩:=iU I;have ec:=uu dv ds;rw[<-bB]at ec;have⟨B,C,dm⟩:=iU ec;have E:=fy (fI.1 I).1;have e7:=fy (fI.1 ec).1;obtain⟨N,an,rv,rfl,bH,aE⟩:=c.sy.el.get C;obtain⟨y,X,aN,Z,a6,rfl,e,l,j⟩:=c.sy.g0.at an;have⟨K,fB,gQ,fE,c7,A,bs,c4,eb⟩:=c.sy.g3.at (x:=me.t) (i:=t.toNat) (by simp[J]);rw[aG]at A eb;subst A;have b6:=H.fG e;have eI:=H.fG bs;have ef:(1=y)=False:=by have:=(c.sy.b y (.inl rfl)).1;simp;omega
    have gB:(1=K)=False:=by have:=(c.sy.b K (.inr (.inr rfl))).1;simp;omega
    have eV:(2=y)=False:=by have:=(c.sy.b y (.inl rfl)).1;simp;omega
    have gE:(2=K)=False:=by have:=(c.sy.b K (.inr (.inr rfl))).1;simp;omega
    have eh:(K=y)=False:=by simp;rintro rfl;rw[e]at bs;simp at bs
    have eS:∀x,(c7.set t.toNat x)[t.toNat]? =some x:=λx=>by
     have:t.toNat<c7.length:=by
      rcases aS t.toNat c7.length with k|k
      ·exact k
      ·rw[bP k]at c4;simp at c4
     rw[bR];simp[this]
    have bu:∀v,(fg O y v).get K=some ⟨3,fB,gQ,fE,false,c7⟩:=λv=>by rw[ee e,ao (by simpa using eh)];exact bs
    have e4:=λv z=>oo (bu v) (show 1≠K by simpa using gB) z;have e5:=λv z=>oo (bu v) (show 2≠K by simpa using gE) z;have ey:=λ(f:em->em) (q:(f B).fF=B.fF)=>c.qF rfl e C f (rv:=rv) (by rw[q];exact bH) aE;rcases g with rfl|rfl|rfl|rfl
    ·have dd:=(ey (λh=>{h with jl:=-1}) rfl).qB rfl (bu _) J (λx=>{x with jf:=3});have bS:=dd.qB (me:=(λx=>{x with jf:=3}) me) rfl ((ee (bu _) _ _).trans (aq rfl)) (i:=t.toNat) (by simp[J]) (λx=>{x with cond:=o});simp only[DC,List.set_set]at bS;simp[F,c.g0,c.g1,c.g2,E,e7,bN,ds,e,bs,l,c4,j,eb,nM,c.ok.hp,b6,eI,ef,eh,eV,eS,e4,e5];exact⟨_,_,_,show fO w s t 16 o r=((s.qF d.kY λh=>{h with jl:=-1}).qB t (λx=>{x with jf:=3,cond:=o}),0)by simp[fO,eM],bS⟩
    ·have dd:=(ey (λh=>{h with jl:=t}) rfl).qB rfl (bu _) J (λx=>{x with jf:=2});have bS:=dd.qB (me:=(λx=>{x with jf:=2}) me) rfl ((ee (bu _) _ _).trans (aq rfl)) (i:=t.toNat) (by simp[J]) (λx=>{x with cond:=0});simp only[DC,List.set_set]at bS;simp[F,c.g0,c.g1,c.g2,E,e7,bN,ds,e,bs,l,c4,j,eb,nM,c.ok.hp,b6,eI,ef,eh,eV,eS,e4,e5];exact⟨_,_,_,show fO w s t 17 o r=((s.qF d.kY λh=>{h with jl:=t}).qB t (λx=>{x with jf:=2,cond:=0}),0)by simp[fO,eM],bS⟩
    ·simp[F,gi,c.g1];refine jm Su Y ⟨s,_,_,_,o,r⟩ ⟨rfl,c.sy.g3,c.ok,ht⟩ ?_;rintro _ bW ⟨n,rfl,eP,b7⟩;simp only at eP b7;simp;exact⟨_,_,_,show fO w s t 18 o r=({s with dW:=if iW o s.dW 0=[]then s.dW else s.dW.modify n.toNat (lx 4)},n)by
      have eR:AB o r s.dW=n:=by rw[eP];rfl
      unfold fO;simp;by_cases q:iW o s.dW 0=[]
      ·rw[aq q,aq q,<-eR];unfold AB;rw[q];rfl
      ·rw[ao q,ao q,eR];rfl,c.adh b7⟩
    ·simp[F,c.g1];refine jm JJ Y ⟨s,_,_,_,o,0⟩ ⟨rfl,c.sy.g3,c.ok,ht⟩ ?_;rintro _ bW ⟨rfl,b7⟩;simp only at b7;simp;exact⟨_,_,_,show fO w s t 19 o r=({s with dW:=s.dW.map (EP o)},((iW o s.dW 0).length:Int))by
      unfold fO;simp;intro a _;rfl,c.adh b7⟩
   ·have I:=yM bA g;rw[<-eX]at I;have⟨u,c1,gw⟩:=iU I;have E:=fy (fI.1 I).1;rcases g with rfl|rfl
    ·have⟨y,X,aN,Z,a6,A,e,l,j⟩:=c.sy.g3.at (x:=u.t) (i:=o.toNat) (by simp[c1]);rw[aG]at A j;subst A;simp[F,c.g1,E,e,l,j];exact⟨_,_,_,show fO w s t 20 o r=(s.qB o (lx 1),0)by simp[fO],c.qB rfl e c1 (lx 1)⟩
    ·simp;exact⟨_,_,_,show fO w s t 21 o r=(s,0)by simp[fO],c⟩
   ·have I:=tL bA g;rw[<-bC]at I;have⟨u,c1,gw⟩:=iU I;have E:=fy (fI.1 I).1;rcases g with rfl|rfl
    ·have⟨y,X,aN,Z,a6,A,e,l,j⟩:=c.sy.g2.at (x:= .bool u) (i:=o.toNat) (by simp[c1]);rw[aG]at A j;subst A;simp[F,c.g1,E,e,l,j];exact⟨_,_,_,show fO w s t 22 o r=({s with done:=s.done.set o.toNat true},0)by simp[fO],c.don rfl e o.toNat true⟩
    ·simp;exact⟨_,_,_,show fO w s t 23 o r=(s,0)by simp[fO],c⟩
  ·rintro b8 bX ⟨n,⟨S,fC,hn,gk,V⟩,gj,gd,gg⟩;have⟨ho,hq,hs⟩:=V.sy.fz;have fX:∀v,(fg bX 3 v).get 3=some v:=λv=>(ee V.g3 v _).trans (aq rfl);have c9:∀v,Dp 4 bX.size (fg bX 3 v) a7 a8 bi fC S:=λv=>V.sy.mono (au _) λd q _=>by rw[ee V.g3,ao D]
   have fL:=λv=>(c9 v).fz.1;have fP:=λv=>(c9 v).fz.2.1;have fS:=λv=>(c9 v).fz.2.2;simp[gj,gd,gg,V.g1,V.g3,fX,eZ,fL,fP,fS,gk,V.ok.hp]
def kZ.apf{w:ej}(e:kZ w){c:Nat}{b:fk}(h:w.dY[c]? =some b){d:fJ}(f:d=o8 w.fq w.jG (w.dY.take c)):ApF w.fq d.fN b.eg b.kind b.obj/\(o8 w.fq w.jG (w.dY.take (c+1))).fN=(fO w.fq d.fN b.eg b.kind b.obj (ls b)).1:=by
 have p:c<w.dY.length:=(List.getElem?_eq_some_iff.1 h).1;have i:=e.ok.ok h;rw[<-f]at i;have⟨q,r,o⟩:=m6 i;have g:sR (1000+(w.dY.take c).length) d:=by rw[f];exact e.sm.o8 (w:=w.fq) _
 have hl:=e.ok.len;have hr:=tJ e.ok.run c;have m:F3 4 d.fN:=by rw[f];exact OP e.ok.qB _ _ hr e.rdt
 have⟨l1,l2,l3,l4,l5,l6⟩:=g.l;have⟨s,t,u,v,x,y⟩:=kW e.wb;refine⟨⟨o,D,⟨D,D,D,λj k=>?_,g.a⟩,λj k=>?_⟩,?_⟩
 ·have:=m.len g.a j k;omega
 ·have:=m.len g.a j k;omega
 ·have n:w.dY.take (c+1)=w.dY.take c++[b]:=by rw[dx,h];rfl
  rw[n];have:o8 w.fq w.jG (w.dY.take c++[b])=(ke w.fq d b).1:=by
   rw[f];unfold o8;rw[BE];rfl
  rw[this,oF d b i];rfl
def ug:iy:=⟨ej,λa=>[a.t],λa=>kZ a,λa=> .tuple [gY.t ⟨a,a.gx.st⟩,.bool true],λc d b=>by simp at b;rw[ej.inj b]⟩
def Xm(a:ej)(b:T):List T:=[sl (a.fq.cells.map iK.t),sl (a.fq.fj.map ja.t),sl (a.fq.iB.map jq.t),sl (a.fq.fa.map T.str),sl (a.fq.dW.map T.str),sl (a.fq.ji.map jc.t),G a.start,sl (a.jG.fN.fj.map em.t),G a.jG.fN.tx,sl (a.jG.fN.done.map T.bool),sl (a.jG.fN.dW.map dZ.t),sl (a.jG.cells.map (T.int .i64)),sl (a.jG.fa.map (T.int .i64)),sl (a.jG.count.map (T.int .i64)),sl (a.dY.map fk.t),b]
def anZ:List T:=[dR,dR,dR,dR,dR,dR,G 0,dR,G 0,dR,dR,dR,dR,dR,dR,dR]
structure AnJ(w:ej)(h:H)(k:Nat)(v:T)(ver ver5:Nat):Prop where
 ok:iE 4 h
 b0:h.get 0=some (dS 15 0 [w.t])
 b1:h.get 1=some (dS 16 0 [.agg anZ])
 b2:h.get 2=some (dS 16 ver [.agg (Xm w v)])
 b3:h.get 3=some (dS 4 ver5 [(o8 w.fq w.jG (w.dY.take k)).fN.t])
 g:Gr h v 4 ((w.gx.st.take k).map gh.t)
 l:∀b,eG v=some b->4<=b
def Hf:ug.Ok prog cx 24:=by
 refine iq [(56,uU)] (jr 9223389645163727807 [] func24) (λ_=>100) (by simp[ug]) ?_;rintro(c:ej) y m al;replace y:kZ c:=y;simp[ug]at al|-;have b7:=y.ok.len;have b8:=y.ok.qB;simp[f24,al,show¬(16:Int)<c.dY.length by omega,show¬(4:Int)<c.fq.dW.length by omega];refine gu c.dY.length D (λk m h=>∃z o A,AnJ c h k z o A/\dT m 1 (.ptr 0 0 0 0)/\dT m 2 (.ptr 1 0 0 0)/\dT m 4 (.ptr 2 0 0 0)/\dT m 5 (.ptr 3 0 0 0)/\dT m 30 (sl (c.dY.map fk.t))/\dT m 31 (G c.dY.length)/\dT m 32 (G k)) ?_ ?_ D ?_
 ·rintro k m h N an ⟨z,o,A,⟨l,ae,u,r,E,v,O⟩,J,x,M,U,T,K,L⟩;have⟨bn,W⟩:=y.apf (az N) rfl;have bB:=y.ok.st N;have bC:(c.gx.st.take (k+1))=c.gx.st.take k++[(o8 c.fq c.jG (c.dY.take k)).fN]:=by rw[dx,bB];rfl
  generalize(o8 c.fq c.jG (c.dY.take k)).fN=q at*
  have ca:=l.ne (b:=0) D;have cp:=l.ne (b:=1) D;have aN:=l.ne (b:=2) D;have aX:=l.ne (b:=3) D;have bN:iE 0 h:=⟨l.hp,l.low,aw _⟩;generalize av:c.dY[k]=d at*
  have bs:Gr (h.cons (dS 7 1 [d.t])) z 4 ((c.gx.st.take k).map gh.t):=v.mono λb V=>by
   have⟨_,_,_,_,C,_⟩:=v.box V;rw[ez,ao (by have:=H.fG C;omega)]
  have b6:(c.gx.st.take k).length<=16:=dN;have⟨s,g,Q,i⟩:=bs.my (cx:=cx) (f:=gh.t) (bN.cons _) aaB rfl aaG rfl Y (λ_=>rfl) q (by simp only[show Y9.bytes=80 from rfl];omega);rw[show(h.cons (dS 7 1 [d.t])).size=h.size+1 from rfl]at Q;have F:∀{a8:gG},a8.p 56=some uU->rl prog cx a8 56 [c.fq.t,q.t,G d.eg,G d.kind,G d.obj,G (ls d)]=some (.tuple [(fO c.fq q d.eg d.kind d.obj (ls d)).1.t,G (fO c.fq q d.eg d.kind d.obj (ls d)).2,.bool true]):=λht=>iA ht JZ (c.fq,q,d.eg,d.kind,d.obj,ls d) bn;have bW:=l.sz;have bT:=i.2.2.2.sz;simp at bT;have aA:=l.low;have bH:∀a,a<4->eG z≠some a:=λa ap j=>by have:=O a j;omega
  have I:∀a,a<4->g.get a=h.get a:=λa ap=>(i.2.1 a dN (bH a ap)).trans (by rw[ez,ao D]);have a0:=(I 0 D).trans ae;have a1:=(I 1 D).trans u;have a2:=(I 2 D).trans r;have a3:=(I 3 D).trans E;have Z:g.get h.size=some (dS 7 1 [d.t]):=(i.2.1 h.size Y (λj=>by have⟨_,_,_,_,C,_⟩:=v.box j;have:=H.fG C;omega)).trans Y;have w:∀e a,(fg g 2 e).get a=if a=2 then some e else g.get a:=λe a=>ee a2 e a;have bi:(h.size=2)=False:=dN;have X:iE 0 g:=⟨i.2.2.2.hp,i.2.2.2.low,aw _⟩;have a7:∀e n b,fg ((fg g 2 e).cons n) g.size b=(fg g 2 e).cons b:=λe n b=>Eu _ _ _ _ Y (by have:=(X.put 2 e).low;simpa using this);have a6:(3=g.size)=False:=dN;have cF:(2=g.size)=False:=dN;have cb:(0=g.size)=False:=dN;have cL:(h.size=g.size)=False:=dN;have b9:∀e,(fg g 2 e).low<=g.size:=λe=>by have:=(X.put 2 e).low;simpa using this
  have fin:∀(n:jv),AnJ c (fg ((fg g 2 (dS 16 (o+1) [.agg (Xm c s)])).cons n) 3 (dS 4 (A+1) [(fO c.fq q d.eg d.kind d.obj (ls d)).1.t])) (k+1) s (o+1) (A+1):=λn=>by
   have R:∀b a,(fg ((fg g 2 (dS 16 (o+1) [.agg (Xm c s)])).cons n) 3 b).get a=if a=3 then some b else((fg g 2 (dS 16 (o+1) [.agg (Xm c s)])).cons n).get a:=λb a=>nM (by simp[X.hp]) dN b a;have S:∀b a,a<g.size->a≠3->a≠2->(fg ((fg g 2 (dS 16 (o+1) [.agg (Xm c s)])).cons n) 3 b).get a=g.get a:=λb a J x bA=>by rw[R,ao x,ez,ao dN,w,ao bA]
   have bS:=(((⟨i.2.2.2.hp,i.2.2.2.low,D⟩:iE 4 g).put 2 (dS 16 (o+1) [.agg (Xm c s)])).cons n).put 3 (dS 4 (A+1) [(fO c.fq q d.eg d.kind d.obj (ls d)).1.t]);have aE:∀a,eG s=some a->4<=a:=λa j=>(i.2.2.1 a j).elim (λj=>O a j) (λj=>by simp at j;omega);refine⟨bS,(S _ 0 D D D).trans a0,(S _ 1 D D D).trans a1,?_,?_,?_,aE⟩
   ·rw[R,ao D,ez,ao dN,w,aq rfl]
   ·rw[R,aq rfl,W]
   ·rw[bC];exact i.1.mono λa j=>by
     have⟨_,_,_,_,C,_⟩:=i.1.box j;have:=aE a j;exact S _ a (H.fG C) D D
  have B:ls d=if d.kind=18 then d.value else-1:=rfl;simp only[Xm]at r a2;cases P:decide (d.kind=18)with
  |true=>
   rw[aq (by simpa using P)]at B;rw[B]at F W;simp[J,x,M,U,T,K,L,N,av,r,E,aN,aX,aA,Q,a0,a2,a3,Z,w,bi,a7,a6,eZ,i.1.iN,i.1.cells,P,F,an];rw[B]at fin;exact⟨_,_,_,fin _⟩
  |false=>
   rw[ao (by simpa using P)]at B;rw[B]at F W;simp[J,x,M,U,T,K,L,N,av,r,E,aN,aX,aA,Q,a0,a2,a3,Z,w,bi,a7,a6,eZ,i.1.iN,i.1.cells,P,F,an];rw[B]at fin;exact⟨_,_,_,fin _⟩
 ·rintro m h ⟨z,o,A,⟨l,ae,u,r,E,v,O⟩,J,x,M,U,T,K,L⟩;simp only[Xm]at r;simp only[anZ]at u;have bX:c.gx.st.length=c.dY.length:=by unfold ej.gx;simp[Ph]
  rw[bL D]at v;have bW:=l.sz;have w:∀e,(fg h 1 e).get 1=some e:=λe=>(ee u e 1).trans (aq rfl);have bu:∀e,Gr (fg h 1 e) z 4 (c.gx.st.map gh.t):=λe=>v.mono λb V=>by rw[ee u,ao (by have:=O b V;omega)]
  have bp:=λe=>(bu e).fz Y;simp[x,M,K,L,u,r,w,bp,eZ,l.hp]
  try rfl
 ·exact⟨dR,1,1,⟨by exact⟨Y,Y,Y⟩,Y,by simp[anZ],by simp[Xm],by simp;rfl,by simpa using Gr.nil _ _,Y⟩,Y⟩
end
end
noncomputable section
open Go Go.TI
def l0:T:= .agg [(.ed [(.agg [(G 1),(G 1),(.str [120]),(G 0),(G 0),(.str [])])] false),(.ed [(.agg [(.str [116]),(G 1),dR,(.ed [(.agg [(G 12),(G 1),(.str [117]),(.str []),dR,(G 0),(G 0),(.str []),dR,dR,dR]),(.agg [(G 1),(G 1),(.str [120]),(.str []),dR,(G 1),(G 1),(.str []),dR,dR,dR])] false)]),(.agg [(.str [117]),(G 1),dR,(.ed [(.agg [(G 1),(G 1),(.str [120]),(.str []),dR,(G 1),(G 2),(.str []),dR,dR,dR])] false)])] false)]
def l1:T:= .ed [(.agg [(.str [120]),(G 0),(G 0),(.bool false),(G 0)])] false
def l2:T:= .ed [(.agg [(G 0),(G 0),(G 1)]),(.agg [(G 0),(G 1),(G 1)]),(.agg [(G 1),(G 0),(G 1)])] false
def l3:T:= .agg [(G 28),(G 0),(G 0),(G 0),(G 0),(G (.negSucc 0))]
def l4:T:= .agg [l1,dR,dR,dR,(.ed [(.str [116]),(.str [117])] false),l2,(.ed [(.agg [(G 1),(.ed [(.agg [(G 24),(G 1),(G 0),(G 0),(G 0),(G 0)]),(.agg [(G 1),(G 0),(G 0),(G 0),(G 1),(G 1)]),(.agg [(G 8),(G 0),(G 0),(G 0),(G 0),(G 1)]),l3] false)]),(.agg [(G 1),(.ed [(.agg [(G 1),(G 0),(G 0),(G 0),(G 2),(G 2)]),(.agg [(G 8),(G 0),(G 0),(G 0),(G 0),(G 2)]),l3] false)])] false)]
def l5:T:= .ed [(.agg [(G 0),(G 1),(G (.negSucc 0)),(G 0),(G (.negSucc 0)),dR,dR]),(.agg [(G 0),(G 20),(G 1),(G 0),(G 0),dR,dR]),(.agg [(G 0),(G 4),(G 0),(G 1),(G 1),dR,dR]),(.agg [(G 0),(G 2),(G (.negSucc 0)),(G 0),(G (.negSucc 0)),dR,dR]),(.agg [(G 1),(G 1),(G (.negSucc 0)),(G 0),(G (.negSucc 0)),dR,dR]),(.agg [(G 1),(G 4),(G 0),(G 2),(G 2),dR,dR]),(.agg [(G 1),(G 2),(G (.negSucc 0)),(G 0),(G (.negSucc 0)),dR,dR])] false
def l6:T:= .agg [(G 5),(G 0),(.bool false)]
