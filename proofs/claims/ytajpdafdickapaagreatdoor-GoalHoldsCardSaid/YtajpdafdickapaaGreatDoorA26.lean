/- W09h -/
import Derived.Test.YtajpdafdickapaaGreatDoorA22
import Derived.Test.YtajpdafdickapaaGreatDoorA25
set_option linter.all false
set_option maxRecDepth 100000
set_option maxHeartbeats 8000000
namespace Go.Proofs.YtajpdafdickapaaGreatDoor
noncomputable section
open Go Go.TI Tryz
attribute [-simp] List.map_take List.map_drop List.map_append fw eY eg Bool.not_or Bool.not_and
attribute [simp] fq eZ
def afh(b:T):Prop:=∃(a:km) (c:iO),b= .tuple [a.t,c.t]/\Li a.dJ/\a.dJ.length<=80
def Mb:oa prog cx 40 (λi:jU×List gF=>[i.1.t,sl (i.2.map gF.t)]) (λi=>(∀o∈i.1.dH,o.jm.length<=10000001)/\i.2.length<=80) (λ_=>afh):=by
 refine yV (tb:=⟨pt [(88,xw.jA),(90,FJ.jA)],ht [(89,jI IFr Wf Qf)]⟩) iL iB (iQ 1271 [(3,[(0,2),(2,8),(4,8)]),(4,[(4,5)])] func40) (λ_=>105) (λi r l=>by simp at l;exact aC (jU.inj l.1) (jz (λ_ _ l=>gF.inj l) l.2)) dy nl9 ?_;rintro⟨k,A⟩ ⟨n,x⟩ av y;simp only at n x;simp at y;obtain⟨w,I⟩:=y;obtain⟨_,⟨r,rfl,ap⟩,u⟩:=xw.use k n;obtain⟨_,⟨O,rfl,Q,D⟩,B⟩:=FJ.use k n;cases r with
 |false=>
  simp[f40,w,u];exact⟨⟨⟨[],[],[],[],[],[]⟩,[]⟩,⟨⟨[],0,[],[]⟩,[],[],[]⟩,rfl,λe K=>by simp at K,dy⟩
 |true=>
  simp[f40,w,I,u,B];generalize j:((hE.cons _).cons _).cons _=h;have N:hU 0 h:=by rw[<-j];exact⟨dy,dy,dy⟩
  have an:h.size=3:=by rw[<-j];rfl
  have U:h.get 0=some (dE 7 0 [k.t]):=by rw[<-j];simp
  have V:h.get 1=some (dE 7 0 [.agg [dD,dD,dD,dD,dD,dD,dD]]):=by rw[<-j];simp
  have W:h.get 2=some (dE 7 0 [.agg [dD,Z 0,dD,dD,dD,dD,dD]]):=by rw[<-j];simp
  clear j;refine mo QU dy ⟨k,O,A⟩ ⟨rfl,N,n,Q,D,x⟩ ?_;rintro _ b ⟨z,d,T,rfl,m,s,f,C,hl⟩;have al:=f.ok.sz;rw[an]at s al;have a0:=(f.get 0 J).trans U;have a1:=(f.get 1 J).trans V;have a2:=(f.get 2 J).trans W;have sv:=λa (L:a<h.size)=>fD (f.get a L);have R:=sv 0 J;have X:(0=b.size)=False:=dz;have Y:(1=b.size)=False:=dz;have ae:(2=b.size)=False:=dz;have M:=f.ok.low;have P:fh h b b.size=true:=iU (lj _ f.ok.sz);have okB:hU 0 (b.cons (dE 7 1 [d.t])):=hU.cons ⟨f.ok.hp,f.ok.low,aw _⟩ _;have q:∀a,(b.cons (dE 7 1 [d.t])).get a=if a=b.size then some (dE 7 1 [d.t])else b.get a:=λa=>dT ..;have v:=(q 1).trans ((ao J).trans a1);have p:∀c a,(dY (b.cons (dE 7 1 [d.t])) 1 c).get a=if a=1 then some c else if a=b.size then some (dE 7 1 [d.t])else b.get a:=λc a=>(dN v c a).trans (by rw[q]);have G:=λc=>(p c 2).trans ((ao J).trans ((ao J).trans a2));have G2:∀c g a,(dY (dY (b.cons (dE 7 1 [d.t])) 1 c) 2 g).get a=if a=2 then some g else if a=1 then some c else if a=b.size then some (dE 7 1 [d.t])else b.get a:=λc g a=>(dN (G c) g a).trans (by rw[p]);have S:∀c,fh (b.cons (dE 7 1 [d.t])) (dY (b.cons (dE 7 1 [d.t])) 1 c) b.size=true:=λc=>nl v J c;have aA:(b.size=1)=False:=dz;have E:∀c g,TI.fz (dY (dY (b.cons (dE 7 1 [d.t])) 1 c) 2 g) T=some (sl (z.map ej.t)):=λc g=>(m.mono (h':=dY (dY (b.cons (dE 7 1 [d.t])) 1 c) 2 g) λa o=>by
   have⟨_,_,_,_,F,_⟩:=m.box o;have:=H.fa F;have:=s a o;rw[G2,ao J,ao J,ao J]).fz dy
  simp[m.ir,m.cells,a0,a1,a2,R,X,Y,ae,M,P,dX,p,G2,S,E,q,f.ok.hp];exact⟨⟨k.ez,z⟩,d,rfl,C,hl⟩
def IP:oa prog cx 41 (λc:List Int=>[sl (c.map (T.int .u8))]) okB (λ_ l=>∃a:jU,l=a.t/\∀m∈a.dH,m.jm.length<=10000001):=by
 refine jk [(91,QL.jA),(57,BF.jA)] (iQ 13 [] func41) (λ_=>105) (λn o b=>by simp at b;exact jz (λ_ _ b=>by simpa using b) b) ?_;rintro c g r d;simp at d;obtain⟨_,⟨k,rfl,i,j⟩,e⟩:=QL.use c g;obtain⟨_,⟨a,p,q,rfl,h⟩,f⟩:=BF.use k ⟨i,j⟩;simp[f41,d,e,f];exact⟨a,rfl,h⟩
def ae8(b:T):Prop:=∃a:km,b=a.t/\Li a.dJ/\a.dJ.length<=80
def FG:oa prog cx 16 (λa:List Int×List Int=>[sl (a.1.map (T.int .u8)),sl (a.2.map (T.int .u8))]) (λa=>okB a.1/\okB a.2/\a.2.length<=80) (λ_=>ae8):=by
 refine jk [(41,IP.jA),(42,FO.jA),(40,Mb.jA)] (iQ 51 [] func16) (λ_=>105) (λa s b=>by simp at b;exact aC (jz (λ_ _ b=>by simpa using b) b.1) (jz (λ_ _ b=>by simpa using b) b.2)) ?_;rintro⟨i,h⟩ ⟨e,d,p⟩ v f;simp only at e d p;simp at f;obtain⟨n,o⟩:=f;obtain⟨_,⟨j,rfl,q⟩,k⟩:=IP.use i e;obtain⟨_,⟨g,rfl,t⟩,l⟩:=FO.use h ⟨d,J⟩;obtain⟨_,⟨r,u,rfl,m,hl⟩,c⟩:=Mb.use (j,g) ⟨q,dA⟩;simp only at c;simp[f16,n,o,k,l,c];exact⟨r,rfl,m,hl⟩
end
noncomputable section
open Go Go.TI
structure ng where
 program:List Int
 schedule:List Int
 Fq:List Int
 size:Int
 vL:Int
 deriving DecidableEq,Inhabited
def ng.cs(a:ng):List T:=[sl (a.program.map (T.int .u8)),sl (a.schedule.map (T.int .u8)),sl (a.Fq.map (T.int .u8)),.int .u8 a.size,.int .u8 a.vL]
def ng.t(a:ng):T:= .agg a.cs
@[simp]def ng.ag (a:ng):qV a.t [sl (a.program.map (T.int .u8)),sl (a.schedule.map (T.int .u8)),sl (a.Fq.map (T.int .u8)),.int .u8 a.size,.int .u8 a.vL] 5:=by
 unfold ng.t ng.cs;exact⟨rfl,rfl,λ_ _=>rfl,rfl,by simp[jR],λ_=>by simp,λ_ _=>by simp,dy,dy⟩
@[simp]theorem ng.fold (a0:List Int) (a1:List Int) (a2:List Int) (a3:Int) (a4:Int):T.agg [sl (a0.map (T.int .u8)),sl (a1.map (T.int .u8)),sl (a2.map (T.int .u8)),.int .u8 a3,.int .u8 a4]=ng.t ⟨a0,a1,a2,a3,a4⟩:=rfl
@[simp]theorem ng.eta (a:ng):ng.mk a.program a.schedule a.Fq a.size a.vL=a:=rfl
def ng.inj{a b:ng}(c:a.t=b.t):a=b:=by
 rcases a with⟨_,_,_,_,_⟩;rcases b with⟨_,_,_,_,_⟩;simp only[ng.t,ng.cs,T.agg.injEq,aL]at c;obtain⟨d,e,f,g,h,_⟩:=c;obtain rfl:=iw (λ_ _=>il) _ _ d;obtain rfl:=iw (λ_ _=>il) _ _ e;obtain rfl:=iw (λ_ _=>il) _ _ f;obtain rfl:=il g;obtain rfl:=il h;rfl
end
noncomputable section
open Go Go.TI Tryz
attribute [-simp] List.map_take List.map_drop List.map_append fw eY eg Bool.not_or Bool.not_and
attribute [simp] fq eZ
def Vd(a:Int):Prop:=0<=a/\a<256
structure Tb(v:ng):Prop where
 p:okB v.program
 q:okB v.schedule
 s:okB v.Fq
 z:Vd v.size
 w:Vd v.vL
def Qr:oa prog cx 5 (λb:ng=>[b.t,Z 16]) Tb (λ_=>VA):=by
 refine jk [(15,GL.jA),(16,FG.jA),(17,FK.jA)] (iQ 17592186046583 [(3,[(9,10)])] func5) (λ_=>105) (λa W n=>by simp at n;exact ng.inj n) ?_;rintro b d ap r;simp at r;obtain⟨G,o⟩:=r;have⟨V,aA⟩:=d.z;have⟨T,av⟩:=d.w;obtain⟨_,⟨C,rfl,H⟩,h⟩:=GL.use (b.Fq,(1+b.size% 16).toNat) ⟨d.s,dA⟩;obtain⟨_,⟨i,rfl,I⟩,l⟩:=GL.use ([],0) ⟨⟨dy,dy⟩,dy⟩;obtain⟨_,⟨S,rfl,E,hl⟩,eT⟩:=FG.use (b.program,b.schedule.take (min b.schedule.length 80)) ⟨d.p,⟨by have:=d.q.1;simp;omega,λU R=>d.q.2 U (bG R)⟩,dz⟩;obtain⟨_,⟨c,X,rfl,Q⟩,g⟩:=FK.use (S,(1+b.size% 16).toNat) ⟨E,dA,dA,dA⟩;simp only at eT g h l;rw[show(((1+b.size% 16).toNat:Nat):Int)=1+b.size% 16 by omega]at g h;have P:∀e:Int,0<=e->e<1000->IntKind.i64.wrap e=e:=λe al an=>by rw[<-jE,jK J J]
 have m:b.size.tmod 16=b.size% 16:=Int.tmod_eq_emod_of_nonneg V;have A: -9223372036854775808<=b.size:=J;have B:b.size<9223372036854775808:=J;have x:=BY (k:= .i64) (a:=b.size) (show¬(16:Int)=0 by omega);have j:=P (1+b.size% 16) J J;simp[f5,G];refine ee (λO=>?_) (λO=>?_)
 ·simp[o,A,B,x,oN,m,j,h];exact⟨C,rfl,H⟩
 have⟨k,K,L⟩:∃k:Nat,min (b.schedule.length:Int) 80=k/\k=min b.schedule.length 80:=⟨_,J,rfl⟩;rw[<-L]at eT;simp[o,K,show k<=b.schedule.length by omega,eT,A,B,x,oN,m,j,g];refine ee (λu=>?_) (λu=>?_)
 ·have D:=λ{y:fy} (ht:y.p 15=some GL.jA)=>(show rl prog cx y 15 [.gW,Z 0]=some i.t from l ht);simp[D];exact⟨i,rfl,I⟩
 have M:c≠ []:=by simpa using u
 have Y:0<c.length:=by rcases c with _|_<;>simp at M|-
 have F:b.vL.tmod (c.length:Int)=b.vL% (c.length:Int):=Int.tmod_eq_emod_of_nonneg T;have N:0<=b.vL% (c.length:Int):=Int.emod_nonneg _ J;have ae:b.vL% (c.length:Int)<c.length:=Int.emod_lt_of_pos _ J;have⟨f,v⟩:∃f,c[(b.vL% (c.length:Int)).toNat]? =some f:=⟨_,az J⟩;simp[show-9223372036854775808<=b.vL by omega,show b.vL<9223372036854775808 by omega,BY (show¬(c.length:Int)=0 by omega),F,em N,v];exact⟨f,rfl,Q f (ay v)⟩
section
attribute [-simp] size_cons
def HR(d:GX){lo hi:Int}{a b:Nat}(c:ej->Bool)(e:lo=a)(f:hi=b):d.WK lo hi c=((d.ev.drop a).take (b-a)).all c:=by
 unfold GX.WK;rw[e,f,show((b:Int)-a).toNat=b-a by omega];rfl
def Gl{d:ej->Bool}{c:List ej}{a b:Nat}{e:ej}(f:c[a]? =some e)(g:a<b):((c.drop a).take (b-a)).all d=(d e&&((c.drop (a+1)).take (b-(a+1))).all d):=by
 obtain⟨hl,rfl⟩:=List.getElem?_eq_some_iff.1 f;rw[aH hl,show b-a=(b-(a+1))+1 by omega,List.take_succ_cons,bZ]
def kl.nat{c:dR}{a:Int}(d:iP a c.dJ.length=true):∃b:Nat,a=b/\b<c.dJ.length:=by
 have:=eQ.1 d;exact⟨a.toNat,J,this.2⟩
def zk:fP:=⟨dR×im,λe=>[e.1.t,e.2.t],λe=>kl e.1/\iP e.2.a e.1.dJ.length=true/\iP e.2.b e.1.dJ.length=true,λe=> .bool (decide (e.2.c=0)&&decide (e.2.d=0)&&decide (e.2.iS=[])&&e.1.gx.TX e.2.a e.2.b),λe g f=>by simp at f;rw[dR.inj f.1,im.inj f.2]⟩
def QC:zk.Ok prog cx 64:=by
 refine fM [(111,AN)] (iQ 127 [(1,[(7,14),(9,14),(10,14),(11,14)])] func64) (λ_=>10) (by simp[zk]) ?_;rintro⟨a,⟨A,f,g,q,z,B⟩⟩ ⟨c,n,o⟩ C l;simp only at n o;replace c:kl a:=c;simp[zk]at l|-;obtain⟨j,k⟩:=l;have⟨d,a1,a2,a3,a4,a5⟩:=c.at n;have⟨u,h,i,p,x,y⟩:=c.at o;have e:=GX.TX.eq_1 a.gx f g;rw[a3,p,show a.gx.w=a.ez from rfl]at e;generalize a.gx.TX f g=v at*
 cases b:kH d u with
 |false=>
  simp[f64,j,k,a1,a2,h,i,kW,Eg,b,e]
 |true=>
  have r:d.kind=3\/d.kind=4:=by unfold kH m6 at b;simp at b;exact b.1.1.1
  have m:iP d.obj a.ez.cells.length=true:=by unfold jN at a5;rw[ao J,aq r]at a5;exact a5
  have⟨q,s,t⟩:=iD m;simp[f64,j,k,a1,a2,h,i,kW,Eg,b,e,s,t,em (eQ.1 m).1]
  ac_rfl
def F8(a:fH)(b:H):fdW b 3 No a.t=some (.val (sl (a.dH.map dM.t)) b):=by
 unfold fH.t fH.cs;simp[-fH.fold]
def zm:fP:=⟨dR×im,λe=>[e.1.t,e.2.t],λe=>kl e.1/\iP e.2.a e.1.dJ.length=true/\iP e.2.b e.1.dJ.length=true,λe=> .bool (decide (e.2.c=0)&&decide (e.2.d=0)&&decide (e.2.iS=[])&&e.1.gx.Tx e.2.a e.2.b),λe g f=>by simp at f;rw[dR.inj f.1,im.inj f.2]⟩
def QM:zm.Ok prog cx 65:=by
 refine fM [(93,mf)] (iQ 309637306140417614782923263 [(1,[(7,14),(9,14),(10,14),(11,14)]),(9,[(3,7)])] func65) (λ_=>100) (by simp[zm]) ?_;rintro⟨c,⟨av,a,b,V,W,C⟩⟩ ⟨h,w,A⟩ i L;simp only at w A;replace h:kl c:=h;simp[zm]at L|-;obtain⟨X,K⟩:=L;have⟨E,a1,a2,a3,a4,a5⟩:=h.at w;have⟨x,G,bB,T,U,bC⟩:=h.at A;have⟨O,P⟩:=h.ok.s w;have an:=λ{bi:fy} (ht:bi.p 93=some mf)=>Bi ht yA c a h;generalize pJ c.ez c.jG (c.dJ.take a.toNat)=S at*
 rw[O]at P;have⟨z,bn,bs,bu⟩:=uT P U;have f:=GX.Tx.eq_1 c.gx a b;rw[a3,T,O,bu]at f;generalize c.gx.Tx a b=Q at*
 obtain⟨e,rfl,bX⟩:=kl.nat w;obtain⟨d,rfl,b7⟩:=kl.nat A;have ca:=h.ok.len;rw[cz]at a1 G;simp[f65,X,K,a1,G,kW];refine ee (λv=>?_) (λv=>?_)
 ·have:(decide (V=0)&&decide (W=0)&&decide (C=[])&&Q)=false:=by
   rw[cC];intro n;rw[f]at n;simp only[ax,bY,aI,bK,bj]at n v;obtain⟨⟨⟨K,o⟩,q⟩,⟨⟨⟨⟨⟨⟨⟨bS,y⟩,r⟩,u⟩,Y⟩,bT⟩,bH⟩,bN⟩⟩:=n;subst q;simp[o,r,u,Y]at v;omega
  simp[this]
 simp only[bM,Bool.and_eq_false_iff,cd,bj,aI]at v;obtain⟨⟨⟨⟨⟨⟨⟨aA,aE⟩,aN⟩,aX⟩,a6⟩,a7⟩,a8⟩,cb⟩:=v;have hl:C=[]:=by cases C<;>simp at aN|-
 have b6:d<e:=J;subst aA aE hl;have ap:=HR c.gx (lo:=(d:Int)+1) (hi:=e) (a:=d+1) (b:=e) (λj=> !decide (j.dP=x.dP)) J rfl;rw[ap,show c.gx.ev=c.dJ from rfl,aY (show(d:Int)<e by omega),aY a6,aY a7,aM a8,show(decide (E.kind=18)||decide (E.kind=19))=true by simpa using aX]at f;simp;generalize m:(((hE.cons _).cons _).cons _).cons _=l;have F:l.get 0=some (dE 15 0 [c.t]):=by rw[<-m];simp
 have H:l.get 1=some (dE 6 0 [im.t ⟨av,e,d,0,0,[]⟩]):=by rw[<-m];simp
 have R:l.get 2=some (dE 7 1 [E.t]):=by rw[<-m];simp
 have I:l.get 3=some (dE 7 1 [x.t]):=by rw[<-m];simp
 have N:Hp l:=by rw[<-m];simp
 clear m;have al:binop .add (Z (d:Int)) (Z 1)=some (Z ((d:Int)+1)):=iz J J;simp[al];refine rO e (λk i n=>l=n/\d+1<=k/\((c.dJ.drop k).take (e-k)).all (λj=> !decide (j.dP=x.dP))=((c.dJ.drop (d+1)).take (e-(d+1))).all (λj=> !decide (j.dP=x.dP))/\dF i 2 (.ptr 0 0 0 0)/\dF i 3 (.ptr 1 0 0 0)/\dF i 5 (.ptr 2 0 0 0)/\dF i 6 (.ptr 3 0 0 0)/\dF i 7 (Z k)) ?_ J (k:=d+1) J ?_
 ·rintro k i _ b8 ⟨rfl,b9,g,o,q,y,r,u⟩;by_cases B:k<e
  ·have M:k<c.dJ.length:=J;have ae:binop .add (Z (k:Int)) (Z 1)=some (Z ((k:Int)+1)):=iz J J;rw[Gl (az M) B]at g;simp[F,H,I,o,q,r,u,B,M];generalize c.dJ[k]=j at*
   refine ee (λD=>?_) (λD=>?_)
   ·rw[D]at g;rw[<-g]at f;simp[f,N]
   ·rw[D]at g;simp[o,q,y,r,u,ae];exact⟨k+1,J,J,J,by simpa using g,dy⟩
  ·rw[show e-k=0 by omega]at g;rw[<-g]at f;simp at f;simp[F,H,R,I,o,q,y,r,u,B,an,Lh,F8,bn,bs];exact⟨N,f.symm⟩
 ·simp
def ut:fP:=⟨dR×im,λe=>[e.1.t,e.2.t],λe=>kl e.1/\iP e.2.a e.1.dJ.length=true/\iP e.2.b e.1.dJ.length=true/\iP e.2.c e.1.dJ.length=true/\iP e.2.d e.1.dJ.length=true,λe=> .bool (decide (e.2.iS=[])&&e.1.gx.JI e.2.a e.2.b e.2.c e.2.d),λe g f=>by simp at f;rw[dR.inj f.1,im.inj f.2]⟩
def KN:ut.Ok prog cx 66:=by
 refine fM [(93,mf),(111,AN)] (iQ 324518867979139826586741578400767 [(3,[(7,28),(9,28),(10,28),(11,28),(13,28),(15,28),(16,28),(17,28),(19,28),(21,28),(22,28),(23,28),(13,29),(15,29),(16,29),(17,29),(19,29),(21,29),(22,29),(23,29),(19,30),(21,30),(22,30),(23,30)]),(11,[(3,7)])] func66) (λ_=>100) (by simp[ut]) ?_;rintro⟨c,⟨bC,a,b,x,A,G⟩⟩ ⟨i,B,E,U,V⟩ m R;simp only at B E U V;replace i:kl c:=i;simp[ut]at R|-;obtain⟨aX,a6⟩:=R;have⟨n,a1,a2,a3,a4,a5⟩:=i.at B;have⟨y,L,cb,al,cp,cy⟩:=i.at E;have⟨u,an,ap,av,cL,c1⟩:=i.at U;have⟨v,aA,aE,aN,c4,c6⟩:=i.at V;have⟨Y,ae⟩:=i.ok.s B;have bu:=λ{b7:fy} (ht:b7.p 93=some mf)=>Bi ht yA c a i;generalize pJ c.ez c.jG (c.dJ.take a.toNat)=S at*
 rw[Y]at ae;have⟨z,b8,b9,ca⟩:=uT ae a4;have f:=GX.JI.eq_1 c.gx a b x A;rw[a3,al,av,aN,Y,ca]at f;generalize c.gx.JI a b x A=I at*
 obtain⟨g,rfl,c9⟩:=kl.nat B;obtain⟨e,rfl,dd⟩:=kl.nat E;have dk:=i.ok.len;rw[cz]at a1 L;simp[f66,aX,a6];refine ee (λd=>?_) (λd=>?_)
 ·have:(decide (G=[])&&I)=false:=by
   rw[cC];intro h;rw[f]at h;simp only[ax,bY,aI,bK,bj]at h d;obtain⟨o,⟨⟨⟨⟨⟨⟨⟨⟨bi,q⟩,P⟩,Q⟩,bn⟩,l⟩,O⟩,a7⟩,a8⟩⟩:=h;subst o;simp at d;omega
  simp[this]
 simp only[bM,bj]at d;obtain⟨⟨bH,dm⟩,dn⟩:=d;have hl:G=[]:=by cases G<;>simp at bH|-
 have c7:g<e:=J;subst hl;simp[a1,L,an,ap,aA,aE,kW,Eg];refine ee (λd=>?_) (λd=>?_)
 ·have:I=false:=by
   rw[cC];intro h;rw[f]at h;simp only[ax,bY,aI,bK,bj]at h d;obtain⟨⟨⟨⟨⟨⟨⟨⟨bi,q⟩,P⟩,Q⟩,bn⟩,l⟩,O⟩,a7⟩,a8⟩:=h;simp[P,Q,l,O]at d;omega
  simp[this]
 simp only[bM,cd,bj,aI]at d;obtain⟨⟨⟨⟨bN,bS⟩,bT⟩,bX⟩,b6⟩:=d;have bB:=HR c.gx (lo:=(g:Int)) (hi:=e) (a:=g) (b:=e) (GX.Ah n.dP) rfl rfl;rw[bB,show c.gx.ev=c.dJ from rfl,aY (show(g:Int)<e by omega),aY (show x<=A by omega),aY bN,aY bS,aM bT,bX,b6]at f;simp;generalize w:(((((hE.cons _).cons _).cons _).cons _).cons _).cons _=r;have K:r.get 0=some (dE 15 0 [c.t]):=by rw[<-w];simp
 have M:r.get 1=some (dE 6 0 [im.t ⟨bC,g,e,x,A,[]⟩]):=by rw[<-w];simp
 have N:r.get 2=some (dE 7 1 [n.t]):=by rw[<-w];simp
 have X:Hp r:=by rw[<-w];simp
 clear w;refine rO e (λk m h=>r=h/\g<=k/\((c.dJ.drop k).take (e-k)).all (GX.Ah n.dP)=((c.dJ.drop g).take (e-g)).all (GX.Ah n.dP)/\dF m 2 (.ptr 0 0 0 0)/\dF m 3 (.ptr 1 0 0 0)/\dF m 5 (.ptr 2 0 0 0)/\dF m 9 (Z k)) ?_ J (k:=g) J ?_
 ·rintro k m _ de ⟨rfl,di,j,D,o,q,l⟩;by_cases F:k<e
  ·have W:k<c.dJ.length:=J;have bs:binop .add (Z (k:Int)) (Z 1)=some (Z ((k:Int)+1)):=iz J J;rw[Gl (az W) F]at j;simp[K,M,N,D,o,q,l,F,W];generalize c.dJ[k]=C at*
   have T:GX.Ah n.dP C= !(decide (C.dP=n.dP)&&decide (C.kind=15)):=rfl;refine ee (λH=>?_) (λH=>?_)
   ·rw[T,H]at j;rw[<-j]at f;simp at f;simp[f,X]
   ·rw[T,H]at j;simp[D,o,q,l,bs];exact⟨k+1,J,J,J,by simpa using j,dy⟩
  ·rw[show e-k=0 by omega]at j;rw[<-j]at f;simp at f;simp[K,M,N,D,o,q,l,F,bu,Lh,F8,b8,b9];exact⟨X,f.symm⟩
 ·simp
def M1{d:fy}(ht:d.p 45=some tq)(a:dR)(c b:Int)(g:kl a)(e:iP c a.dJ.length=true)(f:iP b a.dJ.length=true):rl prog cx d 45 [a.t,Z c,Z b]=some (.bool (a.gx.nW c b)):=gu ht Rf (a,c,b) ⟨g,e,f⟩
def Ai(c:GX)(d:Int->Int->Bool)(a:List Int)(b:Nat):Bool:=
 !decide (a.getD b 0<a.getD 0 0)&&d (a.getD ((b+1)% a.length) 0) (a.getD b 0)&&(List.range b).all λf=> !decide ((c.e (a.getD b 0)).dP=(c.e (a.getD f 0)).dP)
def Js{d:GX}{e:Int->Int->Bool}{b:List Int}(f:2<=b.length)(g:b.length<=4)(h:∀a<b.length,iP (b.getD a 0) d.ev.length=true)(i:∀a<b.length,Ai d e b a=true):d.Ga e b=true:=by
 unfold GX.Ga;simp only[ax,aI];refine⟨⟨⟨f,g⟩,List.all_eq_true.2 λk j=>?_⟩,List.all_eq_true.2 λa c=>i a (List.mem_range.1 c)⟩;obtain⟨a,c,rfl⟩:=List.mem_iff_getElem.1 j;have:=h a c;simpa[List.getD,c]using this
def oU{e:GX}{f:Int->Int->Bool}{a:List Int}(h:a.length<2\/4<a.length\/(∃b<a.length,iP (a.getD b 0) e.ev.length=false)\/∃b<a.length,Ai e f a b=false):e.Ga f a=false:=by
 rw[cC];intro d;unfold GX.Ga at d;simp only[ax,aI]at d;obtain⟨⟨⟨j,k⟩,g⟩,i⟩:=d;rcases h with h|h|⟨b,c,h⟩|⟨b,c,h⟩
 ·omega
 ·omega
 ·have:=List.all_eq_true.1 g (a.getD b 0) (by simp[List.getD,c]);rw[h]at this;simp at this
 ·have:=List.all_eq_true.1 i b (List.mem_range.2 c);unfold Ai at h;rw[h]at this;simp at this
def L4(a b:Nat)(d:b≠0)(c:a<9223372036854775808):binop .rem (Z (a:Int)) (Z (b:Int))=some (Z ((a% b:Nat):Int)):=by
 rw[BY J];rfl
def zq:fP:=⟨dR×im,λa=>[a.1.t,a.2.t],λa=>kl a.1/\a.2.iS.length<=1000000,λa=> .bool (a.1.gx.dead a.1.gx.nW a.2),λa c b=>by simp at b;rw[dR.inj b.1,im.inj b.2]⟩
def Q1:zq.Ok prog cx 62:=by
 refine fM [(45,tq),(63,Fy)] (iQ 2596148777438049903812084076904959 [] func62) (λ_=>100) (by simp[zq]) ?_;rintro⟨d,⟨V,A,C,D,E,a⟩⟩ ⟨v,aX⟩ f X;simp only at aX;replace v:kl d:=v;simp[zq]at X|-;obtain⟨an,S⟩:=X;have o:d.gx.dead d.gx.nW ⟨V,A,C,D,E,a⟩=(decide (A=0)&&decide (C=0)&&decide (D=0)&&decide (E=0)&&d.gx.Ga d.gx.nW a):=rfl;generalize d.gx.dead d.gx.nW ⟨V,A,C,D,E,a⟩=B at*
 simp[f62,an,S];refine ee (λO=>?_) (λO=>?_)
 ·have:B=false:=by
   rw[cC];intro h;rw[o]at h;simp only[ax,aI]at h;obtain⟨⟨⟨⟨S,i⟩,j⟩,ap⟩,g⟩:=h;simp[S,i,j,ap]at O;rw[oU J]at g;simp at g
  simp[this]
 simp only[bM,cd,bj,aI]at O;obtain⟨⟨⟨⟨⟨a6,a7⟩,a8⟩,bi⟩,bH⟩,bN⟩:=O;have aE:2<=a.length:=J;have aN:a.length<=4:=J;have bB:=v.ok.len;rw[a6,a7,a8,bi]at o;simp at o;simp;generalize H:(hE.cons _).cons _=s;have P:s.get 0=some (dE 15 0 [d.t]):=by rw[<-H];simp
 have Q:s.get 1=some (dE 6 0 [im.t ⟨V,A,C,D,E,a⟩]):=by rw[<-H];simp
 have N:Hp s:=by rw[<-H];simp
 clear H;refine fk a.length J (λb f h=>s=h/\(∀c<b,iP (a.getD c 0) d.dJ.length=true)/\dF f 2 (.ptr 0 0 0 0)/\dF f 3 (.ptr 1 0 0 0)/\dF f 5 (Z a.length)/\dF f 6 (Z b)) ?_ ?_ J ?_
 ·rintro b f _ n I ⟨rfl,L,i,j,g,F⟩;have u:a.getD b 0=a[b]:=by simp[List.getD,n]
  simp[P,Q,i,j,g,F,n,WJ];refine ee (λl=>?_) (λl=>?_)
  ·rw[oU (.inr (.inr (.inl ⟨b,n,by rw[u];exact(by simpa using l:iP a[b] d.dJ.length=false)⟩)))]at o;simp[o,N]
  ·simp[i,j,g,F,I];intro c r;rcases aQ c b with h|h
   ·simpa using L c h
   ·rw[show c=b by omega];simpa[n]using l
 ·rintro f _ ⟨rfl,L,i,j,g,F⟩;simp[g,F];have K:∀c (r:c<a.length),iP a[c] d.dJ.length=true:=λc r=>by simpa[List.getD,r]using L c r
  refine fk a.length J (λb f h=>s=h/\(∀c<b,Ai d.gx d.gx.nW a c=true)/\dF f 2 (.ptr 0 0 0 0)/\dF f 3 (.ptr 1 0 0 0)/\dF f 5 (Z a.length)/\dF f 7 (Z b)) ?_ ?_ J ?_
  ·rintro b f _ n I ⟨rfl,T,i,j,g,q⟩;have u:∀c (r:c<a.length),a.getD c 0=a[c]:=λc r=>by simp[List.getD,r]
   have R:0<a.length:=J;have ae:=L4 (b+1) a.length J J;have M:(b+1)% a.length<a.length:=Nat.mod_lt _ R;have w:Ai d.gx d.gx.nW a b=(!decide (a[b]<a[0])&&d.gx.nW (a[(b+1)% a.length]'M) a[b]&&(List.range b).all λk=> !decide ((d.gx.e a[b]).dP=(d.gx.e (a.getD k 0)).dP)):=by unfold Ai;rw[u _ n,u _ R,u _ M]
   generalize(b+1)% a.length=m at*
   have al:=λ{bn:fy} (ht:bn.p 45=some tq)=>M1 ht d a[m] a[b] v (K m M) (K b n);have⟨x,a1,a2,a3,a4,a5⟩:=v.at (K b n);rw[a3]at w;simp at ae;simp[P,Q,i,j,g,q,n,I,R,ae,M,al];refine ee (λl=>?_) (λl=>?_)
   ·have:Ai d.gx d.gx.nW a b=false:=by
     rw[w,cC];intro h;simp only[ax,bK,bj]at h;simp[h.1.2]at l;omega
    rw[oU (.inr (.inr (.inr ⟨b,n,this⟩)))]at o;simp[o,N]
   ·simp only[bM,cd,bj]at l;rw[l.2,aM l.1]at w;simp;refine fk b J (λk f h=>s=h/\(∀c<k,decide (x.dP=(d.gx.e (a.getD c 0)).dP)=false)/\dF f 2 (.ptr 0 0 0 0)/\dF f 3 (.ptr 1 0 0 0)/\dF f 5 (Z a.length)/\dF f 7 (Z b)/\dF f 8 (Z k)) ?_ ?_ J ?_
    ·rintro k f _ Y av ⟨rfl,U,i,j,g,q,G⟩;have z:k<a.length:=J;have⟨y,bs,bu,W,bS,bT⟩:=v.at (K k z);simp[P,Q,i,j,q,G,Y,z,n,a1,a2,bs,bu];have bC:(d.gx.e (a.getD k 0)).dP=y.dP:=by rw[u k z,W]
     refine ee (λl=>?_) (λl=>?_)
     ·have:Ai d.gx d.gx.nW a b=false:=by
       rw[w];simp;exact⟨k,Y,by simpa[z,W]using l⟩
      rw[oU (.inr (.inr (.inr ⟨b,n,this⟩)))]at o;simp[o,N]
     ·simp[i,j,g,q,G,av];intro c r;rcases aQ c k with h|h
      ·simpa using U c h
      ·rw[show c=k by omega];simp[z,W];simpa using l
    ·rintro f _ ⟨rfl,U,i,j,g,q,G⟩;simp[i,j,g,q,G,I];intro c r;rcases aQ c b with h|h
     ·exact T c h
     ·rw[show c=b by omega,w];simp;intro k aA;simpa using U k aA
    ·simp[i,j,g,q]
  ·rintro f _ ⟨rfl,T,i,j,g,q⟩;rw[Js aE aN L T]at o;simp[g,q,o,N]
  ·simp[i,j,g]
 ·simp
def oo:fP:=⟨dR×im,λa=>[a.1.t,a.2.t],λa=>kl a.1/\a.2.iS.length<=1000000,λa=> .bool (a.1.gx.vR a.2),λa c b=>by simp at b;rw[dR.inj b.1,im.inj b.2]⟩
def NS:oo.Ok prog cx 28:=by
 refine fM [(63,Fy),(62,zq),(64,zk),(65,zm),(66,ut)] (iQ 9302967882613055 [] func28) (λ_=>100) (by simp[oo]) ?_;rintro⟨f,e⟩ ⟨i,w⟩ F v;simp only at w;replace i:kl f:=i;simp[oo]at v|-;obtain⟨s,u⟩:=v;have g:=GX.vR.eq_1 f.gx e;simp only[show∀x,f.gx.yc x=iP x f.dJ.length from λ_=>rfl]at g;generalize f.gx.vR e=E at*
 have B:∀{h:fy},h.p 62=some zq->rl prog cx h 62 [f.t,e.t]=some (.bool (f.gx.dead f.gx.nW e)):=λht=>gu ht Q1 (f,e) ⟨i,w⟩;cases q:decide (e.kind=2)with
 |true=>
  rw[aq (by simpa using q)]at g;simp[f28,s,u,q,B,g]
 |false=>
  rw[ao (by simpa using q)]at g;simp[f28,s,u,q,WJ];refine ee (λm=>?_) (λm=>?_)
  ·rw[ao (by intro k;simp only[ax]at k;simp[k.1.1.1,k.1.1.2,k.1.2,k.2]at m)]at g;simp[g]
  simp only[bM,cd]at m;obtain⟨⟨⟨n,o⟩,y⟩,z⟩:=m;rw[aq (by rw[n,o,y,z];rfl)]at g;have D:∀{h:fy},h.p 64=some zk->rl prog cx h 64 [f.t,e.t]=some (.bool (decide (e.c=0)&&decide (e.d=0)&&decide (e.iS=[])&&f.gx.TX e.a e.b)):=λht=>gu ht QC (f,e) ⟨i,n,o⟩;have C:∀{h:fy},h.p 65=some zm->rl prog cx h 65 [f.t,e.t]=some (.bool (decide (e.c=0)&&decide (e.d=0)&&decide (e.iS=[])&&f.gx.Tx e.a e.b)):=λht=>gu ht QM (f,e) ⟨i,n,o⟩;have A:∀{h:fy},h.p 66=some ut->rl prog cx h 66 [f.t,e.t]=some (.bool (decide (e.iS=[])&&f.gx.JI e.a e.b e.c e.d)):=λht=>gu ht KN (f,e) ⟨i,n,o,y,z⟩;cases j:decide (e.kind=1)with
  |true=>
   rw[aq (by simpa using j)]at g;simp[j,D,g]
  |false=>
   rw[ao (by simpa using j)]at g;cases l:decide (e.kind=3)with
   |true=>
    rw[aq (by simpa using l)]at g;simp[j,l,C,g]
   |false=>
    rw[ao (by simpa using l)]at g;cases r:decide (e.kind=4)with
    |true=>
     rw[aq (by simpa using r)]at g;simp[j,l,r,A,g]
    |false=>
     rw[ao (by simpa using r)]at g;simp[j,l,r,g]
def Ed{c:fy}(ht:c.p 28=some oo)(b:dR)(a:im)(d:kl b)(hl:a.iS.length<=1000000):rl prog cx c 28 [b.t,a.t]=some (.bool (b.gx.vR a)):=gu ht NS (b,a) ⟨d,hl⟩
end
end
noncomputable section
open Go Go.TI Tryz
section
attribute [-simp] List.map_take List.map_drop List.map_append
def m8(c:Nat)(b:List Int):Bool:=b.all λa=>iP a c
def qk:fP:=⟨fU×List Int,λa=>[a.1.t,sl (a.2.map (T.int .i64))],λa=>a.2.length<=1099511627776,λa=> .bool (m8 a.1.w.dJ.length a.2),λa c b=>by simp at b;rw[fU.inj b.1,jz dy b.2]⟩
def Qo:qk.Ok prog cx 75:=by
 refine fM [] (iQ 4196311 [] func75) (λo=>o.2.length+1) (by simp[qk]) ?_;rintro⟨e,b⟩ hl d m;simp[qk]at hl m|-;obtain⟨p,q⟩:=m;simp[f75,p,q];refine fk b.length J (λc d j=>j=H.cons hE (dE 16 0 [e.t])/\dF d 2 (.ptr 0 0 0 0)/\dF d 7 (sl (b.map (T.int .i64)))/\dF d 8 (Z b.length)/\dF d 9 (Z c)/\m8 e.w.dJ.length (b.drop c)=m8 e.w.dJ.length b) ?_ ?_ J dy
 ·rintro c d j i r ⟨rfl,k,h,f,g,a⟩;rw[aH i]at a;simp only[m8,bZ]at a;by_cases l:b[c]<0
  ·have:iP b[c] e.w.dJ.length=false:=by simp[iP];omega
   rw[this,da]at a;simp[h,f,g,i,l,m8,a.symm]
  ·by_cases n:(e.w.dJ.length:Int)<=b[c]
   ·have:iP b[c] e.w.dJ.length=false:=by simp[iP];omega
    rw[this,da]at a;simp[k,h,f,g,i,l,n,m8,a.symm]
   ·have:iP b[c] e.w.dJ.length=true:=by simp[iP];omega
    rw[this,aU]at a;simp[k,h,f,g,i,r,l,n,m8,a]
 ·rintro d j ⟨rfl,k,h,f,g,a⟩;simp[m8]at a;simp[f,g,m8];exact a
def HN{c:fy}(ht:c.p 75=some qk)(b:fU)(a:List Int)(hl:a.length<=1099511627776):rl prog cx c 75 [b.t,sl (a.map (T.int .i64))]=some (.bool (m8 b.w.dJ.length a)):=gu ht Qo (b,a) hl
def sJ{d:fy}(ht:d.p 75=some qk)(a:fU)(b c:Int):rl prog cx d 75 [a.t,sl [Z b,Z c]]=some (.bool (iP b a.w.dJ.length&&iP c a.w.dJ.length)):=by
 have:=HN ht a [b,c] dy;simpa[m8]using this
def By(a:dR)(b c:Int):Bool:=iP b a.dJ.length&&iP c a.dJ.length&&decide (b<c)&&kH (lq a.dJ b) (lq a.dJ c)&& !decide ((lq a.dJ b).dP=(lq a.dJ c).dP)&& !((uR a.ez.cells (lq a.dJ b).obj).getD default).ud
def H3(b:dR):Prop:=∀a∈b.dJ,m6 a=true->iP a.obj b.ez.cells.length=true
def AL:fP:=⟨fU×Int×Int,λa=>[a.1.t,Z a.2.1,Z a.2.2],λa=>H3 a.1.w,λa=> .bool (By a.1.w a.2.1 a.2.2),λa c b=>by simp at b;rw[fU.inj b.1,b.2.1,b.2.2]⟩
def T8:AL.Ok prog cx 72:=by
 refine fM [(75,qk),(120,tg)] (iQ 67109327 [(3,[(8,14),(10,14),(11,14)])] func72) (λb=>1) (by simp[AL]) ?_;rintro⟨j,d,e⟩ r E c;simp[AL]at r c|-;obtain⟨g,h,i⟩:=c;cases l:(iP d j.w.dJ.length&&iP e j.w.dJ.length)with
 |false=>simp[f72,g,h,i,sJ,l,By,ik]
 |true=>
  have a:=l;rw[ax]at a;have⟨b,c,t⟩:=iD a.1;have⟨k,v,x⟩:=iD a.2;have A:=em (eQ.1 a.1).1;have B:=em (eQ.1 a.2).1;have n:lq j.w.dJ d=b:=by simp[lq,t]
  have o:lq j.w.dJ e=k:=by simp[lq,x]
  by_cases m:e<=d
  ·have:¬d<e:=J;simp[f72,g,h,i,sJ,l,m,By,ik,this]
  ·have p:d<e:=J;cases f:kH b k with
   |false=>simp[f72,g,h,i,sJ,m,By,ik,p,Cx,a.1,a.2,n,o,f]
   |true=>
    have u:m6 b=true:=by unfold kH at f;simp at f;exact f.1.1.1
    have q:=r b (ay c) u;have⟨D,y,z⟩:=iD q;have s:=em (eQ.1 q).1;cases C:decide (b.dP=k.dP)<;>
     simp[f72,g,h,i,sJ,m,By,ik,p,Cx,a.1,a.2,n,o,f,C,A,B,c,v,y,z,s,kW]
def YX{d:fy}(ht:d.p 72=some AL)(a:fU)(b c:Int)(e:H3 a.w):rl prog cx d 72 [a.t,Z b,Z c]=some (.bool (By a.w b c)):=gu ht T8 (a,b,c) e
end
end
noncomputable section
open Go Go.TI Tryz
attribute [-simp] List.map_take List.map_drop List.map_append fw eY eg Bool.not_or Bool.not_and
attribute [simp] fq eZ
section
attribute [-simp] size_cons
def gT(e:im):T:= .agg [Z e.kind,Z e.a,Z e.b,Z e.c,Z e.d,dD]
structure IPt where
 (w:dR) (g:im) (v:T) (es:List T)
def V8(a:IPt)(c:List T)(b:H):Prop:=c=[a.w.t,a.v,gT a.g]/\Gr b a.v 6 a.es/\hU 0 b/\kl a.w/\a.es.length<=1000000/\a.g.iS=[]
def GE(a:IPt)(e:List T)(b:H)(d:T)(c:H):Prop:=Xt b a.v 6 (a.es++if a.w.gx.vR a.g=true then [gT a.g]else []) d c
def GM:(jI IPt V8 GE).Ok prog cx 18:=by
 refine jx (tb:=⟨pt [(28,oo)],ht []⟩) iL iB (iQ 623 [] func18) (λw f=>10) (λH w f D=>by obtain⟨rfl,_⟩:=D;simp[f18]) ?_;rintro⟨g,e,n,z⟩ _ f ⟨rfl,o,v,u,hl,k⟩ L s;simp only at o u hl k;simp[gT]at s;obtain⟨A,q,B⟩:=s;have C:T.agg [Z e.kind,Z e.a,Z e.b,Z e.c,Z e.d,.gW]=e.t:=by unfold im.t im.cs;rw[k];rfl
 have j:=λ{tb:fy} (ht:tb.p 28=some oo)=>Ed ht g e u (by rw[k];simp);rw[<-C]at j;generalize r:g.gx.vR e=F at j;have h:Xt (TI.hr f) n 6 z n (((TI.hr f).cons (dE 15 0 [g.t])).cons (dE 6 0 [gT e])):=((Xt.refl (o.mono λy _=>gU f y) v.hr).cons _).cons _;have m:hU 0 (((TI.hr f).cons (dE 15 0 [g.t])).cons (dE 6 0 [gT e])):=(v.hr.cons _).cons _;have⟨K,G,i,x⟩:=h.1.yQ (cx:=cx) m RU rfl RS rfl dy (x:=gT e) rfl dz;have E:=h.trans x;unfold gT at i h m;have I:=m.low
 change jc cx _ _ _ n (.arr (f.size+1+1) 0 0 1 false)=_ at i
 simp[f18,A,B,j];refine ee (λl=>?_) (λl=>?_)
 ·subst l;simp[q,i];unfold GE;simp only[r,bF];exact E.out
 ·subst l;simp[q];unfold GE;simp only[r];simpa using h.out
abbrev A1(a:List Int):List T:=a.map (T.int .i64)
def JT(d c:H)(f b:T)(e:List Int):Prop:=Gr c b 1 (A1 e)/\∀a,dS b=some a->d.size<=a/\a<c.size/\dS f≠some a
def Xt.nb{e f g:H}{j h:T}{i:Nat}{d:List T}(b:Xt e j i d h f)(a:Nb f g):Xt e j i d h g:=by
 have p:=b.2.2.2.sz;refine⟨b.1.mono λk l=>?_,λc m n=>(a.get c J).trans (b.2.1 c m n),b.2.2.1,a.ok.hp,a.ok.low,aO p a.ok.sz⟩;have⟨_,_,_,_,o,_⟩:=b.1.box l;exact a.get k (H.fa o)
def JT.nb{g f h:H}{k e:T}{i:List Int}(a:JT g f k e i)(j:Nb f h):JT g h k e i:=
 ⟨a.1.mono λd l=>j.get d (a.2 d l).2.1,λb c=>⟨(a.2 b c).1,bD (a.2 b c).2.1 j.ok.sz,(a.2 b c).2.2⟩⟩
def JT.xt{h g i:H}{l r2 f:T}{k:List Int}{o:Nat}{m:List T}(a:JT h g l f k)(d:Xt g l o m r2 i):JT h i r2 f k:=
 ⟨a.1.mono λe j=>d.2.1 e (a.2 e j).2.1 (a.2 e j).2.2,λb c=>⟨(a.2 b c).1,bD (a.2 b c).2.1 d.2.2.2.sz,λn=>(d.2.2.1 b n).elim (a.2 b c).2.2 (λp=>by have:=(a.2 b c).2.1;omega)⟩⟩
def JT.fin{a g f:H}{i e:T}{h:List Int}(b:JT g f i e h)(j:a.size<=g.size):JT a (lO a f) i e h:=⟨b.1.out a,λc d=>⟨aO j (b.2 c d).1,(b.2 c d).2.1,(b.2 c d).2.2⟩⟩
structure Zm where
 (w:dR) (p:List Int) (pv v:T) (es:List T)
def cyR(a:Zm):List (List Int):=BP a.w.gx.ev.length (λb=>a.w.gx.vR (gC b)) (λb c=> !decide (c∈b)&&a.w.gx.nW c (pO b)) (4-a.p.length) a.p
def PY(a:Zm)(d:List T)(b:H):Prop:=d=[a.w.t,a.pv,a.v]/\Gr b a.pv 1 (A1 a.p)/\Gr b a.v 1 a.es/\(∀c,dS a.pv=some c->dS a.v≠some c)/\hU 0 b/\kl a.w/\1<=a.p.length/\a.p.length<=4/\(∀e∈a.p,iP e a.w.dJ.length=true)/\a.es.length+(cyR a).length<=1000000
def Ky(a:Zm)(f:List T)(b:H)(e:T)(c:H):Prop:=∃d,Xt b a.v 1 (a.es++d) e c/\iF (JT b c e) d (cyR a)
def ab3(k:Nat):(jI Zm (λi U h=>PY i U h/\5-i.p.length<k) Ky).Ok prog cx 19:=by
 refine xP (λi:Zm=>5-i.p.length) (λm eI=>?_) k;refine jx (tb:=⟨pt [(28,oo),(31,BZ),(45,tq)],ht [(19,jI Zm (λi U h=>PY i U h/\5-i.p.length<m) Ky)]⟩) iL iB (iQ 140738563147983 [(9,[(0,3),(3,5),(0,6)])] func19) (λU h=>100) (λi U h eC=>by obtain⟨⟨rfl,_⟩,_⟩:=eC;simp[f19]) ?_;rintro⟨c,a,w,y,es⟩ _ h ⟨⟨rfl,N,al,c1,bB,X,eD,eE,an,bi⟩,ey⟩ z b8;simp only at N al c1 X eD eE an bi ey;simp at b8;obtain⟨ef,s,D⟩:=b8;have bX:∀{tb:fy},tb.p 28=some oo->rl prog cx tb 28 [c.t,im.t ⟨2,0,0,0,0,a⟩]=some (.bool (c.gx.vR (gC a))):=λht=>Ed ht c (gC a) X (by simp[gC];omega);generalize O:(TI.hr h).cons (dE 15 0 [c.t])=j;have c9:hU h.size j:=by rw[<-O];exact(⟨bB.hr.hp,bB.hr.low,au _⟩:hU h.size (TI.hr h)).cons _
 have aN:j.size=h.size+1:=by rw[<-O];rfl
 have bT:j.get h.size=some (dE 15 0 [c.t]):=by rw[<-O];simp
 have b7:∀o,o<h.size->j.get o=h.get o:=λo F=>by rw[<-O,dT,ao dz];exact gU h o
 have c4:∀b,dS w=some b->b<h.size:=λb u=>by have⟨_,_,_,_,A,_⟩:=N.box u;exact H.fa A
 have av:∀b,dS y=some b->b<h.size:=λb u=>by have⟨_,_,_,_,A,_⟩:=al.box u;exact H.fa A
 have ae:Gr j w 1 (A1 a):=N.mono λb u=>b7 b (c4 b u);have a8:Gr j y 1 es:=al.mono λb u=>b7 b (av b u);have aA:hU 0 j:=⟨c9.hp,c9.low,aw _⟩;have eb:TI.fz j w=some (sl (A1 a)):=ae.fz dy;have eV:TI.qP j w=some (sl (A1 a)):=ae.qP dy;have e0:∀l:List T,l.length=a.length->a.length<=4->l.length*8<=70368744177664:=by intros;omega
 generalize eo:c.gx.vR (gC a)=V at bX;simp[f19,ef,s,O,N.ir,N.cells,eb,bT,bX];refine kQ (λz d=>∃r n,Xt j y 1 (es++n) r d/\iF (JT j d r) n (if V=true then [a]else [])/\dF z 1 w/\dF z 2 r/\dF z 3 (.ptr h.size 0 0 0)) (λI=>?_) (λI=>?_) ?_
 ·have⟨a6,B,M,⟨eS,eU,gA⟩,R,K,E⟩:=jV (cx:=cx) (sz:=1) aA (x:=w) (xs:=A1 a) jQ rfl mz jQ rfl rfl dy ae.jw (by simp[T.cells]) dz;have ec:Gr B y 1 es:=a8.mono λb u=>K b (by have:=av b u;omega);have⟨eR,d,e,x⟩:=ec.yQ (cx:=cx) E RR rfl jQ rfl dy (x:= .arr j.size a6 0 a.length false) rfl dz;have eL:=E.low;have e8:=aA.low;simp at M gA;rw[aN]at M R;rw[R,aN]at e;have c6:Nb j B:=⟨⟨E.hp,E.low,J⟩,K⟩;have r1:JT j B y (.arr j.size a6 0 a.length false) a:=by
   have g:=Gr.new (h:=B) (b:=j.size) (es:=A1 a) gA;rw[aG]at g;exact⟨g,λo F=>by simp at F;subst F;exact⟨au _,J,λq=>by have:=av _ q;omega⟩⟩
  have dk:=(Xt.nb (Xt.refl a8 aA) c6).trans x;have r2:=r1.xt x;rw[aN]at dk r2;simp[s,D,aN,R,M,e];exact⟨eR,_,dk,by rw[I];exact .cons r2 .nil,rfl⟩
 ·simp[s,D];exact⟨y,[],by simpa using Xt.refl a8 aA,by rw[I];exact .nil,rfl⟩
 rintro z d ⟨r,n,x,C,s,D,G⟩;have de:Xt (TI.hr h) y 1 es y j:=by rw[<-O];exact(Xt.refl (al.mono λb _=>gU h b) bB.hr).cons _
 have bu:=λs:H=>N.len (cx:=cx) s pS _ rfl;rw[aG]at bu;simp[s,bu];have P:cyR ⟨c,a,w,y,es⟩=BP c.dJ.length (λa=>c.gx.vR (gC a)) (λa v=> !decide (v∈a)&&c.gx.nW v (pO a)) (4-a.length) a:=rfl;rw[<-eo]at C;refine ee (λI=>?_) (λI=>?_)
 ·simp[D];simp at I;refine⟨n,(de.trans x).out,?_⟩;rw[P,show 4-a.length=0 by omega,BP];exact C.imp λ_ _ q=>q.fin J
 simp at I;have⟨S,eh⟩:∃S,4-a.length=S+1:=⟨3-a.length,J⟩;rw[eh,BP]at P;have⟨p0,cL⟩:∃p0:Nat,a[0]? =some (p0:Int)/\p0<c.dJ.length:=by
  have:=eQ.1 (an a[0] (aD J));exact⟨a[0].toNat,by rw[az J];congr 1;omega,J⟩
 have e6:=X.ok.len;have eu:(a.getD 0 0).toNat=p0:=by simp[List.getD,cL.1]
 rw[eu]at P;have bs:a.length-1<a.length:=J;have cp:pO a=a[a.length-1]:=by simp[pO,List.getD,bs]
 have eA:iP (pO a) c.dJ.length=true:=by rw[cp];exact an _ (aD bs)
 have aE:∀{r:T} {n:List T} {d:H},Xt j y 1 (es++n) r d->pK d 1 w (A1 a):=λx=> .inr (ae.mono λb u=>x.2.1 b (by have:=c4 b u;omega) (c1 b u));have⟨e9,dm,dn⟩:=(aE x).idx (te:=Ev) rfl rfl (i:=0) (x:= Z p0) (by simp[cL.1]) rfl;have er:binop .add (Z (p0:Int)) (Z 1)=some (Z ((p0:Int)+1)):=iz J J;have eF:binop .sub (Z (a.length:Int)) (Z 1)=some (Z ((a.length-1:Nat):Int)):=by rw[kx J J];congr 2;omega
 generalize cb:(λ(v:Nat)=>if(!decide ((v:Int)∈a)&&c.gx.nW v (pO a))=true then BP c.dJ.length (λa=>c.gx.vR (gC a)) (λa v=> !decide (v∈a)&&c.gx.nW v (pO a)) S (a++[(v:Int)])else [])=f at P;simp[s,dm,dn,er];refine rO c.dJ.length (λk z d=>p0+1<=k/\∃r n,Xt j y 1 (es++n) r d/\iF (JT j d r) n ((if c.gx.vR (gC a)=true then [a]else [])++(List.range' (p0+1) (k-(p0+1))).flatMap f)/\dF z 1 w/\dF z 2 r/\dF z 3 (.ptr h.size 0 0 0)/\dF z 7 (Z k)) ?_ J (k:=p0+1) J ?_
 ·rintro k z d e4 ⟨eX,r,n,x,C,s,D,G,W⟩;have bC:=(x.2.1 h.size J λq=>by have:=av _ q;omega).trans bT;have c7:hU 0 d:=⟨x.2.2.2.hp,x.2.2.2.low,aw _⟩;by_cases cy:k<c.dJ.length
  ·have b9:binop .add (Z (k:Int)) (Z 1)=some (Z ((k:Int)+1)):=iz J J;have⟨fb,ds,dv⟩:=(aE x).idx (te:=Ev) rfl rfl (i:=a.length-1) (x:= Z (pO a)) (by rw[cp];simp[bs]) rfl;have a7:TI.qP d w=some (sl (A1 a)):=(aE x).qP dy dy;have ea:=λ{tb:fy} (ht:tb.p 45=some tq)=>M1 ht c k (pO a) X (eQ.2 ⟨J,J⟩) eA;simp[s,G,W,bC,cy,bu,eF,ds,dv,a7,ea,Lx,show a.length<=1099511627776 by omega];refine ee (λq=>?_) (λq=>?_)
   ·have⟨a6,B,M,⟨eS,eU,gA⟩,R,K,E⟩:=jV (cx:=cx) (sz:=1) c7 (x:=w) (xs:=A1 a) jQ rfl mz jQ rfl rfl dy (aE x).jw (by simp[T.cells]) dz;have c6:Nb d B:=⟨⟨E.hp,E.low,J⟩,K⟩;have a7:=Gr.new (h:=B) (b:=d.size) (es:=A1 a) gA;have⟨dd,bN,aX,Q⟩:=a7.lP (cx:=cx) (f:=T.int .i64) E jQ rfl mz rfl dy (λx=>rfl) (k:Int) dz;have eL:=E.low;have e7:=c7.low;simp at M aX;rw[R]at aX;have ap:h.size<d.size:=by have:=x.2.2.2.sz;omega
    have b6:∀o,o<d.size->bN.get o=d.get o:=λo F=>(Q.2.1 o J dz).trans (K o F);have eN:fh (d.cons (dE 1 0 [])) B h.size=true:=fD ((K _ ap).trans (by rw[dT,ao J]));have eO:fh (d.cons (dE 1 0 [])) B (d.size+1)=true:=iU (lj _ dy);have eP:fh (B.cons (dE 1 0 [Z k])) bN h.size=true:=fD ((b6 _ ap).trans (by rw[dT,ao J];exact(K _ ap).symm));have Y:Nb d bN:=⟨⟨Q.2.2.2.hp,Q.2.2.2.low,by have:=Q.2.2.2.sz;omega⟩,b6⟩;simp[s,D,G,W,bC,M,aX,R,eN,eO,eP];have di:=Xt.nb x Y;have bn:f k=BP c.dJ.length (λa=>c.gx.vR (gC a)) (λa v=> !decide (v∈a)&&c.gx.nW v (pO a)) S (a++[(k:Int)]):=by rw[<-cb];simp only;rw[aq q]
    have ca:cyR ⟨c,a++[(k:Int)],dd,r,es++n⟩=f k:=by rw[bn];unfold cyR;simp only[aS,List.length_singleton];rw[show 4-(a.length+1)=S by omega];rfl
    have eH:jF (p0+1) c.dJ.length=List.range' (p0+1) (k-(p0+1))++k::List.range' (k+1) (c.dJ.length-(k+1)):=by
     unfold jF;rw[show c.dJ.length-(p0+1)=(k-(p0+1))+(c.dJ.length-k)by omega,<-List.range'_append_1,show p0+1+(k-(p0+1))=k by omega,show c.dJ.length-k=(c.dJ.length-(k+1))+1 by omega,List.range'_succ]
    have eB:=C.length;have et:(es++n).length+(f k).length<=1000000:=by
     rw[P,eH]at bi;simp only[aS,List.flatMap_append,br]at bi eB|-;omega
    refine mo eI dy ⟨c,a++[(k:Int)],dd,r,es++n⟩ ⟨⟨rfl,Q.1,di.1,λb u hr=>?_,⟨Y.ok.hp,Y.ok.low,aw _⟩,X,dy,dz,λL A=>?_,by rw[ca];exact et⟩,dz⟩ ?_
    ·have⟨_,_,_,_,A,_⟩:=x.1.box hr;have:=H.fa A;rcases Q.2.2.1 b u with q|q
     ·simp at q;omega
     ·omega
    ·simp at A;rcases A with A|rfl
     ·exact an L A
     ·show iP (k:Int) c.dJ.length=true;exact eQ.2 ⟨J,J⟩
    rintro r3 eW ⟨eM,bH,bS⟩;rw[ca]at bS;have ff:=bH.2.2.2.sz;have e5:h.size+1<=d.size:=ap;have fe:=Y.ok.sz;simp[s,G,W,b9];refine⟨k+1,J,J,J,r3,n++eM,?_,?_,rfl,dy⟩
    ·have:=di.trans bH;rw[aZ]at this;exact this
    ·rw[show k+1-(p0+1)=(k-(p0+1))+1 by omega,List.range'_concat,show p0+1+1*(k-(p0+1))=k by omega,List.flatMap_append,<-aZ];refine iF.append (C.imp λ_ _ L=>(L.nb Y).xt bH) ?_;simp only[br,cK,bP];exact bS.imp λ_ _ L=>⟨L.1,λo F=>⟨by have:=(L.2 o F).1;omega,(L.2 o F).2⟩⟩
   ·simp[s,D,G,W,b9];have bn:f k=[]:=by rw[<-cb];simp only;rw[ao (by rw[q];simp)]
    refine⟨k+1,J,J,J,r,n,x,?_,rfl,dy⟩;rw[show k+1-(p0+1)=(k-(p0+1))+1 by omega,List.range'_concat,show p0+1+1*(k-(p0+1))=k by omega,List.flatMap_append];simpa[bn]using C
  ·simp[D,G,W,bC,cy];refine⟨n,(de.trans x).out,?_⟩;rw[P];unfold jF;rw[show k=c.dJ.length by omega]at C;exact C.imp λ_ _ q=>q.fin J
 ·exact⟨J,r,n,x,by simpa using C,by simp[s,D,G]⟩
def nH{a b:Nat}(c:a<b):jF a b=a::jF (a+1) b:=by
 unfold jF;rw[show b-a=(b-(a+1))+1 by omega,List.range'_succ]
def o6{a b:Nat}(c:b<=a):jF a b=[]:=by unfold jF;rw[show b-a=0 by omega];rfl
def J9(a:Nat):List.range a=jF 0 a:=by unfold jF;rw[List.range_eq_range'];rfl
def my{d i:Type}(b:Nat){f:d->List i}:∀{l:List d},(∀a∈l,(f a).length<=b)->(l.flatMap f).length<=l.length*b:=by
 intro l;induction l with
 |nil=>intro _;simp
 |cons a l g=>
  intro c;rw[br,aS,aT,ci];have j:=c a dy;have k:=g λh e=>c h (by simp[e]);omega
def CI(b a:Nat):(jF b a).length<=a:=by unfold jF;simp
def HD{n:Nat}(e:n<=16){ok:List Int->Bool}{go:List Int->Int->Bool}:∀(a:Nat) (b:List Int),(BP n ok go a b).length<=17^a:=by
 intro a;induction a with
 |zero=>intro b;unfold BP;split<;>simp
 |succ a g=>
  intro b;unfold BP;rw[aS];have h:(if ok b=true then [b]else []).length<=1:=by split<;>simp
  have i:=my (17^a) (l:=jF ((b.getD 0 0).toNat+1) n) (f:=λ(c:Nat)=>if go b c=true then BP n ok go a (b++[(c:Int)])else []) λm _=>by
   split
   ·exact g _
   ·simp
  have d:=CI ((b.getD 0 0).toNat+1) n;have j:=aV (17^a) (aO d e);have k:0<17^a:=Nat.pow_pos J;rw[Nat.pow_succ];omega
def FZ(b:im->Bool)(a:im):(kr b a).length<=1:=by unfold kr;split<;>simp
def FX(a:GX)(m:a.n<=16):a.mO.length<=100000+80000:=by
 unfold GX.mO;simp only[aS];have two:∀h:Nat->Nat->im,((List.range a.n).flatMap λ(b:Nat)=>(List.range a.n).flatMap λ(c:Nat)=>kr a.vR (h b c)).length<=256:=λh=>by
  have j:=my 16 (l:=List.range a.n) (f:=λ(b:Nat)=>(List.range a.n).flatMap λ(c:Nat)=>kr a.vR (h b c)) λb _=>by
   have k:=my 1 (l:=List.range a.n) (f:=λ(c:Nat)=>kr a.vR (h b c)) λc _=>FZ _ _;rw[du]at k;omega
  rw[du]at j;omega
 have j:=two gR;have k:=two gL;have p:((List.range a.n).flatMap λ(b:Nat)=>(a.Bf b).map gC).length<=16*4913:=by
  have i:=my 4913 (l:=List.range a.n) (f:=λ(b:Nat)=>(a.Bf b).map gC) λb _=>by
   rw[aG];exact HD (show a.ev.length<=16 from m) 3 _
  rw[du]at i;omega
 have q:((List.range a.n).flatMap λ(b:Nat)=>(jF (b+1) a.n).flatMap λ(c:Nat)=>if(a.e b).dP=(a.e c).dP/\m6 (a.e b)=true/\m6 (a.e c)=true then(List.range a.n).flatMap λ(d:Nat)=>(jF d a.n).flatMap λ(g:Nat)=>kr a.vR (gA b c d g)else []).length<=16*(16*256):=by
  have i:=my (16*256) (l:=List.range a.n) (f:=λ(b:Nat)=>(jF (b+1) a.n).flatMap λ(c:Nat)=>if(a.e b).dP=(a.e c).dP/\m6 (a.e b)=true/\m6 (a.e c)=true then(List.range a.n).flatMap λ(d:Nat)=>(jF d a.n).flatMap λ(g:Nat)=>kr a.vR (gA b c d g)else []) λb _=>by
   have r:=my 256 (l:=jF (b+1) a.n) (f:=λ(c:Nat)=>if(a.e b).dP=(a.e c).dP/\m6 (a.e b)=true/\m6 (a.e c)=true then(List.range a.n).flatMap λ(d:Nat)=>(jF d a.n).flatMap λ(g:Nat)=>kr a.vR (gA b c d g)else []) λc _=>by
    split
    ·have o:=my 16 (l:=List.range a.n) (f:=λ(d:Nat)=>(jF d a.n).flatMap λ(g:Nat)=>kr a.vR (gA b c d g)) λd _=>by
      have s:=my 1 (l:=jF d a.n) (f:=λ(g:Nat)=>kr a.vR (gA b c d g)) λg _=>FZ _ _;have:=CI d a.n;omega
     rw[du]at o;omega
    ·simp
   have:=CI (b+1) a.n;omega
  rw[du]at i;omega
 omega
structure CA(w:dR)(h:H)(v:T)(es:List T)(gs:List im):Prop where
 g:Gr h v 6 es
 a:iF (FT h (λc=>1<=c/\c<h.size/\dS v≠some c) 4) es (gs.map im.t)
 ok:hU 1 h
 b0:h.get 0=some (dE 15 0 [w.t])
 v0:dS v≠some 0
def CA.step{p:dR}{n d:H}{o j:T}{g h:List T}{l m:List im}(c:CA p n o g l)(b:Xt n o 6 (g++h) j d)(q:iF (FT d (λf=>1<=f/\f<d.size/\dS j≠some f) 4) h (m.map im.t)):CA p d j (g++h) (l++m):=by
 have s:=c.ok.sz;have u:=b.2.2.2.sz;refine⟨b.1,?_,⟨b.2.2.2.hp,b.2.2.2.low,J⟩,(b.2.1 0 J c.v0).trans c.b0,λi=>(b.2.2.1 0 i).elim c.v0 J⟩;rw[List.map_append];exact(c.a.imp λ_ _ r=>r.mono λk e=>⟨⟨e.1,J,λi=>(b.2.2.1 k i).elim e.2.2 J⟩,b.2.1 k e.2.1 e.2.2⟩).append q
def acT{d:H}{b:Nat->Prop}{a:im}(e:a.iS=[])(c:Nat):FT d b (c+2) (gT a) a.t:=by
 refine .inr (.inr ⟨_,_,rfl,.cons (fV ..) (.cons (fV ..) (.cons (fV ..) (.cons (fV ..) (.cons (fV ..) (.cons (jh _ _ _ _) .nil))))),?_⟩);unfold im.t im.cs;rw[e];rfl
theorem CA.put{b:dR}{f g:H}{h i:T}{d:List T}{e:List im}{a:im}(k:CA b f h d e)(j:a.iS=[])(x:Xt f h 6 (d++if b.gx.vR a=true then [gT a]else []) i g):∃Ey,CA b g i Ey (e++kr b.gx.vR a):=by
 refine⟨_,k.step x ?_⟩;unfold kr;split
 ·exact .cons (acT j 2) .nil
 ·exact .nil
def CA.len{b:dR}{g:H}{l:T}{c:List T}{d f:List im}(k:CA b g l c d)(j:b.dJ.length<=16)(i:d++f=b.gx.mO):c.length<=1000000:=by
 have h:=k.a.length;have e:=FX b.gx j;rw[<-i]at e;simp at h e;omega
def xn:fP:=⟨dR,λa=>[a.t],λa=>kl a,λa=>sl (a.gx.mO.map im.t),λc d b=>by simp at b;rw[dR.inj b]⟩
structure Bn(x:fU):Prop where
 w:kl x.w
 s:x.CL=x.w.gx.st
def Bn.st{a:fU}(c:Bn a){e:Int}(d:iP e a.w.dJ.length=true):∃b,a.CL[e.toNat]? =some b/\a.w.gx.s e=b/\lA a.w.ez b=true/\(∀h∈b.ei,h.eJ.length<=2000):=by
 have⟨f,i⟩:=c.w.ok.s d;have g:=c.w.ok.st (eQ.1 d).2;refine⟨_,by rw[c.s];exact g,f,by rw[<-f];exact i,by rw[<-f];exact(c.w.rd d).1⟩
def uu:fP:=⟨fU×Int×Int,λa=>[a.1.t,Z a.2.1,Z a.2.2],λa=>Bn a.1/\iP a.2.1 a.1.w.dJ.length=true/\iP a.2.2 a.1.w.dJ.length=true,λa=> .bool (a.1.w.gx.w8 a.2.1 a.2.2),λa c b=>by simp at b;rw[fU.inj b.1,b.2.1,b.2.2]⟩
def Ob:uu.Ok prog cx 110:=by
 refine fM [(157,zf),(54,nK)] (iQ 36051629065113551 [(1,[(8,14),(10,14),(11,14)])] func110) (λ_=>10) (by simp[uu]) ?_;rintro⟨f,i,h⟩ ⟨p,u,A⟩ al z;simp only at p u A;simp[uu]at z|-;obtain⟨N,k,O⟩:=z;have⟨v,M,j,y,Y,ae⟩:=p.w.at u;have⟨c,I,K,L,X,n⟩:=p.w.at A;have⟨D,r,T,s,U⟩:=p.st u;have a:=GX.nW.eq_1 f.w.gx i h;rw[L,y,T,show f.w.gx.w=f.w.ez from rfl]at a;have t:f.w.gx.w8 i h=(qW v.kind&&f.w.gx.nW i h):=by rw[<-y];rfl
 generalize f.w.gx.w8 i h=C at*
 generalize f.w.gx.nW i h=V at*
 simp[f110,N,k,O,I,K,M,j,U5,kW];refine ee (λl=>?_) (λl=>?_)
 ·have:C=false:=by
   rw[t];cases Q:qW v.kind with
   |false=>rfl
   |true=>
    rw[Q]at l;have ht:c.dP=v.dP:=by simpa using l
    rw[aq ht]at a;rw[a];rfl
  simp[this]
 simp only[bM,cd,bj]at l;obtain⟨P,R⟩:=l;rw[R,aU]at t;subst t;rw[ao P]at a;simp;have o:∀b:dU,b∈D.ei->b.eJ.length<=1000000:=λb hl=>by have:=U b hl;omega
 cases B:decide (c.kind=6)with
 |true=>
  have d:c.kind=6:=by simpa using B
  have⟨b,l1,l2,l3⟩:=tI s (kX n J);have hl:=o b (ay l2);rw[aq (.inl d),l3]at a;simp[k,l1,l2,r,j,oY,hl,a]
 |false=>
  cases e:decide (c.kind=10)with
  |true=>
   have d:c.kind=10:=by simpa using e
   have⟨b,l1,l2,l3⟩:=tI s (kX n J);have hl:=o b (ay l2);rw[aq (.inr d),l3]at a;simp[k,e,l1,l2,r,j,oY,hl,a]
  |false=>
   have S:¬(c.kind=6\/c.kind=10):=by simp at B e;omega
   rw[ao S]at a;cases g:decide (c.kind=8)with
   |true=>
    have d:c.kind=8:=by simpa using g
    have⟨b,l1,l2,l3⟩:=tI s (kX n J);rw[aq d,l3]at a;have hl:=o b (ay l2);simp[k,e,g,l1,l2,r,j,a]
   |false=>
    rw[ao (by simpa using g)]at a;cases m:decide (c.kind=17)with
    |true=>
     have d:c.kind=17:=by simpa using m
     have⟨W,b,E,F,G,x,H⟩:=Ct s (oK n J);rw[aq d,H]at a;have hl:=o b (ay x);simp[k,e,g,m,E,F,G,x,r,j,a]
    |false=>
     rw[ao (by simpa using m)]at a;cases q:decide (c.kind=21)with
     |true=>
      rw[aq (by simpa using q)]at a;simp[e,g,m,q,a]
     |false=>
      rw[ao (by simpa using q)]at a;simp[e,g,m,q,a]
def CX:fP:=⟨fU×Int×Int,λa=>[a.1.t,Z a.2.1,Z a.2.2],λa=>Bn a.1,λa=> .bool ((iP a.2.1 a.1.w.dJ.length&&iP a.2.2 a.1.w.dJ.length)&&a.1.w.gx.Tx a.2.1 a.2.2),λa c b=>by simp at b;rw[fU.inj b.1,b.2.1,b.2.2]⟩
def Uc:CX.Ok prog cx 74:=by
 refine fM [(75,qk)] (iQ 1238093369775042453301102031 [(3,[(8,14),(10,14),(11,14)])] func74) (λ_=>100) (by simp[CX]) ?_;rintro⟨f,a,b⟩ p h K;replace p:Bn f:=p;simp[CX]at K|-;obtain⟨D,i,u⟩:=K;cases z:(iP a f.w.dJ.length&&iP b f.w.dJ.length)with
 |false=>simp[f74,D,i,u,sJ,z,ik]
 |true=>
  have O:=z;rw[ax]at O;obtain⟨G,L⟩:=O;have⟨H,a1,a2,a3,a4,a5⟩:=p.w.at G;have⟨A,I,bi,T,U,bn⟩:=p.w.at L;have⟨S,P,aE,aN,b6⟩:=p.st G;have⟨Q,a6,a7,a8⟩:=uT aN U;have d:=GX.Tx.eq_1 f.w.gx a b;rw[a3,T,aE,a8]at d;generalize f.w.gx.Tx a b=R at*
  obtain⟨e,rfl,bN⟩:=kl.nat G;obtain⟨c,rfl,bT⟩:=kl.nat L;have bX:=p.w.ok.len;rw[cz]at a1 I P;by_cases bS:c<e;rotate_left
  ·rw[aM (show¬(c:Int)<e by omega)]at d;simp[f74,D,i,u,sJ,z,ik,d,show e<=c by omega]
  have Y:=HR f.w.gx (lo:=(c:Int)+1) (hi:=e) (a:=c+1) (b:=e) (λo=> !decide (o.dP=A.dP)) J rfl;rw[Y,show f.w.gx.ev=f.w.dJ from rfl,aY (show(c:Int)<e by omega)]at d;have X:binop .add (Z (c:Int)) (Z 1)=some (Z ((c:Int)+1)):=iz J J;have aX:ks ((c:Int)+1)=some (c+1):=by have:=em (show(0:Int)<=((c+1:Nat):Int)by omega);simpa using this
  simp[f74,D,i,u,sJ,z,ik,show¬e<=c by omega,a1,I,kW];refine ee (λs=>?_) (λs=>?_)
  ·have:R=false:=by
    rw[cC];intro g;rw[d]at g;simp only[ax,bY,aI,bK,bj]at g s;obtain⟨⟨⟨⟨⟨⟨⟨_,bB⟩,V⟩,r⟩,l⟩,bC⟩,bs⟩,bu⟩:=g;simp[V,r,l]at s;omega
   simp[this]
  simp only[bM,Bool.and_eq_false_iff,cd,bj,aI]at s;obtain⟨⟨⟨an,ap⟩,av⟩,aA⟩:=s;rw[aY ap,aY av,aM aA,show(decide (H.kind=18)||decide (H.kind=19))=true by simpa using an]at d;simp[-List.length_take,-List.length_drop,i,u,X,aX,show c+1<=e by omega,show e<=f.w.dJ.length by omega];have bH:((f.w.dJ.drop (c+1)).take (e-(c+1))).length<=16:=dz;generalize(f.w.dJ.drop (c+1)).take (e-(c+1))=n at*
  refine fk n.length J (λy h g=>hU 4 g/\g.get 0=some (dE 16 0 [f.t])/\g.get 2=some (dE 7 1 [H.t])/\g.get 3=some (dE 7 1 [A.t])/\((n.drop y).all λo=> !decide (o.dP=A.dP))=(n.all λo=> !decide (o.dP=A.dP))/\dF h 1 (Z e)/\dF h 3 (.ptr 0 0 0 0)/\dF h 7 (.ptr 2 0 0 0)/\dF h 8 (.ptr 3 0 0 0)/\dF h 67 (sl (n.map ej.t))/\dF h 68 (Z n.length)/\dF h 69 (Z y)) ?_ ?_ J ?_
  ·rintro y h g M W ⟨j,B,C,q,k,i,E,r,l,F,v,x⟩;have ae:=j.ne (b:=0) J;have al:=j.ne (b:=2) J;have N:=j.ne (b:=3) J;rw[aH M,bZ]at k;simp[q,l,F,v,x,N,j.low,M];generalize n[y]=o at*
   refine ee (λm=>?_) (λm=>?_)
   ·rw[m]at k;rw[<-k]at d;simp at d;simp[d,j.hp]
   ·rw[m]at k;simp[i,E,r,l,F,v,x,W];exact⟨j.cons _,by simp[B,ae],by simp[C,al],by simp[q,N],by simpa using k⟩
  ·rintro h g ⟨j,B,C,q,k,i,E,r,l,F,v,x⟩;rw[bO]at k;rw[<-k]at d;simp at d;simp[B,q,i,E,l,v,x,P,a6,a7];refine ee (λm=>?_) (λm=>?_)
   ·rw[show decide (Q.iE=3)=false by simpa using m]at d;simp at d;simp[d,j.hp]
   ·rw[show decide (Q.iE=3)=true by simpa using m]at d;simp at d;simp[C,q,r,l,j.hp,d]
  ·simp[i]
def zt:fP:=⟨fU×Int×Int,λa=>[a.1.t,Z a.2.1,Z a.2.2],λa=>Bn a.1/\iP a.2.1 a.1.w.dJ.length=true/\iP a.2.2 a.1.w.dJ.length=true,λa=> .bool (a.1.w.gx.Za a.2.1 a.2.2),λa c b=>by simp at b;rw[fU.inj b.1,b.2.1,b.2.2]⟩
def Rg:zt.Ok prog cx 61:=by
 refine fM [] (iQ 18463641368405213903 [] func61) (λ_=>100) (by simp[zt]) ?_;rintro⟨g,a,b⟩ ⟨l,p,z⟩ h D;simp only at l p z;simp[zt]at D|-;obtain⟨C,u,v⟩:=D;have⟨i,a1,a2,a3,a4,a5⟩:=l.w.at p;have⟨W,B,Y,I,ae,al⟩:=l.w.at z;have⟨X,G,P,Q,aN⟩:=l.st p;have⟨S,T,U,V⟩:=uT Q a4;have d:=GX.Za.eq_1 g.w.gx a b;rw[a3,I,P,V]at d;generalize g.w.gx.Za a b=H at*
 obtain⟨c,rfl,ap⟩:=kl.nat p;obtain⟨e,rfl,aA⟩:=kl.nat z;have aE:=l.w.ok.len;rw[cz]at a1 B G;have M:=HR g.w.gx (lo:=(c:Int)+1) (hi:=e) (a:=c+1) (b:=e) (GX.Ah i.dP) J rfl;rw[M,show g.w.gx.ev=g.w.dJ from rfl]at d;have L:binop .add (Z (c:Int)) (Z 1)=some (Z ((c:Int)+1)):=iz J J;have R:ks ((c:Int)+1)=some (c+1):=by have:=em (show(0:Int)<=((c+1:Nat):Int)by omega);simpa using this
 by_cases av:c<e;rotate_left
 ·rw[aM (show¬(c:Int)<e by omega)]at d;simp[f61,C,u,v,d,show e<=c by omega,a1]
 rw[aY (show(c:Int)<e by omega),aU]at d;simp[f61,C,u,v,show¬e<=c by omega,a1,B,G,T,U];refine ee (λk=>?_) (λk=>?_)
 ·have:H=false:=by
   rw[d];cases N:decide (W.dP=i.dP)<;>cases O:S.atomic<;>simp[N,O]at k|-
  simp[this]
 simp only[bM,cd]at k;rw[k.1,k.2]at d;simp[-List.length_take,-List.length_drop,u,v,L,R,show c+1<=e by omega,show e<=g.w.dJ.length by omega];have an:((g.w.dJ.drop (c+1)).take (e-(c+1))).length<=16:=dz;generalize(g.w.dJ.drop (c+1)).take (e-(c+1))=j at*
 refine fk j.length J (λq h s=>hU 1 s/\(j.drop q).all (GX.Ah i.dP)=j.all (GX.Ah i.dP)/\dF h 7 (Z i.dP)/\dF h 50 (sl (j.map ej.t))/\dF h 51 (Z j.length)/\dF h 52 (Z q)) ?_ ?_ J ?_
 ·rintro q h s F K ⟨m,f,y,x,n,o⟩;rw[aH F,bZ]at f;simp[y,x,n,o,m.low,F];generalize j[q]=r at*
  have E:GX.Ah i.dP r= !(decide (r.dP=i.dP)&&decide (r.kind=15)):=rfl;refine ee (λA=>?_) (λA=>?_)
  ·rw[E,A]at f;rw[<-f]at d;simp at d;simp[d,m.hp]
  ·rw[E,A]at f;simp[y,x,n,o,K];exact⟨m.cons _,by simpa using f⟩
 ·rintro h s ⟨m,f,y,x,n,o⟩;rw[bO]at f;rw[<-f]at d;simp at d;simp[n,o,m.hp,d]
 ·simp
def wB:fP:=⟨fU×im,λe=>[e.1.t,e.2.t],λe=>Bn e.1/\iP e.2.a e.1.w.dJ.length=true/\iP e.2.b e.1.w.dJ.length=true/\iP e.2.c e.1.w.dJ.length=true/\iP e.2.d e.1.w.dJ.length=true,λe=> .bool (e.1.w.gx.Y3 e.2.a e.2.b e.2.c e.2.d),λe g f=>by simp at f;rw[fU.inj f.1,im.inj f.2]⟩
def Oa:wB.Ok prog cx 76:=by
 refine fM [(120,tg)] (iQ 63 [] func76) (λ_=>100) (by simp[wB]) ?_;rintro⟨a,⟨F,b,c,d,f,G⟩⟩ ⟨g,h,q,i,j⟩ K o;simp only at g h q i j;simp[wB]at o|-;obtain⟨y,z⟩:=o;have⟨L,a1,a2,a3,a4,a5⟩:=g.w.at h;have⟨H,r,s,t,B,C⟩:=g.w.at i;have⟨I,u,v,x,D,E⟩:=g.w.at j;have n:=GX.Y3.eq_1 a.w.gx b c d f;have l:=λ{k:fy} (ht:k.p 120=some tg)=>Cx ht a b d h i;have m:=λ{k:fy} (ht:k.p 120=some tg)=>Cx ht a f c j q;rw[show lq a.w.dJ b=a.w.gx.e b from rfl,show lq a.w.dJ d=a.w.gx.e d from rfl]at l;rw[show lq a.w.dJ f=a.w.gx.e f from rfl,show lq a.w.dJ c=a.w.gx.e c from rfl]at m;generalize a.w.gx.Y3 b c d f=A at*
 generalize kH (a.w.gx.e b) (a.w.gx.e d)=p1 at*
 generalize kH (a.w.gx.e f) (a.w.gx.e c)=p2 at*
 rw[a3,t,x]at n;simp[f76,y,z,a1,a2,r,s,u,v,l,m,n]
def zr:fP:=⟨fU×List Int,λa=>[a.1.t,sl (a.2.map (T.int .i64))],λa=>Bn a.1/\a.2.length<=1000000,λa=> .bool (a.1.w.gx.Ga a.1.w.gx.w8 a.2),λa c b=>by simp at b;rw[fU.inj b.1,jz dy b.2]⟩
def SC{d:fy}(ht:d.p 110=some uu)(a:fU)(c b:Int)(g:Bn a)(e:iP c a.w.dJ.length=true)(f:iP b a.w.dJ.length=true):rl prog cx d 110 [a.t,Z c,Z b]=some (.bool (a.w.gx.w8 c b)):=gu ht Ob (a,c,b) ⟨g,e,f⟩
def Q3:zr.Ok prog cx 73:=by
 refine fM [(110,uu),(75,qk)] (iQ 2361217299907134620023 [] func73) (λ_=>100) (by simp[zr]) ?_;rintro⟨f,a⟩ ⟨C,bn⟩ g W;simp only at C bn;simp[zr]at W|-;obtain⟨aN,i⟩:=W;have bS:=C.w.ok.len;have⟨D,s⟩:∃D,f.w.gx.Ga f.w.gx.w8 a=D:=⟨_,rfl⟩;rw[s];simp[f73,aN,i,HN,show a.length<=1099511627776 by omega];refine ee (λB=>?_) (λB=>?_)
 ·have:D=false:=by
   rw[<-s];simp only[bY,aI,bK]at B;rcases B with(h|h)|h
   ·exact oU J
   ·exact oU J
   ·unfold m8 at h;rw[List.all_eq_false]at h;obtain⟨d,v,bu⟩:=h;obtain⟨b,an,rfl⟩:=List.mem_iff_getElem.1 v;exact oU (.inr (.inr (.inl ⟨b,an,by simp[List.getD,an];exact(by simpa using bu:iP a[b] f.w.dJ.length=false)⟩)))
  simp[this]
 simp only[bM,cd,bj]at B;obtain⟨⟨bT,bX⟩,av⟩:=B;have a8:2<=a.length:=J;have bi:a.length<=4:=J;have z:∀c (j:c<a.length),iP a[c] f.w.dJ.length=true:=λc j=>by
  unfold m8 at av;exact List.all_eq_true.1 av _ (aD j)
 have bs:∀c<a.length,iP (a.getD c 0) f.w.gx.ev.length=true:=λc j=>by simp[List.getD,j];exact z c j
 simp[i];generalize P:H.cons _ _=G;have V:G.get 0=some (dE 16 0 [f.t]):=by rw[<-P];simp
 have U:Hp G:=by rw[<-P];simp
 clear P;refine fk a.length J (λb g h=>G=h/\(∀c<b,Ai f.w.gx f.w.gx.w8 a c=true)/\dF g 1 (sl (a.map (T.int .i64)))/\dF g 2 (.ptr 0 0 0 0)/\dF g 23 (sl (a.map (T.int .i64)))/\dF g 24 (Z a.length)/\dF g 25 (Z b)) ?_ ?_ J ?_
 ·rintro b g _ A X ⟨rfl,Q,i,l,r,n,o⟩;have S:∀c (j:c<a.length),a.getD c 0=a[c]:=λc j=>by simp[List.getD,j]
  have L:0<a.length:=J;have ap:=L4 (b+1) a.length J J;have K:(b+1)% a.length<a.length:=Nat.mod_lt _ L;have u:Ai f.w.gx f.w.gx.w8 a b=(!decide (a[b]<a[0])&&f.w.gx.w8 (a[(b+1)% a.length]'K) a[b]&&(List.range b).all λd=> !decide ((f.w.gx.e a[b]).dP=(f.w.gx.e (a.getD d 0)).dP)):=by unfold Ai;rw[S _ A,S _ L,S _ K]
  generalize(b+1)% a.length=m at*
  have aE:=λ{bC:fy} (ht:bC.p 110=some uu)=>SC ht f a[m] a[b] C (z m K) (z b A);have⟨x,a1,a2,a3,a4,a5⟩:=C.w.at (z b A);rw[a3]at u;simp at ap;have Y:Ai f.w.gx f.w.gx.w8 a b=false->D=false:=λh=>by rw[<-s];exact oU (.inr (.inr (.inr ⟨b,A,h⟩)))
  simp[V,i,l,r,n,o,A,X,L,ap,K,aE];refine ee (λk=>?_) (λk=>?_)
  ·have:Ai f.w.gx f.w.gx.w8 a b=false:=by
    rw[u,cC];intro h;simp only[ax,bK,bj]at h;simp[h.1.2]at k;omega
   simp[Y this,U]
  ·simp only[bM,cd,bj]at k;rw[k.2,aM k.1]at u;simp[-List.length_take,i,show b<=a.length by omega];have⟨q,O⟩:∃q,q=a.take b:=⟨_,rfl⟩;rw[<-O];have a7:q.length=b:=by rw[O];simp;omega
   have bB:∀d (v:d<q.length) (hl:d<a.length),q[d]=a[d]:=λd v hl=>by subst O;exact List.getElem_take
   refine fk b J (λd g h=>G=h/\(∀c<d,decide (x.dP=(f.w.gx.e (a.getD c 0)).dP)=false)/\dF g 1 (sl (a.map (T.int .i64)))/\dF g 2 (.ptr 0 0 0 0)/\dF g 6 (Z a[b])/\dF g 23 (sl (a.map (T.int .i64)))/\dF g 24 (Z a.length)/\dF g 25 (Z b)/\dF g 51 (sl (q.map (T.int .i64)))/\dF g 52 (Z b)/\dF g 53 (Z d)) ?_ ?_ J ?_
   ·rintro d g _ al a6 ⟨rfl,R,i,l,N,r,n,o,M,E,F⟩;have I:d<a.length:=J;have⟨y,bH,bN,aA,b6,b7⟩:=C.w.at (z d I);have ae:d<q.length:=J;have aX:=bB d ae I;simp[V,l,N,M,E,F,al,ae,aX,a1,a2,bH,bN];refine ee (λk=>?_) (λk=>?_)
    ·have:Ai f.w.gx f.w.gx.w8 a b=false:=by
      rw[u];simp;exact⟨d,al,by simpa[I,aA]using k⟩
     simp[Y this,U]
    ·simp[i,l,N,r,n,o,M,E,F,a6];intro c j;rcases aQ c d with h|h
     ·simpa using R c h
     ·rw[show c=d by omega];simp[I,aA];simpa using k
   ·rintro g _ ⟨rfl,R,i,l,N,r,n,o,M,E,F⟩;simp[i,l,r,n,o,E,F,X];intro c j;rcases aQ c b with h|h
    ·exact Q c h
    ·rw[show c=b by omega,u];simp;intro d v;simpa using R d v
   ·simp[i,l,r,n,o,a7]
 ·rintro g _ ⟨rfl,Q,i,l,r,n,o⟩;rw[Js a8 bi bs Q]at s;simp[n,o,s.symm,U]
 ·simp[i]
theorem kl.cells{a:dR}(g:kl a):H3 a:=λd h e=>by
 have⟨i,f⟩:=cM h;have hl:i<a.dJ.length:=(List.getElem?_eq_some_iff.1 f).1;have⟨k,b,l,m,n,c⟩:=g.at (i:=i) (eQ.2 ⟨J,by simpa using hl⟩);rw[cz,f]at b;simp only[ar]at b;subst b;have j:d.kind=3\/d.kind=4:=by unfold m6 at e;simpa using e
 unfold jN at c;rw[ao J,aq j]at c;exact c
def JC{f:fy}(ht:f.p 75=some qk)(a:fU)(b c d e:Int):rl prog cx f 75 [a.t,sl [Z b,Z c,Z d,Z e]]=some (.bool (iP b a.w.dJ.length&&iP c a.w.dJ.length&&iP d a.w.dJ.length&&iP e a.w.dJ.length)):=by
 have:=HN ht a [b,c,d,e] dy;simpa[m8,Bool.and_assoc]using this
def PM{a:fU}(d:Bn a)(b c:Int):By a.w b c=((iP b a.w.dJ.length&&iP c a.w.dJ.length)&&a.w.gx.TX b c):=by
 unfold By GX.TX GX.e dR.gx;cases iP b a.w.dJ.length<;>cases iP c a.w.dJ.length<;>simp
 ac_rfl
def zh:fP:=⟨fU×im,λa=>[a.1.t,a.2.t],λa=>Bn a.1/\a.2.iS.length<=1000000,λa=> .bool (a.1.w.gx.vG a.2),λa c b=>by simp at b;rw[fU.inj b.1,im.inj b.2]⟩
def Qu:zh.Ok prog cx 34:=by
 refine fM [(72,AL),(73,zr),(74,CX),(75,qk),(61,zt),(76,wB)] (iQ 2417851783344448572752095 [] func34) (λ_=>100) (by simp[zh]) ?_;rintro⟨f,e⟩ ⟨j,v⟩ G u;simp only at j v;simp[zh]at u|-;obtain⟨l,m⟩:=u;have g:=GX.vG.eq_1 f.w.gx e;simp only[show∀x,f.w.gx.yc x=iP x f.w.dJ.length from λ_=>rfl]at g;generalize f.w.gx.vG e=F at*
 cases i:decide (e.kind=1)with
 |true=>
  rw[aq (by simpa using i)]at g;have o:∀{h:fy},h.p 72=some AL->rl prog cx h 72 [f.t,Z e.a,Z e.b]=some (.bool ((iP e.a f.w.dJ.length&&iP e.b f.w.dJ.length)&&f.w.gx.TX e.a e.b)):=λht=>by rw[<-PM j];exact YX ht f e.a e.b j.w.cells
  simp[f34,l,m,i,o,g]
  try ac_rfl
 |false=>
  rw[ao (by simpa using i)]at g;cases k:decide (e.kind=2)with
  |true=>
   rw[aq (by simpa using k)]at g;have o:∀{h:fy},h.p 73=some zr->rl prog cx h 73 [f.t,sl (e.iS.map (T.int .i64))]=some (.bool (f.w.gx.Ga f.w.gx.w8 e.iS)):=λht=>gu ht Q3 (f,e.iS) ⟨j,v⟩;simp[f34,l,m,i,k,o,g,GX.dead]
  |false=>
   rw[ao (by simpa using k)]at g;cases n:decide (e.kind=3)with
   |true=>
    rw[aq (by simpa using n)]at g;have o:∀{h:fy},h.p 74=some CX->rl prog cx h 74 [f.t,Z e.a,Z e.b]=some (.bool ((iP e.a f.w.dJ.length&&iP e.b f.w.dJ.length)&&f.w.gx.Tx e.a e.b)):=λht=>gu ht Uc (f,e.a,e.b) j;simp[f34,l,m,i,k,n,o,g]
    try ac_rfl
   |false=>
    rw[ao (by simpa using n)]at g;cases q:decide (e.kind=4)with
    |false=>
     rw[ao (by simpa using q)]at g;simp[f34,l,m,i,k,n,q,g]
    |true=>
     rw[aq (by simpa using q)]at g;cases r:(iP e.a f.w.dJ.length&&iP e.b f.w.dJ.length&&iP e.c f.w.dJ.length&&iP e.d f.w.dJ.length)with
     |false=>
      rw[r]at g;cases s:decide (e.iS=[])<;>simp[f34,l,m,i,k,n,q,JC,ik,r,g,s]
     |true=>
      rw[r]at g;have A:=r;simp only[ax]at A;obtain⟨⟨⟨y,z⟩,D⟩,E⟩:=A;have B:∀{h:fy},h.p 61=some zt->rl prog cx h 61 [f.t,Z e.a,Z e.b]=some (.bool (f.w.gx.Za e.a e.b)):=λht=>gu ht Rg (f,e.a,e.b) ⟨j,y,z⟩;have C:∀{h:fy},h.p 76=some wB->rl prog cx h 76 [f.t,e.t]=some (.bool (f.w.gx.Y3 e.a e.b e.c e.d)):=λht=>gu ht Oa (f,e) ⟨j,y,z,D,E⟩;cases s:decide (e.iS=[])<;>simp[f34,l,m,i,k,n,q,JC,ik,r,B,C,g,s]
def U7{c:fy}(ht:c.p 34=some zh)(b:fU)(a:im)(d:Bn b)(hl:a.iS.length<=1000000):rl prog cx c 34 [b.t,a.t]=some (.bool (b.w.gx.vG a)):=gu ht Qu (b,a) ⟨d,hl⟩
def cv8(b:H)(a:Int)(c:0<=a)(d:a<256):Z7 cx b 302 5 ty5 (.int .u64 a)=some (.val (.int .u8 a) b):=by
 refine HG RT rfl ?_;rw[jE];unfold IntKind.wrap;simp[IntKind.bits,IntKind.signed];omega
def Mf:oa prog cx 214 (λa:Nat=>[.int .u64 a]) (λa=>a<=11) (λ_=>F0):=by
 refine jk [] (iQ 16661 [] func214) (λ_=>10) (λe f c=>by simp at c;omega) ?_;rintro(a:Nat) g h b;simp at b;have d:a=0\/a=1\/a=2\/a=3\/a=4\/a=5\/a=6\/a=7\/a=8\/a=9\/a=10\/a=11:=J;rcases d with rfl|rfl|rfl|rfl|rfl|rfl|rfl|rfl|rfl|rfl|rfl|rfl<;>simp at b<;>simp[f214,b,cv8,oN]
def S8{c:je}{g h:Nat}{d:DL}(i b:Code)(e:Env)(f:H)(a:iR):W (jB cx c h g d (.cond (.const (Value.bool false)) i b) e f) a=W (jB cx c h g d b e f) a:=rfl
def Wn:oa prog cx 165 (λa:Nat=>[.int .u64 a]) (λa=>a<=11) (λ_=>F0):=by
 refine jk [(214,Mf.jA)] (iQ 5 [] func165) (λ_=>10) (λf g d=>by simp at d;omega) ?_;rintro(a:Nat) e i b;simp at b;obtain⟨_,⟨h,rfl⟩,c⟩:=Mf.use a e;simp[f165,b,c,S8]
def V7(a:Te)(c:List T)(b:H):Prop:=c=[a.v]/\Gr b a.v 1 (gG (a.A++[a.t]))/\hU 0 b/\JX a.A/\a.t∉a.A/\a.A.length<=10
def cvu(b:H)(a:Int)(c:0<=a)(d:a<256):Z7 cx b 3 264 Pm (Z a)=some (.val (.int .u64 a) b):=by
 refine HG UN rfl ?_;rw[jE];unfold IntKind.wrap;simp[IntKind.bits,IntKind.signed];omega
def XM:(jI Te V7 GH).Ok prog cx 114:=by
 refine jx (tb:=⟨pt [(165,Wn.jA)],ht [(164,jI (Te×Int) V9 P9)]⟩) iL iB (iQ 5 [] func114) (λ_ _=>100) (λs q c l=>by obtain⟨rfl,_⟩:=l;simp[f114]) ?_;rintro⟨a,h,i⟩ _ c ⟨rfl,b,p,e,ht,hl⟩ u f;simp only at b e ht hl;simp at f;have g:=λk:H=>b.len (cx:=cx) k pS _ rfl;simp at g;have m:Gr (TI.hr c) i 1 (gG (a++[h])):=b.mono λj _=>gU c j;obtain⟨_,⟨o,rfl⟩,d⟩:=Wn.use (a.length+1) J;simp at d;simp[f114,f,g,cvu,show(a.length:Int)+1<256 by omega,show(0:Int)<=(a.length:Int)+1 by omega,d];refine iy abX dy (⟨a,h,i⟩,o) ⟨dy,m,p.hr,e,ht,hl⟩ ?_;rintro t r n;simp;exact WT.out n
structure ICo where
 (l:List Int) (v:T)
def Wh(a:ICo)(c:List T)(b:H):Prop:=c=[a.v]/\Gr b a.v 1 (gG a.l)/\hU 0 b/\JX a.l/\a.l.length<=1000
def Qh(c:ICo)(e:List T)(a:H)(d:T)(b:H):Prop:=d=c.v/\Nb a b
def N9:(jI ICo Wh Qh).Ok prog cx 115:=by
 refine jx (tb:=⟨pt [],ht []⟩) iL iB (iQ 17596514574653 [] func115) (λ_ _=>1005) (λi D a A=>by obtain⟨rfl,_⟩:=A;simp[f115]) ?_;rintro⟨b,f⟩ _ a ⟨rfl,h,C,m,hl⟩ g c;simp only at h m hl;simp at c;have e:=λw:H=>h.len (cx:=cx) w pS _ rfl;rw[aG]at e;have n:Gr (TI.hr a) f 1 (gG b):=h.mono λq _=>gU a q;have o:Nb a (lO a (TI.hr a)):=(Nb.refl C.hr).out;simp[f115,c,e];refine ee (λp=>?_) (λp=>?_)
 ·simp[c];exact⟨rfl,o⟩
 have G:2<=b.length:=by simp at p;omega
 simp;refine rO b.length (λk g v=>TI.hr a=v/\1<=k/\dF g 0 f/\dF g 3 (Z k)) ?_ J (k:=1) J (by simp[c]);rintro k g _ F ⟨rfl,E,j,l⟩;by_cases d:k<b.length
 ·have y:binop .add (Z (k:Int)) (Z 1)=some (Z ((k:Int)+1)):=iz J J;have B:binop .sub (Z (k:Int)) (Z 1)=some (Z ((k-1:Nat):Int)):=by rw[kx J J];congr 2;omega
  have⟨p1,r,s⟩:=(show pK (TI.hr a) 1 f _ from .inr n).idx (te:=Ev) rfl rfl (i:=k) (x:= Z b[k]) (by simp[d]) rfl;have⟨p2,t,u⟩:=(show pK (TI.hr a) 1 f _ from .inr n).idx (te:=Ev) rfl rfl (i:=k-1) (x:= Z b[k-1]) (by simp[show k-1<b.length by omega]) rfl;have z:¬b[k]=b[k-1]:=by
   have:=List.pairwise_iff_getElem.1 m (k-1) k J d J;omega
  simp[j,l,e,d,B,r,s,t,u,z,y];exact⟨k+1,J,J,J,dy⟩
 ·simp[j,l,e,d];exact⟨rfl,o⟩
structure LL where
 (P Q:List Int) (t:Int) (v:T) (b:Nat) (bx:iX)
def fnT(a:LL):T:= .func 117 [.ptr a.b 0 0 0]
def Y6(c:H)(a:LL):Prop:=c.get a.b=some (dE 1 0 [Z a.t])
def PX(a:LL×Int)(d:List T)(c:H):Prop:=d=[Z a.2,.ptr a.1.b 0 0 0]/\Y6 c a.1/\hU 0 c
def Kx(a:LL×Int)(e:List T)(b:H)(d:T)(c:H):Prop:=d= .bool (decide (a.2=a.1.t))/\Nb b c
def QZ:(jI (LL×Int) PX Kx).Ok prog cx 117:=by
 refine jx (tb:=⟨pt [],ht []⟩) iL iB (iQ 11 [] func117) (λ_ _=>10) (λo m a h=>by obtain⟨rfl,_⟩:=h;simp[f117]) ?_;rintro⟨⟨k,l,j,p,b,n⟩,r⟩ _ a ⟨rfl,f,i⟩ q c;simp at c;obtain⟨d,e⟩:=c;have g:(TI.hr a).get b=some (dE 1 0 [Z j]):=(gU a b).trans f;simp[f117,d,e,g];exact⟨rfl,(Nb.refl i.hr).out⟩
def We(a:LL)(c:List T)(b:H):Prop:=c=[a.v,fnT a]/\Y6 b a/\hU 0 b/\Gr b a.v 1 (gG (a.P++a.t::a.Q))/\a.t∉a.P/\a.P.length+a.Q.length<=1000
def Qe(c:LL)(e:List T)(a:H)(d:T)(b:H):Prop:=d= Z c.P.length/\Nb a b
def IH:(jI LL We Qe).Ok prog cx 166:=by
 refine jx (tb:=⟨pt [],ht [(117,jI (LL×Int) PX Kx)]⟩) iL iB (iQ 66483 [] func166) (λ_ _=>2000) (λi P p I=>by obtain⟨rfl,_⟩:=I;simp[f166]) ?_;rintro⟨a,e,j,l,o,A⟩ _ p ⟨rfl,u,N,m,ht,hl⟩ d t;simp only at m ht hl;simp[fnT]at t;obtain⟨g,c⟩:=t;have v:=λc:H=>m.len (cx:=cx) c pS _ rfl;simp at v;have z:∀b,dS l=some b->b<p.size:=λb q=>by have⟨_,_,_,_,M,_⟩:=m.box q;exact H.fa M
 simp[f166,g,v];refine rO a.length (λk d f=>Nb (TI.hr p) f/\dF d 0 l/\dF d 1 (.func 117 [.ptr o 0 0 0])/\dF d 7 (Z ((a.length:Int)+((e.length:Int)+1)))/\dF d 8 (Z k)) ?_ J (k:=0) J ⟨Nb.refl N.hr,by simp[g,c]⟩;rintro k d f R ⟨h,g,c,r,s⟩;have O:hU 0 f:=⟨h.ok.hp,h.ok.low,aw _⟩;have y:=h.hr;have D:Gr f l 1 (gG (a++j::e)):=m.mono λb q=>y.get b (z b q);have E:binop .add (Z (k:Int)) (Z 1)=some (Z ((k:Int)+1)):=iz J J;have⟨x,n⟩:∃x,(a++j::e)[k]? =some x:=⟨_,az dz⟩;have⟨p1,B,C⟩:=(show pK f 1 l _ from .inr D).idx (te:=Ev) rfl rfl (i:=k) (x:= Z x) (by rw[aW,n];rfl) rfl;simp[g,c,r,s,show(k:Int)<(a.length:Int)+((e.length:Int)+1)by omega,B,C];refine iy QZ dy (⟨a,e,j,l,o,A⟩,x) ⟨rfl,(y.get o (H.fa u)).trans u,O⟩ ?_;rintro _ Q ⟨rfl,w⟩;simp;by_cases G:k<a.length
 ·have K:¬x=j:=by
   rw[cv G]at n;rintro rfl;exact ht (ay n)
  simp[g,c,r,s,K,E];exact⟨k+1,J,J,h.trans w,dy⟩
 ·have F:k=a.length:=J;subst F;have L:x=j:=by simpa using n.symm
  simp[L];exact⟨rfl,(h.trans w).out⟩
def Xo(f:H)(g j:Ty)(h:ab)(b d e a c:Nat)(k:iX)(i:g.u= .slice h)(ht:cx.ty h=some j)(m:f.get b=some k)(o:k.sz=j.size)(n:c<=a):O9 cx f g (.arr b d e a false) (some c) none none=some (.val (.arr b d (e+c) (a-c) false) f):=by
 unfold O9;have l:jJ cx f g.u (.arr b d e a false)=true:=by
  rw[i];unfold jJ;simp only[ht,m,o,Nat.beq_refl]
 rw[l,iH,show AW none none=true from rfl,iH,show asSlice g.u (.arr b d e a false)= .arr b d e a false by rw[i];rfl];show val f (gX (Nat.ble c a) (gX (Nat.ble a a) (dW (iq (Nat.add e c)) λq=>dW (iq (Nat.sub a c)) λp=>some (T.arr b d q p false))))=_;simp[n]
def Rj{d:Nat}{b:Env}{c:H}(a:List ah)(e:af ab):jr (.call ⟨.builtin .clear,a.toArray,e⟩) cx d b c=dW (fQ (fN cx d b) a) λf=>lF .clear cx c e.toList f:=by
 show(dW (qG cx d b a) λa=>lF .clear cx c e.toList a)=_;rw[Ix]
def YT{b:H}{c a g d:Nat}{f:Bool}{e:List T}(l:Hp b)(h:b.get c=some ⟨1,a,g,f,false,e⟩)(k:d<e.length):lF .clear cx b [39] [.arr c a d 1 false]=some (.val .undef (dY b c ⟨1,a,g+1,f,false,e.set d (Z 0)⟩)):=by
 show Ek cx b 39 (.arr c a d 1 false)=_;unfold Ek rm;rw[jQ,ed];simp only[show pS.u= .slice 3 from rfl,mz,ed];rw[h,ed];simp only[Iq l (H.fa h)];show gX (Nat.beq a a) (gX (Nat.beq 1 1) (dW (kV e d [Z 0]) λi=>dW (iq g.succ) λm=>dW (some (dY b c ⟨1,a,m,f,false,i⟩)) λj=>some (lQ.val T.undef j)))=_;rw[uf,aq dz,Nat.beq_refl,iH,show Nat.beq 1 1=true from rfl,iH,ed,iM,ed,ed,List.set_eq_take_append_cons_drop,aq k];simp
def Wg(a:LL)(d:List T)(c:H):Prop:=d=[a.v,fnT a]/\Y6 c a/\hU 0 c/\Gr c a.v 1 (gG (a.P++a.t::a.Q))/\a.t∉a.P/\a.t∉a.Q/\a.P.length+a.Q.length<=1000/\dS a.v≠some a.b
def Qg(b:LL)(f:List T)(c:H)(e:T)(d:H):Prop:=Gr d e 1 (gG (b.P++b.Q))/\dS e=dS b.v/\hU c.size d/\∀a,a<c.size->dS b.v≠some a->d.get a=c.get a
def RN{P b:List Int}{t:Int}{a:Nat}(d:a<b.length):(gG (P++b.take a++(t::b).drop a)).set (P.length+a) (Z b[a])=gG (P++b.take (a+1)++(t::b).drop (a+1)):=by
 rw[<-bA,List.set_append_right _ _ dz];have c:(t::b).drop a=(t::b)[a]' dz::(t::b).drop (a+1):=aH dz;rw[c,show P.length+a-(P++b.take a).length=0 by simp;omega,cB,aR d];show gG _=gG _;congr 1;simp only[aZ,cE,List.nil_append]
def GN:(jI LL Wg Qg).Ok prog cx 116:=by
 refine jx (tb:=⟨pt [],ht [(117,jI (LL×Int) PX Kx),(166,jI LL We Qe)]⟩) iL iB (iQ 537399539 [] func116) (λ_ _=>2000) (λi a h bX=>by obtain⟨rfl,_⟩:=bX;simp[f116]) ?_;rintro⟨P,c,t,F,A,an⟩ _ h ⟨rfl,U,cy,C,a6,a7,hl,ae⟩ z aE;simp only at C a6 a7 hl ae;simp[fnT]at aE;obtain⟨s,p⟩:=aE;have L:=λp:H=>C.len (cx:=cx) p pS _ rfl;simp at L;have bn:∀b,dS F=some b->b<h.size:=λb g=>by have⟨_,_,_,_,cb,_⟩:=C.box g;exact H.fa cb
 simp[f116,s,p];refine iy IH dy ⟨P,c,t,F,A,an⟩ ⟨rfl,(gU h A).trans U,cy.hr,C.mono λb _=>gU h b,a6,hl⟩ ?_;rintro _ di ⟨rfl,cp⟩;have bB:binop .add (Z (P.length:Int)) (Z 1)=some (Z ((P.length:Int)+1)):=iz J J;simp[show¬((P.length:Int)=-1)by omega,bB];have al:=cp.hr;refine rO c.length (λd z h'=>hU h.size h'/\Gr h' F 1 (gG (P++c.take d++(t::c).drop d))/\(∀b,b<h.size->dS F≠some b->h'.get b=h.get b)/\dF z 0 F/\dF z 1 (.func 117 [.ptr A 0 0 0])/\dF z 5 (Z ((P.length+d:Nat):Int))/\dF z 6 (Z ((P.length+d+1:Nat):Int))) ?_ J (k:=0) J ⟨al.ok,by simpa using C.mono λb g=>al.get b (bn b g),λb g _=>al.get b g,by simp[s,p]⟩;rintro d z h' dk ⟨w,D,R,s,p,S,G⟩;have a8:hU 0 h':=⟨w.hp,w.low,aw _⟩;have⟨i,aN⟩:∃i,i=P.length+d:=⟨_,rfl⟩;have⟨j,u⟩:∃j,j=P.length+(c.length+1):=⟨_,rfl⟩;have bS:(P.length:Int)+((c.length:Int)+1)=j:=J;rw[<-aN]at S G;rw[bS]at L;have T:(gG (P++c.take d++(t::c).drop d)).length=j:=dz;have bC:binop .add (Z (i:Int)) (Z 1)=some (Z ((i:Int)+1)):=iz J J;have bH:binop .add (Z ((i:Int)+1)) (Z 1)=some (Z ((i:Int)+1+1)):=iz J J;by_cases Y:d<c.length
 ·have B:(P++c.take d++(t::c).drop d)[i+1]? =some c[d]:=by
   rw[cY dz,bU];rw[show d+(i+1-(P++c.take d).length)=d+1 by simp;omega];simp[Y]
  have⟨f,bs⟩:∃f,(P++c.take d++(t::c).drop d)[i]? =some f:=⟨_,az dz⟩;have⟨e,m,y,q,o,n,l,K,I⟩:=D.at (x:= Z c[d]) (i:=i+1) (by rw[aW,B];rfl);have⟨c4,c7,dm,dd,ds,V,W,b9,aX⟩:=D.at (x:= Z f) (i:=i) (by rw[aW,bs];rfl);rw[n]at V;simp at V;obtain⟨rfl,rfl⟩:=V;rw[l]at W;simp at W;obtain⟨rfl,rfl,rfl⟩:=W;rw[T]at n I aX;have ap:=RN (P:=P) (t:=t) Y;rw[<-aN]at ap;generalize b7:c[d]=N at*
  have b8:¬N=t:=λk=>a7 (by rw[<-k,<-b7];exact aD Y);subst n;simp at ae;have c1:ks ((i:Int)+1)=some (i+1):=by have:=em (show(0:Int)<=((i+1:Nat):Int)by omega);simpa using this
  simp[s,p,G,L,show(i:Int)+1<j by omega,c1,l,K,I];refine iy QZ dy (⟨P,c,t,.arr e m 0 j false,A,an⟩,N) ⟨rfl,(R A (H.fa U) (by simpa using ae)).trans U,a8⟩ ?_;rintro _ E ⟨rfl,v⟩;have X:=(v.get e (H.fa l)).trans l;have r:∀f b,(dY E e f).get b=if b=e then some f else E.get b:=λf b=>dN X f b;simp[s,p,S,G,b8,X,b9,aX,bC,bH];have M:hU h.size E:=⟨v.ok.hp,v.ok.low,aO w.sz v.ok.sz⟩;have aA:=(D.mono (h':=E) λb g=>v.get b (by simp at g;have:=H.fa l;omega)).setAt rfl X i (Z N) (h':=dY E e ⟨1,m,y+1,q,false,o.set i (Z N)⟩) (ver2:=y+1) (ex2:=q) (by rw[r,aq rfl]);rw[ap,aZ]at aA;have ea:=w.sz;exact⟨d+1,J,J,M.put _ _,aA,λb g u=>by rw[r,ao (λO=>u O.symm),v.get b J];exact R b g (by simpa using u),J⟩
 ·have bN:d=c.length:=J;subst bN;have⟨e,m,y,q,o,n,l,K,I⟩:=D.at (x:= Z ((P++c.take c.length++(t::c).drop c.length)[i]' dz)) (i:=i) (by rw[aW,az dz];rfl);rw[T]at n I;have ca:i<o.length:=by
   rcases aQ i o.length with k|k
   ·exact k
   ·rw[bQ k]at K;simp at K
  have bu:o.take j=gG (P++c.take c.length++(t::c).drop c.length):=by
   rcases D with⟨rfl,_⟩|⟨c6,c9,dn,de,dv,B,Q,av⟩
   ·simp at n
   ·rw[n]at B;simp at B;obtain⟨rfl,rfl,_⟩:=B;rw[l]at Q;simp at Q;obtain⟨_,_,rfl⟩:=Q;rw[T]at av;exact av
  subst n;have r:∀f b,(dY h' e f).get b=if b=e then some f else h'.get b:=λf b=>dN l f b;have bT:j-i=1:=J;have bi:=Xo h' pS Ev _ e m 0 j i _ rfl mz l rfl J;rw[bT,Nat.zero_add]at bi;have cL:=LZ (cx:=cx) (h:=dY h' e ⟨1,m,y+1,q,false,o.set i (Z 0)⟩) pS Ev _ e m 0 j i false _ rfl mz (by rw[r,aq rfl]) rfl J;simp[s,S,G,L,show¬(i:Int)+1<j by omega,bi,Rj,YT a8.hp l ca,cL];have M:=(w.put e ⟨1,m,y+1,q,false,o.set i (Z 0)⟩).out h;refine⟨.inr ⟨e,m,y+1,q,o.set i (Z 0),?_,by rw[fW,r,aq rfl],?_⟩,rfl,⟨M.hp,M.low,by simpa using w.sz⟩,λb g u=>by
   rw[fW,r,ao (λO=>u (by rw[O];rfl))];exact R b g u⟩
  ·simp;omega
  ·have b6:(gG (P++c)).length=i:=dz;rw[b6,List.take_set_of_le (au _)];have:=bR (List.take i) bu;rw[List.take_take,cw J]at this;rw[this,aK];show List.take i (gG (P++c++(t::c).drop c.length))=gG (P++c);rw[gG,List.map_append,cX dz,bL dz]
section
def SS{g i:Type}{f:g->i->Prop}:∀{b:List g} {a:List i},b.length=a.length->(∀(d:Nat) e c,b[d]? =some e->a[d]? =some c->f e c)->iF f b a:=by
 intro b;induction b with
 |nil=>intro a hl _;cases a with
  |nil=>exact .nil
  |cons c a=>simp at hl
 |cons e b l=>intro a hl h;cases a with
  |nil=>simp at hl
  |cons c a=>exact .cons (h 0 e c rfl rfl) (l (by simpa using hl) λd m n j k=>h (d+1) m n (by simpa using j) (by simpa using k))
def HW{b c:Type}{d:b->c->Prop}{f:List b}{g:List c}(k:iF d f g){e:Nat}{i:b}{j:c}(l:f[e]? =some i)(m:g[e]? =some j):d i j:=by
 have⟨o,a,n⟩:=k.get m;rw[l]at a;simp only[ar]at a;rw[a];exact n
structure Eu(w:dZ)(t:Int)(c0 c2 c3:T)(h:H)(es:List T)(S:fH)(ver:Nat):Prop where
 sy:Ca 4 h.size h c0 c2 c3 es S
 ok:hU 0 h
 g0:h.get 0=some (dE 6 0 [w.t])
 g1:h.get 1=some (dE 4 ver [.agg [c0,Z S.tx,c2,c3]])
 g2:h.get 2=some (dE 1 0 [Z t])
 g3:h.get 3=some (dE 4 0 [.agg [dD,Z 0,dD,dD]])
section
variable {w:dZ}{t:Int}{c0 c2 c3:T}{h h':H}{es:List T}{S:fH}{ver:Nat}
theorem Eu.put(a:Eu w t c0 c2 c3 h es S ver){b:Nat}{x:iX}(d:h.get b=some x)(j:4<=b){g:iX}{f:List T}{e:fH}(i:Ca 4 h.size (dY h b g) c0 c2 c3 f e)(ht:e.tx=S.tx):Eu w t c0 c2 c3 (dY h b g) f e ver:=
 ⟨by rw[fJ];exact i,a.ok.put _ _,by rw[dN d,ao J];exact a.g0,by rw[dN d,ao J,ht];exact a.g1,by rw[dN d,ao J];exact a.g2,by rw[dN d,ao J];exact a.g3⟩
def Eu.pL(c:Eu w t c0 c2 c3 h es S ver){a e k:Nat}{f:Bool}{l:List T}(g:dS c3=some a)(j:h.get a=some ⟨3,e,k,f,false,l⟩){i:Nat}{me:dM}(m:S.dH[i]? =some me)(d:dM->dM):
 Eu w t c0 c2 c3 (dY h a ⟨3,e,k+1,f,false,l.set i (d me).t⟩) es {S with dH:=S.dH.modify i d} ver:=by
 have:=c.put j (c.sy.b a (.inr (.inr g))).1 (c.sy.pL g j i (d me)) rfl;rw[oL m];exact this
def Eu.rg(g:Eu w t c0 c2 c3 h es S ver){d i m:Nat}{j:Bool}{n:List T}(k:dS c0=some d)(l:h.get d=some ⟨2,i,m,j,false,n⟩){c:Nat}{f:dU}(hl:S.ei[c]? =some f)(e:dU->dU){rv:T}(hr:pK h 1 rv (gG (e f).eJ))(o:∀a,dS rv=some a->4<=a/\a<h.size/\dS c0≠some a/\dS c2≠some a/\dS c3≠some a):
 Eu w t c0 c2 c3 (dY h d ⟨2,i,m+1,j,false,n.set c (.agg [Z (e f).iZ,rv])⟩) (es.set c (.agg [Z (e f).iZ,rv])) {S with ei:=S.ei.modify c e} ver:=by
 have:=g.put l (g.sy.b d (.inl k)).1 (g.sy.rg k l c hr o) rfl;rw[oL hl];exact this
def Eu.Z6(c:Eu w t c0 c2 c3 h es S ver){a f k:Nat}{g:Bool}{l:List T}(i:dS c2=some a)(j:h.get a=some ⟨1,f,k,g,false,l⟩)(d:Nat)(e:Bool):Eu w t c0 c2 c3 (dY h a ⟨1,f,k+1,g,false,l.set d (.bool e)⟩) es {S with done:=S.done.set d e} ver:=
 c.put j (c.sy.b a (.inr (.inl i))).1 (c.sy.Z6 i j d e) rfl
def Eu.tx(a:Eu w t c0 c2 c3 h es S ver)(b:Int):Eu w t c0 c2 c3 (dY h 1 (dE 4 (ver+1) [.agg [c0,Z b,c2,c3]])) es {S with tx:=b} (ver+1):=
 ⟨by rw[fJ];exact(a.sy.tx b).mono (au _) λc d _=>by rw[dN a.g1,ao J],a.ok.put _ _,by rw[dN a.g1,ao J];exact a.g0,by rw[dN a.g1,aq rfl],by rw[dN a.g1,ao J];exact a.g2,by rw[dN a.g1,ao J];exact a.g3⟩
def Eu.abs(c:Eu w t c0 c2 c3 h es S ver){l:List dM}(j:Zf h h' c3 l):Eu w t c0 c2 c3 h' es {S with dH:=l} ver:=by
 have k:∀a,a<4->dS c3≠some a:=λa d f=>by have:=(c.sy.b a (.inr (.inr f))).1;omega
 have r:=j.ok.sz;have e:∀a,dS c3≠some a->a<h.size->h'.get a=h.get a:=λa f d=>j.fr a d f;refine⟨⟨c.sy.g0.mono λa d=>e a (λf=>?_) (c.sy.b a (.inl d)).2,c.sy.g2.mono λa d=>e a (λf=>?_) (c.sy.b a (.inr (.inl d))).2,j.g,c.sy.el.imp λp q ⟨o,m,n,i⟩=>⟨o,m,n.mono λa d=>e a (i a d).2.2.2.2 (i a d).2.1,λa d=>⟨(i a d).1,by have:=(i a d).2.1;omega,(i a d).2.2⟩⟩,λa d=>⟨(c.sy.b a d).1,by have:=(c.sy.b a d).2;omega⟩⟩,⟨j.ok.hp,j.ok.low,aw _⟩,(e 0 (k 0 J) (H.fa c.g0)).trans c.g0,(e 1 (k 1 J) (H.fa c.g1)).trans c.g1,(e 2 (k 2 J) (H.fa c.g2)).trans c.g2,(e 3 (k 3 J) (H.fa c.g3)).trans c.g3⟩
 ·exact c.sy.g0.ne c.sy.g3 dB a d f
 ·exact c.sy.g2.ne c.sy.g3 dB a d f
def Eu.act(d:Eu w t c0 c2 c3 h es S ver)(ae:LkD es){f F O:Nat}{G:Bool}{P:List T}(q:dS c0=some f)(K:h.get f=some ⟨2,F,O,G,false,P⟩){l:Nat}{A:dU}(hl:S.ei[l]? =some A){o m:T}(X:es[l]? =some (.agg [o,m]))(i:∀a,dS m=some a->4<=a/\dS c0≠some a/\dS c2≠some a/\dS c3≠some a)
 {hT:H} (T7:hU h.size hT) (C:∀a,a<h.size->dS m≠some a->hT.get a=h.get a) {u:T} (v:dU->dU) (I:Gr hT u 1 (gG (v A).eJ)) (s:∀a,dS u=some a->dS m=some a\/h.size<=a):
 Eu w t c0 c2 c3 (dY hT f ⟨2,F,O+1,G,false,P.set l (.agg [Z (v A).iZ,u])⟩) (es.set l (.agg [Z (v A).iZ,u])) {S with ei:=S.ei.modify l v} ver:=by
 have z:=T7.sz;have W:=H.fa K;have al:=(d.sy.b f (.inl q)).1;have M:dS m≠some f:=λc=>(i f c).2.1 q;have L:hT.get f=_:=(C f W M).trans K;have D:∀n a,(dY hT f n).get a=if a=f then some n else hT.get a:=λn a=>dN L n a;have B:∀a,a<4->dS m≠some a:=λa q c=>by have:=(i a c).1;omega
 have p:∀n a,a<h.size->a≠f->dS m≠some a->(dY hT f n).get a=h.get a:=λn a R U V=>by rw[D,ao U];exact C a R V
 refine⟨⟨?_,d.sy.g2.mono λa c=>p _ a (d.sy.b a (.inr (.inl c))).2 (λe=>?_) (λe=>(i a e).2.2.1 c),d.sy.g3.mono λa c=>p _ a (d.sy.b a (.inr (.inr c))).2 (λe=>?_) (λe=>(i a e).2.2.2 c),SS ?_ λk x n g j=>?_,λa c=>⟨(d.sy.b a c).1,by have:=(d.sy.b a c).2;simp;omega⟩⟩,(⟨T7.hp,T7.low,aw _⟩:hU 0 hT).put _ _,?_,?_,?_,?_⟩
 ·exact(d.sy.g0.mono (h':=hT) λa c=>C a (d.sy.b a (.inl c)).2 (λe=>(i a e).2.1 c)).setAt q L l _ (by rw[D,aq rfl])
 ·subst e;exact d.sy.g2.ne d.sy.g0 dB a c q
 ·subst e;exact d.sy.g3.ne d.sy.g0 dB a c q
 ·rw[cU,List.length_modify];exact d.sy.el.length
 ·rw[cm]at g;rw[List.getElem?_modify]at j;by_cases y:l=k
  ·subst y;rw[hl]at j;simp at j;rw[aq rfl]at g;split at g
   ·simp only[ar]at g;subst g j;refine⟨u,rfl,.inr (I.mono λa c=>?_),λa c=>?_⟩
    ·rw[D,ao];rintro rfl;rcases s a c with k|k
     ·exact M k
     ·omega
    ·have⟨_,_,_,_,j,_⟩:=I.box c;have Y:=H.fa j;refine⟨?_,by simpa using Y,?_,?_,?_⟩
     ·rcases s a c with k|k
      ·exact(i a k).1
      ·omega
     ·rcases s a c with k|k
      ·exact(i a k).2.1
      ·exact λe=>by have:=(d.sy.b a (.inl e)).2;omega
     ·rcases s a c with k|k
      ·exact(i a k).2.2.1
      ·exact λe=>by have:=(d.sy.b a (.inr (.inl e))).2;omega
     ·rcases s a c with k|k
      ·exact(i a k).2.2.2
      ·exact λe=>by have:=(d.sy.b a (.inr (.inr e))).2;omega
   ·simp at g
  ·rw[ao y]at g;simp[y]at j;have⟨N,E,Q,r⟩:=HW d.sy.el g j;refine⟨N,E,Q.mono λa c=>p _ a (r a c).2.1 (λe=>(r a c).2.2.1 (by rw[e];exact q)) (λe=>y ?_),λa c=>⟨(r a c).1,by have:=(r a c).2.1;simp;omega,(r a c).2.2⟩⟩;rw[E]at g;exact ae l k m N _ _ a X g e c
 ·exact(p _ 0 (H.fa d.g0) J (B 0 J)).trans d.g0
 ·exact(p _ 1 (H.fa d.g1) J (B 1 J)).trans d.g1
 ·exact(p _ 2 (H.fa d.g2) J (B 2 J)).trans d.g2
 ·exact(p _ 3 (H.fa d.g3) J (B 3 J)).trans d.g3
end
end
structure ApO(w:dZ)(s:fH)(t k o wk:Int)(c0 c2 c3:T)(h:H)(n:Int):Prop where
 ex:∃S es ver,fg w s t k o wk=(S,n)/\Eu w t c0 c2 c3 h es S ver
structure ApF(w:dZ)(s:fH)(t k o:Int):Prop where
 en:js w s t k o=true
 cl:w.gJ.length<=1000000
 sm:Pt s
 r:∀l∈s.ei,l.eJ.length<=10
def xu:fP:=⟨dZ×fH×Int×Int×Int×Int,λa=>[a.1.t,a.2.1.t,Z a.2.2.1,Z a.2.2.2.1,Z a.2.2.2.2.1,Z a.2.2.2.2.2],λa=>ApF a.1 a.2.1 a.2.2.1 a.2.2.2.1 a.2.2.2.2.1,λa=> .tuple [(fg a.1 a.2.1 a.2.2.1 a.2.2.2.1 a.2.2.2.2.1 a.2.2.2.2.2).1.t,Z (fg a.1 a.2.1 a.2.2.1 a.2.2.2.1 a.2.2.2.2.1 a.2.2.2.2.2).2,.bool true],λa c b=>by
 obtain⟨a1,a2,a3,a4,a5,d⟩:=a;obtain⟨e,f,g,h,i,j⟩:=c;simp at b;rw[dZ.inj b.1,fH.inj b.2.1,b.2.2.1,b.2.2.2.1,b.2.2.2.2.1,b.2.2.2.2.2]⟩
def Rh:xu.Ok prog cx 71:=by
 refine yW (tb:=⟨pt [(112,nJ)],ht [(113,jI fH FC Wj),(114,jI Te V7 GH),(115,jI ICo Wh Qh),(116,jI LL Wg Qg),(118,jI JV Wb Qb),(119,jI JV Wc Qc)]⟩) iL iB (iQ 772424076352653274097095092108232752774234854811365887 [(19,[(1,4)]),(21,[(1,10)]),(32,[(4,9),(5,9)]),(35,[(4,8),(5,8)])] func71) (λ_=>1000005) (by simp[xu]) nl9 ?_;rintro⟨w,s,t,k,o,r⟩ ⟨K,eP,⟨hl,eS,ht,hr,ea⟩,dn⟩ ca eM;simp only at K eP hl eS ht hr ea dn;simp[xu]at eM|-;obtain⟨gk,cL,ds,eI,E,gv⟩:=eM;unfold js at K;simp only[ax]at K;obtain⟨⟨⟨ec,ef⟩,bB⟩,K⟩:=K;have⟨bC,bH,e6⟩:=mT ec;have fE:=λ{tb:fy} (ht:tb.p 112=some nJ)=>OM ht (w:=w) (s:=s) (t:=t) (k:=k) (o:=o) ⟨ec,ef,bB,K,eP,hr⟩
 ·simp[f71,gk,cL,ds,eI,E,fE];generalize ae:(((hE.cons _).cons _).cons _).cons _=bn;have ha:hU 0 bn:=by rw[<-ae];exact⟨dy,dy,dy⟩
  have hg:bn.size=4:=by rw[<-ae];rfl
  have ff:bn.get 0=some (dE 6 0 [w.t]):=by rw[<-ae];simp
  have fi:bn.get 1=some (dE 4 0 [s.t]):=by rw[<-ae];simp
  have fl:bn.get 2=some (dE 1 0 [Z t]):=by rw[<-ae];simp
  have I:bn.get 3=some (dE 4 0 [.agg [dD,Z 0,dD,dD]]):=by rw[<-ae];simp
  clear ae;refine iy Q9 dy s ⟨rfl,ha,hl,eS,ht,hr⟩ ?_;rintro _ Y ⟨a6,a7,a8,eF,rfl,fb,av,eA,e0⟩;rw[hg]at fb eA;have hG:=av.ok.sz;have gV:hU 0 Y:=⟨av.ok.hp,av.ok.low,aw _⟩;have eD:=(av.get 1 J).trans fi;have fs:=(av.get 0 J).trans ff;have fv:=(av.get 2 J).trans fl;have fA:=(av.get 3 J).trans I;have bi:∀v d,(dY Y 1 v).get d=if d=1 then some v else Y.get d:=λv d=>dN eD v d;have c:Eu w t a6 a7 a8 (dY Y 1 (dE 4 1 [.agg [a6,Z s.tx,a7,a8]])) eF s 1:=⟨by rw[fJ];exact fb.mono (au _) λd q _=>by rw[bi,ao J],gV.put _ _,by rw[bi,ao J];exact fs,by rw[bi,aq rfl],by rw[bi,ao J];exact fv,by rw[bi,ao J];exact fA⟩;have eB:iF (LkG (dY Y 1 (dE 4 1 [.agg [a6,Z s.tx,a7,a8]])) λd=>4<=d/\d<Y.size/\dS a6≠some d/\dS a7≠some d/\dS a8≠some d) eF s.ei:=eA.imp λM m ⟨rv,V,fB,eE⟩=>⟨rv,V,fB.mono λd q=>by rw[bi,ao (by have:=(eE d q).1;omega)],eE⟩;simp[Nr,eD,eI];generalize dY Y 1 _=N at*
  have eU:=ef;rw[<-e6]at eU;have⟨me,G,hq⟩:=iD eU;have bS:=em (eQ.1 ef).1;refine kQ (λca b7=>∃n,ApO w s t k o r a6 a7 a8 b7 n/\dF ca 7 (.ptr 1 0 0 0)/\dF ca 12 (.ptr 3 0 0 0)/\dF ca 15 (Z n)) (λan=>?_) (λan=>?_) ?_
  ·have an:k=1:=by simpa using an
   subst an
   ·have⟨y,W,aE,X,aX,A,e,l,j⟩:=c.sy.g3.at (x:=me.t) (i:=t.toNat) (by simp[G]);rw[aG]at A j;subst A;simp[c.g1,c.g2,bS,e,l,j];exact⟨_,_,_,show fg w s t 1 o r=(s.pL t (kF 2),0)by simp[fg],c.pL rfl e G (kF 2)⟩
  ·have an:¬k=1:=by simpa using an
   rcases uC bB with g|rfl|rfl|rfl|rfl|rfl|rfl|rfl|rfl|g|g|g|g
   ·exact absurd g an
   ·have⟨y,W,aE,X,aX,A,e,l,j⟩:=c.sy.g3.at (x:=me.t) (i:=t.toNat) (by simp[G]);rw[aG]at A j;subst A;simp[c.g1,c.g2,bS,e,l,j];exact⟨_,_,_,show fg w s t 2 o r=(s.pL t (kF 5),0)by simp[fg],c.pL rfl e G (kF 5)⟩
   ·simp;exact⟨_,_,_,show fg w s t 3 o r=(s,0)by simp[fg],c⟩
   ·simp;exact⟨_,_,_,show fg w s t 4 o r=(s,0)by simp[fg],c⟩
   ·simp;exact⟨_,_,_,show fg w s t 5 o r=(s,0)by simp[fg],c⟩
   ·simp[c.g1,c.g2,dX];exact⟨_,_,_,show fg w s t 12 o r=({s with tx:=t},0)by simp[fg],c.tx t⟩
   ·simp[c.g1,dX];exact⟨_,_,_,show fg w s t 13 o r=({s with tx:=-1},0)by simp[fg],c.tx (-1)⟩
   ·have⟨y,W,aE,X,aX,A,e,l,j⟩:=c.sy.g3.at (x:=me.t) (i:=t.toNat) (by simp[G]);rw[aG]at A j;subst A;simp[c.g1,c.g2,bS,e,l,j];exact⟨_,_,_,show fg w s t 14 o r=(s.pL t (λx=>{x with atomic:=true}),0)by simp[fg],c.pL rfl e G (λx=>{x with atomic:=true})⟩
   ·have⟨y,W,aE,X,aX,A,e,l,j⟩:=c.sy.g3.at (x:=me.t) (i:=t.toNat) (by simp[G]);rw[aG]at A j;subst A;simp[c.g1,c.g2,bS,e,l,j];exact⟨_,_,_,show fg w s t 15 o r=(s.pL t (λx=>{x with atomic:=false}),0)by simp[fg],c.pL rfl e G (λx=>{x with atomic:=false})⟩
   ·have F:=kX bB g;rw[<-bC]at F;have⟨B,C,dv⟩:=iD F;have D:=em (eQ.1 F).1;obtain⟨M,al,rv,rfl,bN,aA⟩:=c.sy.el.get C;obtain⟨y,W,aE,X,aX,rfl,e,l,j⟩:=c.sy.g0.at al;have b8:=H.fa e;have hj:=(c.sy.b y (.inl rfl)).1;have er:(1=N.size)=False:=by have:=H.fa c.g1;simp;omega
    have hA:(y=N.size)=False:=dz;have hs:=hr B (ay C);have hv:∀d,dS rv=some d->d<N.size:=λd q=>(aA d q).2.1;rcases g with rfl|rfl|rfl|rfl|rfl|rfl
    ·simp[E,c.g1,c.g2,D,e,l,j];exact⟨_,_,_,show fg w s t 6 o r=(s.rg o (λh=>{h with iZ:=t}),0)by simp[fg],c.rg rfl e C (λh=>{h with iZ:=t}) bN aA⟩
    ·simp[E,c.g1,D,e,l,j];exact⟨_,_,_,show fg w s t 7 o r=(s.rg o (λh=>{h with iZ:=-1}),0)by simp[fg],c.rg rfl e C (λh=>{h with iZ:=-1}) bN aA⟩
    ·have bX:=ea B (ay C);have c1:=dn B (ay C);have gD:t∉B.eJ:=by
      simp[yU,dv,mX]at K;exact K.2.2
     have⟨hb,V,gL,L⟩:=HW eB al C;simp at V;subst V;have cp:Gr N rv 1 (gG B.eJ):=gL;have⟨ey,b6,fC,aN⟩:=cp.lP (cx:=cx) (f:=T.int .i64) c.ok jQ rfl mz rfl dy (λx=>rfl) t dz;have ho:=c.ok.low;have hy:(2=N.size)=False:=by have:=H.fa c.g2;simp;omega
     simp[E,c.g1,c.g2,D,e,l,j,fC];refine iy XM dy ⟨B.eJ,t,ey⟩ ⟨rfl,aN.1,⟨aN.2.2.2.hp,aN.2.2.2.low,aw _⟩,bX,gD,c1⟩ ?_;rintro _ eL ap;have hf:=aN.2.2.2.sz;have hH:=ap.ok.sz;have dm:∀d,d<N.size->dS rv≠some d->eL.get d=N.get d:=λd bC bH=>(ap.fr d J (λq=>(aN.2.2.1 d q).elim bH J)).trans (aN.2.1 d bC bH);have gM:∀d,d<4->dS rv≠some d:=λd q k=>by have:=(L d k).1;omega
     have dd:=(dm 1 (H.fa c.g1) (gM 1 J)).trans c.g1;have e7:=(dm y b8 (λk=>(L y k).2.2.1 rfl)).trans e;have gZ:hU 0 eL:=⟨ap.ok.hp,ap.ok.low,aw _⟩;have hn:=Ja B.eJ t;simp[E,dd];refine mo N9 dy ⟨mp B.eJ t,ey⟩ ⟨rfl,ap.g,gZ,DE bX t,dA⟩ ?_;rintro R hT ⟨M,O⟩;simp only at M;rw[M];have eu:=fD (O.get 1 (H.fa dd));have t1:=(O.get 1 (H.fa dd)).trans dd;have tb:=(O.get y (H.fa e7)).trans e7;have gT:Gr hT ey 1 (gG (mp B.eJ t)):=ap.g.mono λd q=>by
      have⟨_,_,_,_,gI,_⟩:=ap.g.box q;exact O.get d (H.fa gI)
     have hI:=O.ok.sz;simp[D,tb,l,j,eu,dX,gT.ir,gT.cells];exact⟨_,_,_,show fg w s t 8 o r=(s.rg o (λh=>{h with eJ:=mp h.eJ t}),0)by simp[fg],c.act e0 rfl e C al (λd q=>⟨(L d q).1,(L d q).2.2⟩) (hT:=hT) ⟨O.ok.hp,O.ok.low,J⟩ (λd bC bH=>(O.get d J).trans (dm d bC bH)) (λh=>{h with eJ:=mp h.eJ t}) gT aN.2.2.1⟩
    ·have⟨hb,V,gL,L⟩:=HW eB al C;simp at V;subst V;have cp:Gr N rv 1 (gG B.eJ):=gL;have bX:=ea B (ay C);have c1:=dn B (ay C);have gB:t∈B.eJ:=by
      simp[yU,dv,mX]at K;exact K.2
     have⟨P,Q,c4⟩:=List.append_of_mem gB;have c6:t∉P/\t∉Q:=by
      rw[c4]at bX;have cL:=List.pairwise_append.1 bX;have ds:=List.pairwise_cons.1 cL.2.1;exact⟨λk=>by have:=cL.2.2 t k t dy;omega,λk=>by have:=ds.1 t k;omega⟩
     simp[E,c.g1,D,e,l,j];have gQ:dS rv≠some 2:=λk=>by have:=(L 2 k).1;omega
     refine mo GN dy ⟨P,Q,t,rv,2,⟨0,0,0,false,false,[]⟩⟩ ⟨rfl,c.g2,c.ok,by rw[c4]at cp;exact cp,c6.1,c6.2,by rw[c4]at c1;simp at c1|-;omega,gQ⟩ ?_;rintro R b6 ⟨cy,eO,e5,cb⟩;simp only at cy eO cb;have eH:=cb 1 (H.fa c.g1) (λk=>by have:=(L 1 k).1;omega);have gi:=cb y b8 (λk=>(L y k).2.2.1 rfl);have eu:=fD eH;have hh:=eH.trans c.g1;have fo:=gi.trans e;have gz:B.eJ.filter (λR=> !decide (R=t))=P++Q:=by
      rw[c4,List.filter_append,List.filter_cons];simp;rw[List.filter_eq_self.2 λx l=>?_,List.filter_eq_self.2 λx l=>?_]
      ·simp;exact λM=>c6.2 (by rw[<-M];exact l)
      ·simp;exact λM=>c6.1 (by rw[<-M];exact l)
     have hf:=e5.sz;simp[D,fo,l,j,eu,dX,cy.ir,cy.cells];exact⟨_,_,_,show fg w s t 9 o r=(s.rg o (λh=>{h with eJ:=h.eJ.filter λR=> !decide (R=t)}),0)by simp[fg],c.act e0 rfl e C al (λd q=>⟨(L d q).1,(L d q).2.2⟩) (hT:=b6) e5 cb (λh=>{h with eJ:=h.eJ.filter λR=> !decide (R=t)}) (by show Gr b6 R 1 (gG (B.eJ.filter _));rw[gz];exact cy) (λd q=> .inl (by rw[<-eO];exact q))⟩
    ·simp[E,c.g1,c.g2,D,e,l,j];exact⟨_,_,_,show fg w s t 10 o r=(s.rg o (λh=>{h with iZ:=t}),0)by simp[fg],c.rg rfl e C (λh=>{h with iZ:=t}) bN aA⟩
    ·simp[E,c.g1,D,e,l,j];exact⟨_,_,_,show fg w s t 11 o r=(s.rg o (λh=>{h with iZ:=-1}),0)by simp[fg],c.rg rfl e C (λh=>{h with iZ:=-1}) bN aA⟩
   ·have F:=oK bB g;have⟨d,eb,eR⟩:=iD F;have eo:=sx ec eb;rw[<-bC]at eo;have⟨B,C,dv⟩:=iD eo;have D:=em (eQ.1 F).1;have fe:=em (eQ.1 eo).1;obtain⟨M,al,rv,rfl,bN,aA⟩:=c.sy.el.get C;obtain⟨y,W,aE,X,aX,rfl,e,l,j⟩:=c.sy.g0.at al;have⟨I,fL,hd,fX,de,A,bs,c9,eh⟩:=c.sy.g3.at (x:=me.t) (i:=t.toNat) (by simp[G]);rw[aG]at A eh;subst A;have b8:=H.fa e;have eN:=H.fa bs;have er:(1=y)=False:=by have:=(c.sy.b y (.inl rfl)).1;simp;omega
    have gP:(1=I)=False:=by have:=(c.sy.b I (.inr (.inr rfl))).1;simp;omega
    have e4:(2=y)=False:=by have:=(c.sy.b y (.inl rfl)).1;simp;omega
    have gS:(2=I)=False:=by have:=(c.sy.b I (.inr (.inr rfl))).1;simp;omega
    have et:(I=y)=False:=by simp;rintro rfl;rw[e]at bs;simp at bs
    have eX:∀x,(de.set t.toNat x)[t.toNat]? =some x:=λx=>by
     have:t.toNat<de.length:=by
      rcases aQ t.toNat de.length with k|k
      ·exact k
      ·rw[bQ k]at c9;simp at c9
     rw[cm];simp[this]
    have bu:∀v,(dY N y v).get I=some ⟨3,fL,hd,fX,false,de⟩:=λv=>by rw[dN e,ao (by simpa using et)];exact bs
    have e8:=λv z=>nl (bu v) (show 1≠I by simpa using gP) z;have e9:=λv z=>nl (bu v) (show 2≠I by simpa using gS) z;have eC:=λ(f:dU->dU) (q:(f B).eJ=B.eJ)=>c.rg rfl e C f (rv:=rv) (by rw[q];exact bN) aA;rcases g with rfl|rfl|rfl|rfl
    ·have dk:=(eC (λh=>{h with iZ:=-1}) rfl).pL rfl (bu _) G (λx=>{x with iE:=3});have bT:=dk.pL (me:=(λx=>{x with iE:=3}) me) rfl ((dN (bu _) _ _).trans (aq rfl)) (i:=t.toNat) (by simp[G]) (λx=>{x with cond:=o});simp only[Cj,List.set_set]at bT;simp[E,c.g0,c.g1,c.g2,D,fe,bS,eb,e,bs,l,c9,j,eh,mr,c.ok.hp,b8,eN,er,et,e4,eX,e8,e9];exact⟨_,_,_,show fg w s t 16 o r=((s.rg d.kJ λh=>{h with iZ:=-1}).pL t (λx=>{x with iE:=3,cond:=o}),0)by simp[fg,eR],bT⟩
    ·have dk:=(eC (λh=>{h with iZ:=t}) rfl).pL rfl (bu _) G (λx=>{x with iE:=2});have bT:=dk.pL (me:=(λx=>{x with iE:=2}) me) rfl ((dN (bu _) _ _).trans (aq rfl)) (i:=t.toNat) (by simp[G]) (λx=>{x with cond:=0});simp only[Cj,List.set_set]at bT;simp[E,c.g0,c.g1,c.g2,D,fe,bS,eb,e,bs,l,c9,j,eh,mr,c.ok.hp,b8,eN,er,et,e4,eX,e8,e9];exact⟨_,_,_,show fg w s t 17 o r=((s.rg d.kJ λh=>{h with iZ:=t}).pL t (λx=>{x with iE:=2,cond:=0}),0)by simp[fg,eR],bT⟩
    ·simp[E,gv,c.g1];refine iy QE dy ⟨s,_,_,_,o,r⟩ ⟨rfl,c.sy.g3,c.ok,ht⟩ ?_;rintro _ b6 ⟨n,rfl,eV,b9⟩;simp only at eV b9;simp;exact⟨_,_,_,show fg w s t 18 o r=({s with dH:=if iA o s.dH 0=[]then s.dH else s.dH.modify n.toNat (kF 4)},n)by
      have eW:yX o r s.dH=n:=by rw[eV];rfl
      unfold fg;simp;by_cases q:iA o s.dH 0=[]
      ·rw[aq q,aq q,<-eW];unfold yX;rw[q];rfl
      ·rw[ao q,ao q,eW];rfl,c.abs b9⟩
    ·simp[E,c.g1];refine iy IE dy ⟨s,_,_,_,o,0⟩ ⟨rfl,c.sy.g3,c.ok,ht⟩ ?_;rintro _ b6 ⟨rfl,b9⟩;simp only at b9;simp;exact⟨_,_,_,show fg w s t 19 o r=({s with dH:=s.dH.map (Dp o)},((iA o s.dH 0).length:Int))by
      unfold fg;simp;intro a _;rfl,c.abs b9⟩
   ·have F:=xE bB g;rw[<-e6]at F;have⟨u,c7,gE⟩:=iD F;have D:=em (eQ.1 F).1;rcases g with rfl|rfl
    ·have⟨y,W,aE,X,aX,A,e,l,j⟩:=c.sy.g3.at (x:=u.t) (i:=o.toNat) (by simp[c7]);rw[aG]at A j;subst A;simp[E,c.g1,D,e,l,j];exact⟨_,_,_,show fg w s t 20 o r=(s.pL o (kF 1),0)by simp[fg],c.pL rfl e c7 (kF 1)⟩
    ·simp;exact⟨_,_,_,show fg w s t 21 o r=(s,0)by simp[fg],c⟩
   ·have F:=rS bB g;rw[<-bH]at F;have⟨u,c7,gE⟩:=iD F;have D:=em (eQ.1 F).1;rcases g with rfl|rfl
    ·have⟨y,W,aE,X,aX,A,e,l,j⟩:=c.sy.g2.at (x:= .bool u) (i:=o.toNat) (by simp[c7]);rw[aG]at A j;subst A;simp[E,c.g1,D,e,l,j];exact⟨_,_,_,show fg w s t 22 o r=({s with done:=s.done.set o.toNat true},0)by simp[fg],c.Z6 rfl e o.toNat true⟩
    ·simp;exact⟨_,_,_,show fg w s t 23 o r=(s,0)by simp[fg],c⟩
  ·rintro ca b7 ⟨n,⟨S,fS,hB,gy,U⟩,gw,gm,gn⟩;have⟨hC,hD,hF⟩:=U.sy.fz;have gj:∀v,(dY b7 3 v).get 3=some v:=λv=>(dN U.g3 v _).trans (aq rfl);have di:∀v,Ca 4 b7.size (dY b7 3 v) a6 a7 a8 fS S:=λv=>U.sy.mono (au _) λd q _=>by rw[dN U.g3,ao J]
   have fY:=λv=>(di v).fz.1;have gd:=λv=>(di v).fz.2.1;have gg:=λv=>(di v).fz.2.2;simp[gw,gm,gn,U.g1,U.g3,gj,dX,fY,gd,gg,gy,U.ok.hp]
def kl.apf{w:dR}(e:kl w){c:Nat}{b:ej}(h:w.dJ[c]? =some b){d:ew}(f:d=pJ w.ez w.jG (w.dJ.take c)):ApF w.ez d.fj b.dP b.kind b.obj/\(pJ w.ez w.jG (w.dJ.take (c+1))).fj=(fg w.ez d.fj b.dP b.kind b.obj (lH b)).1:=by
 have p:c<w.dJ.length:=(List.getElem?_eq_some_iff.1 h).1;have i:=e.ok.ok h;rw[<-f]at i;have⟨q,r,o⟩:=pX i;have g:rQ (1000+(w.dJ.take c).length) d:=by rw[f];exact e.sm.pJ (w:=w.ez) _
 have hl:=e.ok.len;have hr:=AI e.ok.run c;have m:JS 4 d.fj:=by rw[f];exact M6 e.ok.pL _ _ hr e.rdt
 have⟨l1,l2,l3,l4,l5,l6⟩:=g.l;have⟨s,t,u,v,x,y⟩:=lx e.wb;refine⟨⟨o,J,⟨J,J,J,λj k=>?_,g.a⟩,λj k=>?_⟩,?_⟩
 ·have:=m.len g.a j k;omega
 ·have:=m.len g.a j k;omega
 ·have n:w.dJ.take (c+1)=w.dJ.take c++[b]:=by rw[List.take_add_one,h];rfl
  rw[n];have:pJ w.ez w.jG (w.dJ.take c++[b])=(jW w.ez d b).1:=by
   rw[f];unfold pJ;rw[JP];rfl
  rw[this,ue d b i];rfl
def wD:fP:=⟨dR,λa=>[a.t],λa=>kl a,λa=> .tuple [fU.t ⟨a,a.gx.st⟩,.bool true],λc d b=>by simp at b;rw[dR.inj b]⟩
def Vk(a:dR)(b:T):List T:=[sl (a.ez.cells.map io.t),sl (a.ez.ei.map iI.t),sl (a.ez.gJ.map jb.t),sl (a.ez.d8.map T.str),sl (a.ez.dH.map T.str),sl (a.ez.iJ.map iK.t),Z a.start,sl (a.jG.fj.ei.map dU.t),Z a.jG.fj.tx,sl (a.jG.fj.done.map T.bool),sl (a.jG.fj.dH.map dM.t),sl (a.jG.cells.map (T.int .i64)),sl (a.jG.d8.map (T.int .i64)),sl (a.jG.count.map (T.int .i64)),sl (a.dJ.map ej.t),b]
def anZ:List T:=[dD,dD,dD,dD,dD,dD,Z 0,dD,Z 0,dD,dD,dD,dD,dD,dD,dD]
structure AnJ(w:dR)(h:H)(k:Nat)(v:T)(ver ver5:Nat):Prop where
 ok:hU 4 h
 b0:h.get 0=some (dE 15 0 [w.t])
 b1:h.get 1=some (dE 16 0 [.agg anZ])
 b2:h.get 2=some (dE 16 ver [.agg (Vk w v)])
 b3:h.get 3=some (dE 4 ver5 [(pJ w.ez w.jG (w.dJ.take k)).fj.t])
 g:Gr h v 4 ((w.gx.st.take k).map fH.t)
 l:∀b,dS v=some b->4<=b
def Oe:wD.Ok prog cx 33:=by
 refine fM [(71,xu)] (iQ 9223389645163727807 [] func33) (λ_=>100) (by simp[wD]) ?_;rintro(c:dR) y m ae;replace y:kl c:=y;simp[wD]at ae|-;have b9:=y.ok.len;have ca:=y.ok.pL;simp[f33,ae,show¬(16:Int)<c.dJ.length by omega,show¬(4:Int)<c.ez.dH.length by omega];refine fk c.dJ.length J (λk m h=>∃z o A,AnJ c h k z o A/\dF m 1 (.ptr 0 0 0 0)/\dF m 2 (.ptr 1 0 0 0)/\dF m 4 (.ptr 2 0 0 0)/\dF m 5 (.ptr 3 0 0 0)/\dF m 30 (sl (c.dJ.map ej.t))/\dF m 31 (Z c.dJ.length)/\dF m 32 (Z k)) ?_ ?_ J ?_
 ·rintro k m h M al ⟨z,o,A,⟨l,Y,u,r,D,v,N⟩,G,x,L,T,S,I,K⟩;have⟨bi,V⟩:=y.apf (az M) rfl;have bC:=y.ok.st M;have bH:(c.gx.st.take (k+1))=c.gx.st.take k++[(pJ c.ez c.jG (c.dJ.take k)).fj]:=by rw[List.take_add_one,bC];rfl
  generalize(pJ c.ez c.jG (c.dJ.take k)).fj=q at*
  have cp:=l.ne (b:=0) J;have cL:=l.ne (b:=1) J;have aE:=l.ne (b:=2) J;have aN:=l.ne (b:=3) J;have bS:hU 0 h:=⟨l.hp,l.low,aw _⟩;generalize ap:c.dJ[k]=d at*
  have bs:Gr (h.cons (dE 7 1 [d.t])) z 4 ((c.gx.st.take k).map fH.t):=v.mono λb U=>by
   have⟨_,_,_,_,C,_⟩:=v.box U;rw[dT,ao (by have:=H.fa C;omega)]
  have b8:(c.gx.st.take k).length<=16:=dz;have⟨s,g,P,i⟩:=bs.lP (cx:=cx) (f:=fH.t) (bS.cons _) YG rfl YJ rfl dy (λ_=>rfl) q (by simp only[show TM.bytes=80 from rfl];omega);rw[show(h.cons (dE 7 1 [d.t])).size=h.size+1 from rfl]at P;have E:∀{a7:fy},a7.p 71=some xu->rl prog cx a7 71 [c.ez.t,q.t,Z d.dP,Z d.kind,Z d.obj,Z (lH d)]=some (.tuple [(fg c.ez q d.dP d.kind d.obj (lH d)).1.t,Z (fg c.ez q d.dP d.kind d.obj (lH d)).2,.bool true]):=λht=>gu ht Rh (c.ez,q,d.dP,d.kind,d.obj,lH d) bi;have b6:=l.sz;have bX:=i.2.2.2.sz;simp at bX;have av:=l.low;have bN:∀a,a<4->dS z≠some a:=λa an j=>by have:=N a j;omega
  have F:∀a,a<4->g.get a=h.get a:=λa an=>(i.2.1 a dz (bN a an)).trans (by rw[dT,ao J]);have a0:=(F 0 J).trans Y;have a1:=(F 1 J).trans u;have a2:=(F 2 J).trans r;have a3:=(F 3 J).trans D;have X:g.get h.size=some (dE 7 1 [d.t]):=(i.2.1 h.size dy (λj=>by have⟨_,_,_,_,C,_⟩:=v.box j;have:=H.fa C;omega)).trans dy;have w:∀e a,(dY g 2 e).get a=if a=2 then some e else g.get a:=λe a=>dN a2 e a;have a8:(h.size=2)=False:=dz;have W:hU 0 g:=⟨i.2.2.2.hp,i.2.2.2.low,aw _⟩;have a6:∀e n b,dY ((dY g 2 e).cons n) g.size b=(dY g 2 e).cons b:=λe n b=>Ir _ _ _ _ dy (by have:=(W.put 2 e).low;simpa using this);have aX:(3=g.size)=False:=dz;have c1:(2=g.size)=False:=dz;have cy:(0=g.size)=False:=dz;have c4:(h.size=g.size)=False:=dz;have cb:∀e,(dY g 2 e).low<=g.size:=λe=>by have:=(W.put 2 e).low;simpa using this
  have fin:∀(n:iX),AnJ c (dY ((dY g 2 (dE 16 (o+1) [.agg (Vk c s)])).cons n) 3 (dE 4 (A+1) [(fg c.ez q d.dP d.kind d.obj (lH d)).1.t])) (k+1) s (o+1) (A+1):=λn=>by
   have Q:∀b a,(dY ((dY g 2 (dE 16 (o+1) [.agg (Vk c s)])).cons n) 3 b).get a=if a=3 then some b else((dY g 2 (dE 16 (o+1) [.agg (Vk c s)])).cons n).get a:=λb a=>mr (by simp[W.hp]) dz b a;have R:∀b a,a<g.size->a≠3->a≠2->(dY ((dY g 2 (dE 16 (o+1) [.agg (Vk c s)])).cons n) 3 b).get a=g.get a:=λb a G x bB=>by rw[Q,ao x,dT,ao dz,w,ao bB]
   have bT:=(((⟨i.2.2.2.hp,i.2.2.2.low,J⟩:hU 4 g).put 2 (dE 16 (o+1) [.agg (Vk c s)])).cons n).put 3 (dE 4 (A+1) [(fg c.ez q d.dP d.kind d.obj (lH d)).1.t]);have aA:∀a,dS s=some a->4<=a:=λa j=>(i.2.2.1 a j).elim (λj=>N a j) (λj=>by simp at j;omega);refine⟨bT,(R _ 0 J J J).trans a0,(R _ 1 J J J).trans a1,?_,?_,?_,aA⟩
   ·rw[Q,ao J,dT,ao dz,w,aq rfl]
   ·rw[Q,aq rfl,V]
   ·rw[bH];exact i.1.mono λa j=>by
     have⟨_,_,_,_,C,_⟩:=i.1.box j;have:=aA a j;exact R _ a (H.fa C) J J
  have B:lH d=if d.kind=18 then d.value else-1:=rfl;simp only[Vk]at r a2;cases O:decide (d.kind=18)with
  |true=>
   rw[aq (by simpa using O)]at B;rw[B]at E V;simp[G,x,L,T,S,I,K,M,ap,r,D,aE,aN,av,P,a0,a2,a3,X,w,a8,a6,aX,dX,i.1.ir,i.1.cells,O,E,al];rw[B]at fin;exact⟨_,_,_,fin _⟩
  |false=>
   rw[ao (by simpa using O)]at B;rw[B]at E V;simp[G,x,L,T,S,I,K,M,ap,r,D,aE,aN,av,P,a0,a2,a3,X,w,a8,a6,aX,dX,i.1.ir,i.1.cells,O,E,al];rw[B]at fin;exact⟨_,_,_,fin _⟩
 ·rintro m h ⟨z,o,A,⟨l,Y,u,r,D,v,N⟩,G,x,L,T,S,I,K⟩;simp only[Vk]at r;simp only[anZ]at u;have b7:c.gx.st.length=c.dJ.length:=by unfold dR.gx;simp[Nu]
  rw[bL J]at v;have b6:=l.sz;have w:∀e,(dY h 1 e).get 1=some e:=λe=>(dN u e 1).trans (aq rfl);have bu:∀e,Gr (dY h 1 e) z 4 (c.gx.st.map fH.t):=λe=>v.mono λb U=>by rw[dN u,ao (by have:=N b U;omega)]
  have bn:=λe=>(bu e).fz dy;simp[x,L,I,K,u,r,w,bn,dX,l.hp]
  try rfl
 ·exact⟨dD,1,1,⟨by exact⟨dy,dy,dy⟩,dy,by simp[anZ],by simp[Vk],by simp;rfl,by simpa using Gr.nil _ _,dy⟩,dy⟩
end
end
noncomputable section
open Go Go.TI
def l0:T:= .agg [(.dK [(.agg [(Z 1),(Z 1),(.str [120]),(Z 0),(Z 0),(.str [])])] false),(.dK [(.agg [(.str [116]),(Z 1),dD,(.dK [(.agg [(Z 12),(Z 1),(.str [117]),(.str []),dD,(Z 0),(Z 0),(.str []),dD,dD,dD]),(.agg [(Z 1),(Z 1),(.str [120]),(.str []),dD,(Z 1),(Z 1),(.str []),dD,dD,dD])] false)]),(.agg [(.str [117]),(Z 1),dD,(.dK [(.agg [(Z 1),(Z 1),(.str [120]),(.str []),dD,(Z 1),(Z 2),(.str []),dD,dD,dD])] false)])] false)]
def l1:T:= .dK [(.agg [(.str [120]),(Z 0),(Z 0),(.bool false),(Z 0)])] false
def l2:T:= .dK [(.agg [(Z 0),(Z 0),(Z 1)]),(.agg [(Z 0),(Z 1),(Z 1)]),(.agg [(Z 1),(Z 0),(Z 1)])] false
def l3:T:= .agg [(Z 28),(Z 0),(Z 0),(Z 0),(Z 0),(Z (.negSucc 0))]
def l4:T:= .agg [l1,dD,dD,dD,(.dK [(.str [116]),(.str [117])] false),l2,(.dK [(.agg [(Z 1),(.dK [(.agg [(Z 24),(Z 1),(Z 0),(Z 0),(Z 0),(Z 0)]),(.agg [(Z 1),(Z 0),(Z 0),(Z 0),(Z 1),(Z 1)]),(.agg [(Z 8),(Z 0),(Z 0),(Z 0),(Z 0),(Z 1)]),l3] false)]),(.agg [(Z 1),(.dK [(.agg [(Z 1),(Z 0),(Z 0),(Z 0),(Z 2),(Z 2)]),(.agg [(Z 8),(Z 0),(Z 0),(Z 0),(Z 0),(Z 2)]),l3] false)])] false)]
def l5:T:= .dK [(.agg [(Z 0),(Z 1),(Z (.negSucc 0)),(Z 0),(Z (.negSucc 0)),dD,dD]),(.agg [(Z 0),(Z 20),(Z 1),(Z 0),(Z 0),dD,dD]),(.agg [(Z 0),(Z 4),(Z 0),(Z 1),(Z 1),dD,dD]),(.agg [(Z 0),(Z 2),(Z (.negSucc 0)),(Z 0),(Z (.negSucc 0)),dD,dD]),(.agg [(Z 1),(Z 1),(Z (.negSucc 0)),(Z 0),(Z (.negSucc 0)),dD,dD]),(.agg [(Z 1),(Z 4),(Z 0),(Z 2),(Z 2),dD,dD]),(.agg [(Z 1),(Z 2),(Z (.negSucc 0)),(Z 0),(Z (.negSucc 0)),dD,dD])] false
def l6:T:= .agg [(Z 5),(Z 0),(.bool false)]
