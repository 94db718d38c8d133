/- W09h -/
import Derived.Test.YtnfojkibhgjfmaaGreatDoorA18
set_option linter.all false
set_option maxRecDepth 100000
set_option maxHeartbeats 0
namespace Go.Proofs.YtnfojkibhgjfmaaGreatDoor
noncomputable section
open Go Go.TI Tryz
attribute [-simp] List.map_take List.map_drop List.map_append ij fU fH Bool.not_or Bool.not_and
def ajy(b:T):Prop:=∃(a:lZ) (c:jH),b= .tuple [a.t,c.t]/\OV a.ei/\a.ei.length<=80
def P8:pI prog cx 49 (λh:kU×List io=>[h.1.t,sl (h.2.map io.t)]) (λh=>(∀n∈h.1.d8,n.kh.length<=10000001)/\h.2.length<=80) (λ_=>ajy):=by
 refine yF (tb:=⟨pt [(102,AC.jV),(104,IR.jV)],ht [(103,jS IFr aaB Uu)]⟩) jk iX (js 1271 [(3,[(0,2),(2,8),(4,8)]),(4,[(4,5)])] func49) (λ_=>105) (λh q k=>by simp at k;exact aG (kU.inj k.1) (j3 (λ_ _ k=>io.inj k) k.2)) V nl9 ?_;rintro⟨j,w⟩ ⟨m,u⟩ al B
 dsimp at m u
 simp at B;obtain⟨_,⟨q,rfl,W⟩,T⟩:=AC.use j m;obtain⟨_,⟨I,rfl,K,y⟩,S⟩:=IR.use j m;cases q;simp[*,f49];exact⟨⟨⟨[],[],[],[],[],[]⟩,[]⟩,⟨⟨[],0,[],[]⟩,[],[],[]⟩,rfl,λ_ h=>by simp at h,V⟩;simp[*,f49];generalize i:((hE.cons _).cons _).cons _=g;have F:iS 0 g:=i▸⟨V,V,V⟩;have Q:g.size=3:=by rw[<-i];rfl
 have M:g.get 0=D (dU 7 0 [j.t]):=by rw[<-i];simp
 have N:g.get 1=D (dU 7 0 [.eQ [dT,dT,dT,dT,dT,dT,dT]]):=by rw[<-i];simp
 have O:g.get 2=D (dU 7 0 [.eQ [dT,J 0,dT,dT,dT,dT,dT]]):=by rw[<-i];simp
 clear i;refine ma U8 V ⟨j,I,w⟩ ⟨rfl,F,m,K,y,u⟩ ?_;rintro _ b ⟨v,d,L,rfl,l,r,e,x,hl⟩;have P:=e.ok.sz;rw[Q]at r P;have a0:=(e.get 0 G).trans M;have a1:=(e.get 1 G).trans N;have a2:=(e.get 2 G).trans O;have sv:=λa (E:a<g.size)=>il (e.get a E);have Z:=sv 0 G;have an:(0=b.size)=False:=dP;have ap:(1=b.size)=False:=dP;have aA:(2=b.size)=False:=dP;have X:=e.ok.low;have Y:gJ g b b.size:=jF (mG _ e.ok.sz);have okB:iS 0 (b.cons (dU 7 1 [d.t])):=iS.cons ⟨e.ok.hp,e.ok.low,aB _⟩ _;have p:∀a,(b.cons (dU 7 1 [d.t])).get a=if a=b.size then some (dU 7 1 [d.t])else b.get a:=λa=>fg ..;have s:=(p 1).trans ((aw G).trans a1);have o:∀c a,(fF (b.cons (dU 7 1 [d.t])) 1 c).get a=if a=1 then some c else if a=b.size then some (dU 7 1 [d.t])else b.get a:=λc a=>(ez s c a).trans (by rw[p]);have A:=λc=>(o c 2).trans ((aw G).trans ((aw G).trans a2));have G2:∀c f a,(fF (fF (b.cons (dU 7 1 [d.t])) 1 c) 2 f).get a=if a=2 then some f else if a=1 then some c else if a=b.size then some (dU 7 1 [d.t])else b.get a:=λc f a=>(ez (A c) f a).trans (by rw[o]);have ae:∀c,gJ (b.cons (dU 7 1 [d.t])) (fF (b.cons (dU 7 1 [d.t])) 1 c) b.size:=λc=>pj s G c;have av:(b.size=1)=False:=dP;have U:∀c f,TI.fz (fF (fF (b.cons (dU 7 1 [d.t])) 1 c) 2 f) L=D (sl (v.map fR.t)):=λc f=>(l.mono (h':=fF (fF (b.cons (dU 7 1 [d.t])) 1 c) 2 f) λa n=>by
  have⟨_,_,_,_,z,_⟩:=l.box n;have:=H.fN z;have:=r a n;rw[G2,aw G,aw G,aw G]).fz V
 simp[*,l.iW,l.cells,fD,e.ok.hp];exact⟨⟨j.gG,v⟩,d,rfl,x,hl⟩
def LW:pI prog cx 50 (λc:List Int=>[sl (c.map (T.int .u8))]) okB (λ_ j=>∃a:kU,j=a.t/\∀k∈a.d8,k.kh.length<=10000001):=by refine j2 [(105,U0.jV),(55,EL.jV)] (js 13 [] func50) (λ_=>105) (λl m b=>by simp at b;exact j3 (λ_ _ b=>iD b) b) ?_;rintro c d r e;simp at e;obtain⟨_,⟨i,rfl,g,h⟩,o⟩:=U0.use c d;obtain⟨_,⟨a,n,q,rfl,f⟩,p⟩:=EL.use i ⟨g,h⟩;simp[*,f50];exact⟨a,rfl,f⟩
def ajp(b:T):Prop:=∃a:lZ,b=a.t/\OV a.ei/\a.ei.length<=80
def IP:pI prog cx 17 (λa:List Int×List Int=>[sl (a.1.map (T.int .u8)),sl (a.2.map (T.int .u8))]) (λa=>okB a.1/\okB a.2/\a.2.length<=80) (λ_=>ajp):=by
 refine j2 [(50,LW.jV),(51,IW.jV),(49,P8.jV)] (js 51 [] func17) (λ_=>105) (λa o b=>by simp at b;exact aG (j3 (λ_ _ b=>iD b) b.1) (j3 (λ_ _ b=>iD b) b.2)) ?_;rintro⟨g,f⟩ ⟨d,c,k⟩ t l
 dsimp at d c k
 simp at l;obtain⟨_,⟨h,rfl,m⟩,p⟩:=LW.use g d;obtain⟨_,⟨e,rfl,r⟩,q⟩:=IW.use f ⟨c,G⟩;obtain⟨_,⟨n,s,rfl,j,hl⟩,i⟩:=P8.use (h,e) ⟨m,dQ⟩
 dsimp at i
 simp[*,f17];exact⟨n,rfl,j,hl⟩
end
noncomputable section
open Go Go.TI
structure oe where
 program:List Int
 schedule:List Int
 PR:List Int
 size:Int
 AV:Int
 deriving DecidableEq,Inhabited
@[simp] def oe.cs (a:oe):List T:=[sl (a.program.map (T.int .u8)),sl (a.schedule.map (T.int .u8)),sl (a.PR.map (T.int .u8)),.int .u8 a.size,.int .u8 a.AV]
def oe.t(a:oe):T:= .eQ a.cs
@[simp]def oe.ag (a:oe):sP a.t a.cs 5:=EZ
@[simp]theorem oe.fold (a0 a1 a2:List Int) (a3 a4:Int):T.eQ [sl (a0.map (T.int .u8)),sl (a1.map (T.int .u8)),sl (a2.map (T.int .u8)),.int .u8 a3,.int .u8 a4]=oe.t ⟨a0,a1,a2,a3,a4⟩:=rfl
@[simp]theorem oe.eta (a:oe):⟨a.1,a.2,a.3,a.4,a.5⟩=a:=rfl
def oe.inj{a b:oe}(c:a.t=b.t):a=b:=by cases a;cases b;simp[oe.t,oe.cs,XR,-oe.fold]at c;simp[c]
end
noncomputable section
open Go Go.TI Tryz
attribute [-simp] List.map_take List.map_drop List.map_append ij fU fH Bool.not_or Bool.not_and
def byV(a:Int):Prop:=0<=a/\a<256
structure H3(v:oe):Prop where
 p:okB v.program
 q:okB v.schedule
 s:okB v.PR
 z:byV v.size
 w:byV v.AV
def JY:pI prog cx 5 (λa:oe×Nat=>[a.1.t,J a.2]) (λa=>H3 a.1/\0<a.2/\a.2<=16) (λa=>ZP a.2):=by
 refine j2 [(16,JX.jV),(17,IP.jV),(18,IS.jV)] (js 17592186046583 [(3,[(9,10)])] func5) (λ_=>105) (λa b n=>by simp at n;exact aG (oe.inj n.1) (iH n.2)) ?_;rintro⟨c,h⟩ ⟨g,Y,Z⟩ aN i;simp only at g Y Z;simp at i;have⟨an,a7⟩:=g.z;have⟨al,aX⟩:=g.w;have aA:=Int.emod_nonneg c.size (show(h:Int)≠0 by omega);have aE:=Int.emod_lt_of_pos c.size (show(0:Int)<h by omega);have⟨f,S⟩:∃f:Nat,c.size% (h:Int)=f:=⟨(c.size% (h:Int)).toNat,G⟩;obtain⟨_,⟨I,rfl,N,l1⟩,m⟩:=JX.use (c.PR,1+f) ⟨g.s,dQ⟩;obtain⟨_,⟨o,rfl,O,l2⟩,u⟩:=JX.use ([],0) ⟨⟨V,V⟩,V⟩;obtain⟨_,⟨ae,rfl,L,hl⟩,eT⟩:=IP.use (c.program,c.schedule.take (min c.schedule.length 80)) ⟨g.p,⟨qN g.q.1,λx X=>g.q.2 x (bV X)⟩,dP⟩;obtain⟨_,⟨d,e,rfl,B⟩,l⟩:=IS.use (ae,1+f) ⟨L,dQ,dQ,dQ⟩;simp only at eT l m u l1 l2 B;rw[show((1+f:Nat):Int)=1+f by omega]at l m;have v:c.size.tmod h=f:=(Int.tmod_eq_emod_of_nonneg an).trans S;have F: -9223372036854775808<=c.size:=G;have H:c.size<9223372036854775808:=G;have C:=Gf (k:= .i64) (a:=c.size) (show¬(h:Int)=0 by omega);have r:IntKind.i64.wrap (1+(f:Int))=1+f:=by rw[<-kz,kI G G]
 simp[f5,i];refine fG (λU=>?_) (λU=>?_);simp[i,F,H,C,qI,v,r,m];exact⟨I,rfl,N,G⟩;have⟨k,P,Q⟩:∃k:Nat,min (c.schedule.length:Int) 80=k/\k=min c.schedule.length 80:=⟨_,G,rfl⟩;rw[<-Q]at eT;simp[i,P,show k<=c.schedule.length by omega,eT,F,H,C,qI,v,r,l];refine fG (λy=>?_) (λy=>?_);have K:=λ{E:ik} (ht:E.p 16=D JX.jV)=>(show rl prog cx E 16 [.jb,J 0]=D o.t from u ht);simp[K];exact⟨o,rfl,O,G⟩;have R:d≠ []:=iD y;have ap:0<d.length:=by rcases d with _|_<;>simp at R|-
 have M:c.AV.tmod (d.length:Int)=c.AV% (d.length:Int):=Int.tmod_eq_emod_of_nonneg al;have T:0<=c.AV% (d.length:Int):=Int.emod_nonneg _ G;have av:c.AV% (d.length:Int)<d.length:=Int.emod_lt_of_pos _ G;have⟨j,A⟩:∃j,d[(c.AV% (d.length:Int)).toNat]? =D j:=⟨_,aF G⟩;simp[show-9223372036854775808<=c.AV by omega,show c.AV<9223372036854775808 by omega,Gf (show¬(d.length:Int)=0 by omega),M,fO T,A];have W:=B j (aD A);exact⟨j,rfl,W.1,G⟩
def PF{c:oe}(i:H3 c)(a:Nat){N:Int}(g:0<a/\a<=16:=by decide)(e:(a:Int)=N:=by rfl):∃b,kj b/\b.ei.length<=a/\∀{d:ik},d.p 5=D JY.jV->rl prog cx d 5 [c.t,J N]=D b.t:=by obtain⟨_,⟨b,rfl,j,h⟩,f⟩:=JY.use (c,a) ⟨i,g⟩;subst e;exact⟨b,j,h,f⟩
section
attribute [-simp] size_cons
def KQ(d:GX){lo hi:Int}{a b:Nat}(c:fR->Bool)(e:lo=a)(f:hi=b):d.btw lo hi c=((d.ev.drop a).take (b-a)).all c:=by unfold GX.btw;rw[e,f,show((b:Int)-a).toNat=b-a by omega];rfl
def Ju{d:fR->Bool}{c:List fR}{a b:Nat}{e:fR}(f:c[a]? =D e)(g:a<b):((c.drop a).take (b-a)).all d=(d e&&((c.drop (a+1)).take (b-(a+1))).all d):=by obtain⟨hl,rfl⟩:=List.getElem?_eq_some_iff.1 f;rw[aL hl,show b-a=(b-(a+1))+1 by omega,dD,cA]
def kj.nat{c:eJ}{a:Int}(d:jx a c.ei.length):∃b:Nat,a=b/\b<c.ei.length:=by have:=fT.1 d;exact⟨a.toNat,G,this.2⟩
def Ck:iE:=⟨eJ×iw,λe=>[e.1.t,e.2.t],λe=>kj e.1/\jx e.2.a e.1.ei.length/\jx e.2.b e.1.ei.length=true,λe=> .ej (decide (e.2.c=0)&&decide (e.2.d=0)&&decide (e.2.jo=[])&&e.1.gx.Xw e.2.a e.2.b),λe g f=>by simp at f;rw[eJ.inj f.1,iw.inj f.2]⟩
def US:Ck.Ok prog cx 84:=by
 refine iz [(138,DJ)] (js 127 [(1,[(7,14),(9,14),(10,14),(11,14)])] func84) (λ_=>10) (by simp[Ck]) ?_;rintro⟨a,⟨y,e,f,k,u,z⟩⟩ ⟨b,h,i⟩ A m
 dsimp at h i
 replace b:kj a:=b;simp[Ck]at m|-;have⟨c,a1,a2,a3,a4,a5⟩:=b.at h;have⟨o,q,r,j,s,t⟩:=b.at i;have l:=GX.Xw.eq_1 a.gx e f;rw[a3,j,show a.gx.w=a.gG from rfl]at l;generalize a.gx.Xw e f=p at*
 cases d:mr c o;simp[*,f84,mK,HQ];have n:c.fc=3\/c.fc=4:=by unfold mr oy at d;simp at d;exact d.1.1.1
 have g:jx c.obj a.gG.cells.length:=by unfold ky at a5;rw[aw G,ax n]at a5;exact a5
 have⟨k,v,x⟩:=jm g;simp[*,f84,mK,HQ,fO (fT.1 g).1]
 ac_rfl
def Jg(a:iq)(b:H):fdW b 3 Rq a.t=be (sl (a.d8.map ew.t)) b:=by unfold iq.t iq.cs;simp[-iq.fold]
def Cn:iE:=⟨eJ×iw,λe=>[e.1.t,e.2.t],λe=>kj e.1/\jx e.2.a e.1.ei.length/\jx e.2.b e.1.ei.length=true,λe=> .ej (decide (e.2.c=0)&&decide (e.2.d=0)&&decide (e.2.jo=[])&&e.1.gx.VF e.2.a e.2.b),λe g f=>by simp at f;rw[eJ.inj f.1,iw.inj f.2]⟩
def U1:Cn.Ok prog cx 85:=by
 refine iz [(139,nP)] (js 309637306140417614782923263 [(1,[(7,14),(9,14),(10,14),(11,14)]),(9,[(3,7)])] func85) (λ_=>100) (by simp[Cn]) ?_;rintro⟨c,⟨aA,a,b,R,T,x⟩⟩ ⟨h,q,v⟩ i H
 dsimp at q v
 replace h:kj c:=h;simp[Cn]at H|-;have⟨A,a1,a2,a3,a4,a5⟩:=h.at q;have⟨r,C,bC,P,Q,bH⟩:=h.at v;have⟨L,M⟩:=h.ok.s q;have ap:=λ{bp:ik} (ht:bp.p 139=D nP)=>Ek ht BA c a h;generalize rV c.gG c.kH (c.ei.take a.toNat)=S at*
 rw[L]at M;have⟨z,bs,bu,bA⟩:=xR M Q;have f:=GX.VF.eq_1 c.gx a b;rw[a3,P,L,bA]at f;generalize c.gx.VF a b=N at*
 obtain⟨e,rfl,bX⟩:=kj.nat q;obtain⟨d,rfl,b6⟩:=kj.nat v;have b9:=h.ok.len;rw[cN]at a1 C;simp[f85,H,a1,C,mK];refine fG (λo=>?_) (λo=>?_);have:(decide (R=0)&&decide (T=0)&&decide (x=[])&&N)=false:=by
  rw[cO];intro n;rw[f]at n;simp[aC,cj,aO,bK]at n o;obtain⟨⟨U,W⟩,⟨⟨⟨⟨⟨⟨bT,X⟩,Z⟩,ae⟩,bW⟩,bN⟩,bS⟩⟩:=n;subst W;simp[U,X,Z,ae]at o;omega
 simp[this];simp only[ci,Bool.and_eq_false_iff,dt,bK,aO]at o;obtain⟨⟨⟨⟨⟨⟨⟨aE,aN⟩,aX⟩,a7⟩,a8⟩,bi⟩,bn⟩,ca⟩:=o;have hl:x=[]:=by cases x<;>simp at aX|-
 have bZ:d<e:=G;subst aE aN hl;have av:=KQ c.gx (lo:=(d:Int)+1) (hi:=e) (a:=d+1) (b:=e) (λj=> !decide (j.eG=r.eG)) G rfl;rw[av,show c.gx.ev=c.ei from rfl,bh (show(d:Int)<e by omega),bh a8,bh bi,aS bn,show(decide (A.fc=18)||decide (A.fc=19))=true by simpa using a7]at f;simp;generalize m:(((hE.cons _).cons _).cons _).cons _=l;have B:l.get 0=D (dU 15 0 [c.t]):=by rw[<-m];simp
 have E:l.get 1=D (dU 6 0 [iw.t ⟨aA,e,d,0,0,[]⟩]):=by rw[<-m];simp
 have O:l.get 2=D (dU 7 1 [A.t]):=by rw[<-m];simp
 have F:l.get 3=D (dU 7 1 [r.t]):=by rw[<-m];simp
 have K:Hp l:=by rw[<-m];simp
 clear m;have an:binop .add (J (d:Int)) (J 1)=D (J ((d:Int)+1)):=jf G G;simp[an];refine pU e (λk i n=>l=n/\d+1<=k/\((c.ei.drop k).take (e-k)).all (λj=> !decide (j.eG=r.eG))=((c.ei.drop (d+1)).take (e-(d+1))).all (λj=> !decide (j.eG=r.eG))/\TI.Y i 2=D (dY 0)/\TI.Y i 3=D (dY 1)/\TI.Y i 5=D (dY 2)/\TI.Y i 6=D (dY 3)/\TI.Y i 7=D (J k)) ?_ G (k:=d+1) G ?_;rintro k i _ b7 ⟨rfl,b8,g,u⟩;by_cases w:k<e;have I:k<c.ei.length:=G;have al:binop .add (J (k:Int)) (J 1)=D (J ((k:Int)+1)):=jf G G;rw[Ju (aF I) w]at g;simp[B,E,F,u,w,I];generalize c.ei[k]=j at*
 refine fG (λy=>?_) (λy=>?_);rw[y]at g;rw[<-g]at f;simp[f,K];rw[y]at g;simp[u,al];exact⟨k+1,G,G,G,iD g,V⟩;rw[show e-k=0 by omega]at g;rw[<-g]at f;simp at f;simp[B,E,O,F,u,w,ap,OS,Jg,bs,bu];exact⟨K,f.symm⟩;simp
def xi:iE:=⟨eJ×iw,λe=>[e.1.t,e.2.t],λe=>kj e.1/\jx e.2.a e.1.ei.length/\jx e.2.b e.1.ei.length/\jx e.2.c e.1.ei.length/\jx e.2.d e.1.ei.length=true,λe=> .ej (decide (e.2.jo=[])&&e.1.gx.M4 e.2.a e.2.b e.2.c e.2.d),λe g f=>by simp at f;rw[eJ.inj f.1,iw.inj f.2]⟩
def Oj:xi.Ok prog cx 86:=by
 refine iz [(139,nP),(138,DJ)] (js 324518867979139826586741578400767 [(3,[(7,28),(9,28),(10,28),(11,28),(13,28),(15,28),(16,28),(17,28),(19,28),(21,28),(22,28),(23,28),(13,29),(15,29),(16,29),(17,29),(19,29),(21,29),(22,29),(23,29),(19,30),(21,30),(22,30),(23,30)]),(11,[(3,7)])] func86) (λ_=>100) (by simp[xi]) ?_;rintro⟨c,⟨bC,a,b,q,r,E⟩⟩ ⟨i,w,B,U,W⟩ l R
 dsimp at w B U W
 replace i:kj c:=i;simp[xi]at R|-;have⟨m,a1,a2,a3,a4,a5⟩:=i.at w;have⟨y,K,b9,an,ca,cb⟩:=i.at B;have⟨u,ap,av,aA,cp,cv⟩:=i.at U;have⟨v,aE,aN,aX,cL,cX⟩:=i.at W;have⟨ae,al⟩:=i.ok.s w;have bu:=λ{bZ:ik} (ht:bZ.p 139=D nP)=>Ek ht BA c a i;generalize rV c.gG c.kH (c.ei.take a.toNat)=S at*
 rw[ae]at al;have⟨z,b6,b7,b8⟩:=xR al a4;have f:=GX.M4.eq_1 c.gx a b q r;rw[a3,an,aA,aX,ae,b8]at f;generalize c.gx.M4 a b q r=H at*
 obtain⟨g,rfl,c4⟩:=kj.nat w;obtain⟨e,rfl,c6⟩:=kj.nat B;have dd:=i.ok.len;rw[cN]at a1 K;simp[f86,R];refine fG (λd=>?_) (λd=>?_);have:(decide (E=[])&&H)=false:=by
  rw[cO];intro h;rw[f]at h;simp[aC,cj,aO,bK]at h d;obtain⟨bi,⟨⟨⟨⟨⟨⟨⟨bn,O⟩,P⟩,bp⟩,Q⟩,N⟩,a7⟩,a8⟩⟩:=h;subst bi;simp at d;omega
 simp[this];simp[ci,bK]at d;obtain⟨⟨bH,de⟩,di⟩:=d;have hl:E=[]:=by cases E<;>simp at bH|-
 have c1:g<e:=G;subst hl;simp[a1,K,ap,av,aE,aN,mK,HQ];refine fG (λd=>?_) (λd=>?_);have:H=false:=by
  rw[cO];intro h;rw[f]at h;simp[aC,cj,aO,bK]at h d;obtain⟨⟨⟨⟨⟨⟨⟨bn,O⟩,P⟩,bp⟩,Q⟩,N⟩,a7⟩,a8⟩:=h;simp[O,P,Q,N]at d;omega
 simp[this];simp[ci,bK,aO]at d;obtain⟨⟨⟨⟨bN,bS⟩,bT⟩,bW⟩,bX⟩:=d;have bA:=KQ c.gx (lo:=(g:Int)) (hi:=e) (a:=g) (b:=e) (GX.CU m.eG) rfl rfl;rw[bA,show c.gx.ev=c.ei from rfl,bh (show(g:Int)<e by omega),bh (show q<=r by omega),bh bN,bh bS,aS bT,bW,bX]at f;simp;generalize o:(((((hE.cons _).cons _).cons _).cons _).cons _).cons _=n;have I:n.get 0=D (dU 15 0 [c.t]):=by rw[<-o];simp
 have L:n.get 1=D (dU 6 0 [iw.t ⟨bC,g,e,q,r,[]⟩]):=by rw[<-o];simp
 have M:n.get 2=D (dU 7 1 [m.t]):=by rw[<-o];simp
 have Z:Hp n:=by rw[<-o];simp
 clear o;refine pU e (λk l h=>n=h/\g<=k/\((c.ei.drop k).take (e-k)).all (GX.CU m.eG)=((c.ei.drop g).take (e-g)).all (GX.CU m.eG)/\TI.Y l 2=D (dY 0)/\TI.Y l 3=D (dY 1)/\TI.Y l 5=D (dY 2)/\TI.Y l 9=D (J k)) ?_ G (k:=g) G ?_;rintro k l _ c7 ⟨rfl,c9,j,A⟩;by_cases C:k<e;have X:k<c.ei.length:=G;have bs:binop .add (J (k:Int)) (J 1)=D (J ((k:Int)+1)):=jf G G;rw[Ju (aF X) C]at j;simp[I,L,M,A,C,X];generalize c.ei[k]=x at*
 have T:GX.CU m.eG x= !(decide (x.eG=m.eG)&&decide (x.fc=15)):=rfl;refine fG (λF=>?_) (λF=>?_);rw[T,F]at j;rw[<-j]at f;simp at f;simp[f,Z];rw[T,F]at j;simp[A,bs];exact⟨k+1,G,G,G,iD j,V⟩;rw[show e-k=0 by omega]at j;rw[<-j]at f;simp at f;simp[I,L,M,A,C,bu,OS,Jg,b6,b7];exact⟨Z,f.symm⟩;simp
def Q4{d:ik}(ht:d.p 90=D wn)(a:eJ)(c b:Int)(g:kj a)(e:jx c a.ei.length)(f:jx b a.ei.length):rl prog cx d 90 [a.t,J c,J b]=D (.ej (a.gx.p8 c b)):=iF ht Vp (a,c,b) ⟨g,e,f⟩
def CV(c:GX)(d:Int->Int->Bool)(a:List Int)(b:Nat):Bool:=
 !decide (a.getD b 0<a.getD 0 0)&&d (a.getD ((b+1)% a.length) 0) (a.getD b 0)&&(List.range b).all λf=> !decide ((c.e (a.getD b 0)).eG=(c.e (a.getD f 0)).eG)
def MN{d:GX}{e:Int->Int->Bool}{b:List Int}(f:2<=b.length)(g:b.length<=4)(h:∀a<b.length,jx (b.getD a 0) d.ev.length)(i:∀a<b.length,CV d e b a):d.Ji e b=true:=by unfold GX.Ji;simp only[aC,aO];refine⟨⟨⟨f,g⟩,List.all_eq_true.2 λk j=>?_⟩,List.all_eq_true.2 λa c=>i a (List.mem_range.1 c)⟩;obtain⟨a,c,rfl⟩:=List.mem_iff_getElem.1 j;have:=h a c;simpa[List.getD,c]using this
def qT{e:GX}{f:Int->Int->Bool}{a:List Int}(h:a.length<2\/4<a.length\/(∃b<a.length,jx (a.getD b 0) e.ev.length=false)\/∃b<a.length,CV e f a b=false):e.Ji f a=false:=by
 rw[cO];intro d;unfold GX.Ji at d;simp only[aC,aO]at d;obtain⟨⟨⟨j,k⟩,g⟩,i⟩:=d;rcases h with h|h|⟨b,c,h⟩|⟨b,c,h⟩
 omega;omega;have:=List.all_eq_true.1 g (a.getD b 0) (by simp[List.getD,c]);rw[h]at this;simp at this;have:=List.all_eq_true.1 i b (List.mem_range.2 c);unfold CV at h;rw[h]at this;simp at this
def PT(a b:Nat)(d:b≠0)(c:a<9223372036854775808):binop .rem (J (a:Int)) (J (b:Int))=D (J ((a% b:Nat):Int)):=by rw[Gf G];rfl
def Cr:iE:=⟨eJ×iw,λa=>[a.1.t,a.2.t],λa=>kj a.1/\a.2.jo.length<=1000000,λa=> .ej (a.1.gx.dead a.1.gx.p8 a.2),λa c b=>by simp at b;rw[eJ.inj b.1,iw.inj b.2]⟩
def Ve:Cr.Ok prog cx 82:=by
 refine iz [(90,wn),(83,IH)] (js 2596148777438049903812084076904959 [] func82) (λ_=>100) (by simp[Cr]) ?_;rintro⟨d,⟨P,u,v,w,z,a⟩⟩ ⟨q,aN⟩ f S;simp only at aN;replace q:kj d:=q;simp[Cr]at S|-;have l:d.gx.dead d.gx.p8 ⟨P,u,v,w,z,a⟩=(decide (u=0)&&decide (v=0)&&decide (w=0)&&decide (z=0)&&d.gx.Ji d.gx.p8 a):=rfl;generalize d.gx.dead d.gx.p8 ⟨P,u,v,w,z,a⟩=X at*
 simp[f82,S];refine fG (λI=>?_) (λI=>?_);have:X=false:=by
  rw[cO];intro h;rw[l]at h;simp only[aC,aO]at h;obtain⟨⟨⟨ae,al⟩,an⟩,R⟩:=h;simp[ae,al,an]at I;rw[qT G]at R;simp at R
 simp[this];simp only[ci,dt,bK,aO]at I;obtain⟨⟨⟨⟨⟨aX,a7⟩,a8⟩,bi⟩,bC⟩,bH⟩:=I;have aA:2<=a.length:=G;have aE:a.length<=4:=G;have bu:=q.ok.len;rw[aX,a7,a8,bi]at l;simp at l;simp;generalize A:(hE.cons _).cons _=n;have K:n.get 0=D (dU 15 0 [d.t]):=by rw[<-A];simp
 have L:n.get 1=D (dU 6 0 [iw.t ⟨P,u,v,w,z,a⟩]):=by rw[<-A];simp
 have H:Hp n:=by rw[<-A];simp
 clear A;refine gW a.length G (λb f h=>n=h/\(∀c<b,jx (a.getD c 0) d.ei.length=true)/\TI.Y f 2=D (dY 0)/\TI.Y f 3=D (dY 1)/\TI.Y f 5=D (J a.length)/\TI.Y f 6=D (J b)) ?_ ?_ G ?_;rintro b f _ k B ⟨rfl,E,g⟩;have o:a.getD b 0=a[b]:=by simp[List.getD,k]
 simp[K,L,g,k,aa0];refine fG (λj=>?_) (λj=>?_);rw[qT (.inr (.inr (.inl ⟨b,k,by rw[o];exact(by simpa using j:jx a[b] d.ei.length=false)⟩)))]at l;simp[l,H];simp[g,B];intro c m;rcases aW c b with h|h
 simpa using E c h;rw[show c=b by omega];simpa[k]using j;rintro f _ ⟨rfl,E,g⟩;simp[g];have C:∀c (m:c<a.length),jx a[c] d.ei.length=true:=λc m=>by simpa[List.getD,m]using E c m
 refine gW a.length G (λb f h=>n=h/\(∀c<b,CV d.gx d.gx.p8 a c=true)/\TI.Y f 2=D (dY 0)/\TI.Y f 3=D (dY 1)/\TI.Y f 5=D (J a.length)/\TI.Y f 7=D (J b)) ?_ ?_ G ?_;rintro b f _ k B ⟨rfl,N,g⟩;have o:∀c (m:c<a.length),a.getD c 0=a[c]:=λc m=>by simp[List.getD,m]
 have M:0<a.length:=G;have U:=PT (b+1) a.length G G;have F:(b+1)% a.length<a.length:=Nat.mod_lt _ M;have r:CV d.gx d.gx.p8 a b=(!decide (a[b]<a[0])&&d.gx.p8 (a[(b+1)% a.length]'F) a[b]&&(List.range b).all λi=> !decide ((d.gx.e a[b]).eG=(d.gx.e (a.getD i 0)).eG)):=by unfold CV;rw[o _ k,o _ M,o _ F]
 generalize(b+1)% a.length=W at*
 have Z:=λ{bn:ik} (ht:bn.p 90=D wn)=>Q4 ht d a[W] a[b] q (C W F) (C b k);have⟨x,a1,a2,a3,a4,a5⟩:=q.at (C b k);rw[a3]at r;simp at U;simp[K,L,g,k,B,M,U,F,Z];refine fG (λj=>?_) (λj=>?_);have:CV d.gx d.gx.p8 a b=false:=by
  rw[r,cO];intro h;simp only[aC,cK,bK]at h;simp[h.1.2]at j;omega
 rw[qT (.inr (.inr (.inr ⟨b,k,this⟩)))]at l;simp[l,H];simp only[ci,dt,bK]at j;rw[j.2,aS j.1]at r;simp;refine gW b G (λi f h=>n=h/\(∀c<i,decide (x.eG=(d.gx.e (a.getD c 0)).eG)=false)/\TI.Y f 2=D (dY 0)/\TI.Y f 3=D (dY 1)/\TI.Y f 5=D (J a.length)/\TI.Y f 7=D (J b)/\TI.Y f 8=D (J i)) ?_ ?_ G ?_;rintro i f _ T ap ⟨rfl,O,g⟩;have s:i<a.length:=G;have⟨y,bp,bs,Q,bN,bS⟩:=q.at (C i s);simp[K,L,g,T,s,k,a1,a2,bp,bs];have bA:(d.gx.e (a.getD i 0)).eG=y.eG:=by rw[o i s,Q]
 refine fG (λj=>?_) (λj=>?_);have:CV d.gx d.gx.p8 a b=false:=by
  rw[r];simp;exact⟨i,T,by simpa[s,Q]using j⟩
 rw[qT (.inr (.inr (.inr ⟨b,k,this⟩)))]at l;simp[l,H];simp[g,ap];intro c m;rcases aW c i with h|h
 simpa using O c h;rw[show c=i by omega];simp[s,Q];simpa using j;rintro f _ ⟨rfl,O,g⟩;simp[g,B];intro c m;rcases aW c b with h|h;exact N c h;rw[show c=b by omega,r];simp;intro i av;simpa using O i av;simp[g];rintro f _ ⟨rfl,N,g⟩;rw[MN aA aE E N]at l;simp[g,l,H];simp[g];simp
def qj:iE:=⟨eJ×iw,λa=>[a.1.t,a.2.t],λa=>kj a.1/\a.2.jo.length<=1000000,λa=> .ej (a.1.gx.vR a.2),λa c b=>by simp at b;rw[eJ.inj b.1,iw.inj b.2]⟩
def RX:qj.Ok prog cx 36:=by
 refine iz [(83,IH),(82,Cr),(84,Ck),(85,Cn),(86,xi)] (js 9302967882613055 [] func36) (λ_=>100) (by simp[qj]) ?_;rintro⟨f,e⟩ ⟨i,u⟩ E s;simp only at u;replace i:kj f:=i;simp[qj]at s|-;have g:=GX.vR.eq_1 f.gx e;simp only[show∀v,f.gx.BZ v=jx v f.ei.length from λ_=>rfl]at g;generalize f.gx.vR e=C at*
 have z:∀{h:ik},h.p 82=D Cr->rl prog cx h 82 [f.t,e.t]=D (.ej (f.gx.dead f.gx.p8 e)):=λht=>iF ht Ve (f,e) ⟨i,u⟩;cases q:decide (e.fc=2)with
 |true=>
  rw[ax (iD q)]at g;simp[f36,s,q,z,g]
 |false=>
  rw[aw (iD q)]at g;simp[f36,s,q,aa0];refine fG (λm=>?_) (λm=>?_);rw[aw (by intro k;simp only[aC]at k;simp[k.1.1.1,k.1.1.2,k.1.2,k.2]at m)]at g;simp[g];simp only[ci,dt]at m;obtain⟨⟨⟨n,o⟩,w⟩,x⟩:=m;rw[ax (by rw[n,o,w,x];rfl)]at g;have B:∀{h:ik},h.p 84=D Ck->rl prog cx h 84 [f.t,e.t]=D (.ej (decide (e.c=0)&&decide (e.d=0)&&decide (e.jo=[])&&f.gx.Xw e.a e.b)):=λht=>iF ht US (f,e) ⟨i,n,o⟩;have A:∀{h:ik},h.p 85=D Cn->rl prog cx h 85 [f.t,e.t]=D (.ej (decide (e.c=0)&&decide (e.d=0)&&decide (e.jo=[])&&f.gx.VF e.a e.b)):=λht=>iF ht U1 (f,e) ⟨i,n,o⟩;have y:∀{h:ik},h.p 86=D xi->rl prog cx h 86 [f.t,e.t]=D (.ej (decide (e.jo=[])&&f.gx.M4 e.a e.b e.c e.d)):=λht=>iF ht Oj (f,e) ⟨i,n,o,w,x⟩;cases j:decide (e.fc=1)with
  |true=>
   rw[ax (iD j)]at g;simp[j,B,g]
  |false=>
   rw[aw (iD j)]at g;cases l:decide (e.fc=3)with
   |true=>
    rw[ax (iD l)]at g;simp[j,l,A,g]
   |false=>
    rw[aw (iD l)]at g;cases r:decide (e.fc=4)with
    |true=>
     rw[ax (iD r)]at g;simp[j,l,r,y,g]
    |false=>
     rw[aw (iD r)]at g;simp[j,l,r,g]
def HN{c:ik}(ht:c.p 36=D qj)(b:eJ)(a:iw)(d:kj b)(hl:a.jo.length<=1000000):rl prog cx c 36 [b.t,a.t]=D (.ej (b.gx.vR a)):=iF ht RX (b,a) ⟨d,hl⟩
end
end
noncomputable section
open Go Go.TI Tryz
section
attribute [-simp] List.map_take List.map_drop List.map_append
def o6(c:Nat)(b:List Int):Bool:=b.all λa=>jx a c
def sS:iE:=⟨iC×List Int,λa=>[a.1.t,sl (a.2.map (T.int .i64))],λa=>a.2.length<=1099511627776,λa=> .ej (o6 a.1.w.ei.length a.2),λa c b=>by simp at b;rw[iC.inj b.1,j3 V b.2]⟩
def UF:sS.Ok prog cx 119:=by
 refine iz [] (js 4196311 [] func119) (λn=>n.2.length+1) (by simp[sS]) ?_;rintro⟨e,b⟩ hl d l;simp[sS]at hl l|-;simp[f119,l];refine gW b.length G (λc d f=>f=H.cons hE (dU 16 0 [e.t])/\TI.Y d 2=D (dY 0)/\TI.Y d 7=D (sl (b.map (T.int .i64)))/\TI.Y d 8=D (J b.length)/\TI.Y d 9=D (J c)/\o6 e.w.ei.length (b.drop c)=o6 e.w.ei.length b) ?_ ?_ G V;rintro c d f j p ⟨rfl,k,g,h,i,a⟩;rw[aL j]at a;simp only[o6,cA]at a;by_cases m:b[c]<0;have:jx b[c] e.w.ei.length=false:=by simp[jx];omega
 rw[this,dC]at a;simp[g,h,i,j,m,o6,a.symm];by_cases o:(e.w.ei.length:Int)<=b[c];have:jx b[c] e.w.ei.length=false:=by simp[jx];omega
 rw[this,dC]at a;simp[k,g,h,i,j,m,o,o6,a.symm];have:jx b[c] e.w.ei.length:=by simp[jx];omega
 rw[this,bj]at a;simp[*,o6];rintro d f ⟨rfl,k,g,h,i,a⟩;simp[o6]at a;simp[*,o6];exact a
def KJ{c:ik}(ht:c.p 119=D sS)(b:iC)(a:List Int)(hl:a.length<=1099511627776):rl prog cx c 119 [b.t,sl (a.map (T.int .i64))]=D (.ej (o6 b.w.ei.length a)):=iF ht UF (b,a) hl
def vJ{d:ik}(ht:d.p 119=D sS)(a:iC)(b c:Int):rl prog cx d 119 [a.t,sl [J b,J c]]=D (.ej (jx b a.w.ei.length&&jx c a.w.ei.length)):=by have:=KJ ht a [b,c] V;simpa[o6]using this
def EE(a:eJ)(b c:Int):Bool:=jx b a.ei.length&&jx c a.ei.length&&decide (b<c)&&mr (mP a.ei b) (mP a.ei c)&& !decide ((mP a.ei b).eG=(mP a.ei c).eG)&& !((wU a.gG.cells (mP a.ei b).obj).getD default).B5
def K0(b:eJ):Prop:=∀a∈b.ei,oy a->jx a.obj b.gG.cells.length=true
def DE:iE:=⟨iC×Int×Int,λa=>[a.1.t,J a.2.1,J a.2.2],λa=>K0 a.1.w,λa=> .ej (EE a.1.w a.2.1 a.2.2),λa c b=>by simp at b;rw[iC.inj b.1,b.2.1,b.2.2]⟩
def Ye:DE.Ok prog cx 116:=by
 refine iz [(119,sS),(177,wj)] (js 67109327 [(3,[(8,14),(10,14),(11,14)])] func116) (λb=>1) (by simp[DE]) ?_;rintro⟨f,c,d⟩ j F e;simp[DE]at j e|-;obtain⟨s,t,u⟩:=e;cases n:(jx c f.w.ei.length&&jx d f.w.ei.length)with
 |false=>simp[*,f116,vJ,EE,iU]
 |true=>
  have a:=n;rw[aC]at a;have⟨b,e,k⟩:=jm a.1;have⟨g,v,m⟩:=jm a.2;have A:=fO (fT.1 a.1).1;have B:=fO (fT.1 a.2).1;have q:mP f.w.ei c=b:=by simp[mP,k]
  have r:mP f.w.ei d=g:=by simp[mP,m]
  by_cases C:d<=c;have:¬c<d:=G;simp[*,f116,vJ,EE,iU];have z:c<d:=G;cases h:mr b g;simp[*,f116,vJ,EE,iU,FK,a.1,a.2];have l:oy b:=by unfold mr at h;simp at h;exact h.1.1.1
  have i:=j b (aD e) l;have⟨o,x,y⟩:=jm i;have p:=fO (fT.1 i).1;cases E:decide (b.eG=g.eG)<;>
   simp[*,f116,vJ,EE,iU,FK,a.1,a.2,mK]
def adj{d:ik}(ht:d.p 116=D DE)(a:iC)(b c:Int)(e:K0 a.w):rl prog cx d 116 [a.t,J b,J c]=D (.ej (EE a.w b c)):=iF ht Ye (a,b,c) e
end
end
noncomputable section
open Go Go.TI Tryz
attribute [-simp] List.map_take List.map_drop List.map_append ij fU fH Bool.not_or Bool.not_and
section
attribute [-simp] size_cons
def gT(e:iw):T:= .eQ [J e.fc,J e.a,J e.b,J e.c,J e.d,dT]
structure IPt where
 (w:eJ) (g:iw) (v:T) (es:List T)
def aau(a:IPt)(c:List T)(b:H):Prop:=c=[a.w.t,a.v,gT a.g]/\Gr b a.v 6 a.es/\iS 0 b/\kj a.w/\a.es.length<=1000000/\a.g.jo=[]
def JR(a:IPt)(e:List T)(b:H)(d:T)(c:H):Prop:=Xt b a.v 6 (a.es++if a.w.gx.vR a.g=true then [gT a.g]else []) d c
def JZ:(jS IPt aau JR).Ok prog cx 40:=by
 refine jz (tb:=⟨pt [(36,qj)],ht []⟩) jk iX (js 623 [] func40) (λw f=>10) (λK w f E=>by obtain⟨rfl,_⟩:=E;simp[f40]) ?_;rintro⟨g,e,n,z⟩ _ f ⟨rfl,o,v,u,hl,k⟩ N s
 dsimp at o u hl k
 simp[gT]at s;obtain⟨A,q,B⟩:=s;have C:T.eQ [J e.fc,J e.a,J e.b,J e.c,J e.d,.jb]=e.t:=by unfold iw.t iw.cs;rw[k];rfl
 have j:=λ{tb:ik} (ht:tb.p 36=D qj)=>HN ht g e u (by rw[k];simp);rw[<-C]at j;generalize r:g.gx.vR e=H at j;have h:Xt (TI.hr f) n 6 z n (((TI.hr f).cons (dU 15 0 [g.t])).cons (dU 6 0 [gT e])):=((Xt.refl (o.mono λy _=>iI f y) v.hr).cons _).cons _;have m:iS 0 (((TI.hr f).cons (dU 15 0 [g.t])).cons (dU 6 0 [gT e])):=(v.hr.cons _).cons _;have⟨M,I,i,x⟩:=h.1.yA (cx:=cx) m Ky rfl KB rfl V (x:=gT e) rfl dP;have F:=h.trans x;unfold gT at i h m;have L:=m.low
 change ju cx _ _ _ n (.arr (f.size+1+1) 0 0 1 false)=_ at i
 simp[f40,A,B,j];refine fG (λl=>?_) (λl=>?_);subst l;simp[q,i];unfold JR;simp[r];exact F.out;subst l;simp[q];unfold JR;simp[r];simpa using h.out
abbrev D3(a:List Int):List T:=a.map (T.int .i64)
def Ni(d c:H)(f b:T)(e:List Int):Prop:=Gr c b 1 (D3 e)/\∀a,fa b=D a->d.size<=a/\a<c.size/\fa f≠some a
def Xt.nb{e f g:H}{j h:T}{i:Nat}{d:List T}(b:Xt e j i d h f)(a:Nb f g):Xt e j i d h g:=by have p:=b.2.2.2.sz;refine⟨b.1.mono λk l=>?_,λc m n=>(a.get c G).trans (b.2.1 c m n),b.2.2.1,a.ok.hp,a.ok.low,aU p a.ok.sz⟩;have⟨_,_,_,_,o,_⟩:=b.1.box l;exact a.get k (H.fN o)
def Ni.nb{g f h:H}{k e:T}{i:List Int}(a:Ni g f k e i)(j:Nb f h):Ni g h k e i:=
 ⟨a.1.mono λd l=>j.get d (a.2 d l).2.1,λb c=>⟨(a.2 b c).1,bO (a.2 b c).2.1 j.ok.sz,(a.2 b c).2.2⟩⟩
def Ni.xt{h g i:H}{l r2 f:T}{k:List Int}{o:Nat}{m:List T}(a:Ni h g l f k)(d:Xt g l o m r2 i):Ni h i r2 f k:=
 ⟨a.1.mono λe j=>d.2.1 e (a.2 e j).2.1 (a.2 e j).2.2,λb c=>⟨(a.2 b c).1,bO (a.2 b c).2.1 d.2.2.2.sz,λn=>(d.2.2.1 b n).elim (a.2 b c).2.2 (λp=>iH (a.2 b c).2.1)⟩⟩
def Ni.fin{a g f:H}{i e:T}{h:List Int}(b:Ni g f i e h)(j:a.size<=g.size):Ni a (mF a f) i e h:=⟨b.1.out a,λc d=>⟨aU j (b.2 c d).1,(b.2 c d).2.1,(b.2 c d).2.2⟩⟩
structure ICy where
 (w:eJ) (p:List Int) (pv v:T) (es:List T)
def cyR(a:ICy):List (List Int):=B1 a.w.gx.ev.length (λb=>a.w.gx.vR (gC b)) (λb c=> !decide (c∈b)&&a.w.gx.p8 c (mO b)) (4-a.p.length) a.p
def Uj(a:ICy)(d:List T)(b:H):Prop:=d=[a.w.t,a.pv,a.v]/\Gr b a.pv 1 (D3 a.p)/\Gr b a.v 1 a.es/\(∀c,fa a.pv=D c->fa a.v≠some c)/\iS 0 b/\kj a.w/\1<=a.p.length/\a.p.length<=4/\(∀e∈a.p,jx e a.w.ei.length=true)/\a.es.length+(cyR a).length<=1000000
def N0(a:ICy)(f:List T)(b:H)(e:T)(c:H):Prop:=∃d,Xt b a.v 1 (a.es++d) e c/\jr (Ni b c e) d (cyR a)
def af7(k:Nat):(jS ICy (λi X h=>Uj i X h/\5-i.p.length<k) N0).Ok prog cx 41:=by
 refine yE (λi:ICy=>5-i.p.length) (λm eI=>?_) k;refine jz (tb:=⟨pt [(36,qj),(77,E7),(90,wn)],ht [(41,jS ICy (λi X h=>Uj i X h/\5-i.p.length<m) N0)]⟩) jk iX (js 140738563147983 [(9,[(0,3),(3,5),(0,6)])] func41) (λX h=>100) (λi X h eC=>by obtain⟨⟨rfl,_⟩,_⟩:=eC;simp[f41]) ?_;rintro⟨c,a,w,y,es⟩ _ h ⟨⟨rfl,P,ap,cX,bH,ae,eD,eE,av,bs⟩,ey⟩ z b8
 dsimp at P ap cX ae eD eE av bs ey
 simp at b8;obtain⟨ef,s,E⟩:=b8;have bZ:∀{tb:ik},tb.p 36=D qj->rl prog cx tb 36 [c.t,iw.t ⟨2,0,0,0,0,a⟩]=D (.ej (c.gx.vR (gC a))):=λht=>HN ht c (gC a) ae (by simp[gC];omega);generalize Q:(TI.hr h).cons (dU 15 0 [c.t])=j;have c7:iS h.size j:=Q▸(⟨bH.hr.hp,bH.hr.low,az _⟩:iS h.size (TI.hr h)).cons _;have a7:j.size=h.size+1:=by rw[<-Q];rfl
 have bX:j.get h.size=D (dU 15 0 [c.t]):=by rw[<-Q];simp
 have b7:∀o,o<h.size->j.get o=h.get o:=λo I=>by rw[<-Q,fg,aw dP];exact iI h o
 have c1:∀b,fa w=D b->b<h.size:=λb u=>by have⟨_,_,_,_,A,_⟩:=P.box u;exact H.fN A
 have aE:∀b,fa y=D b->b<h.size:=λb u=>by have⟨_,_,_,_,A,_⟩:=ap.box u;exact H.fN A
 have an:Gr j w 1 (D3 a):=P.mono λb u=>b7 b (c1 b u);have bp:Gr j y 1 es:=ap.mono λb u=>b7 b (aE b u);have aN:iS 0 j:=⟨c7.hp,c7.low,aB _⟩;have ec:TI.fz j w=D (sl (D3 a)):=an.fz V;have eU:TI.qY j w=D (sl (D3 a)):=an.qY V;have eX:∀l:List T,l.length=a.length->a.length<=4->l.length*8<=70368744177664:=by intros;omega
 generalize eo:c.gx.vR (gC a)=dk at bZ;simp[f41,ef,s,Q,P.iW,P.cells,ec,bX,bZ];refine lJ (λz d=>∃r n,Xt j y 1 (es++n) r d/\jr (Ni j d r) n (if dk=true then [a]else [])/\TI.Y z 1=D w/\TI.Y z 2=D r/\TI.Y z 3=D (dY h.size)) (λL=>?_) (λL=>?_) ?_;have⟨bi,B,O,⟨eR,eS,gA⟩,U,M,F⟩:=kN (cx:=cx) (sz:=1) aN (x:=w) (xs:=D3 a) kE rfl nc kE rfl rfl V an.jQ d1 dP;have ee:Gr B y 1 es:=bp.mono λb u=>M b (iH (aE b u));have⟨eP,d,e,x⟩:=ee.yA (cx:=cx) F QL rfl kE rfl V (x:= .arr j.size bi 0 a.length false) rfl dP;have eK:=F.low;have e7:=aN.low;simp at O gA;rw[a7]at O U;rw[U,a7]at e;have c4:Nb j B:=⟨⟨F.hp,F.low,G⟩,M⟩;have r1:Ni j B y (.arr j.size bi 0 a.length false) a:=by
  have g:=Gr.new (h:=B) (b:=j.size) (es:=D3 a) gA;rw[aK]at g;exact⟨g,λo I=>by simp at I;subst I;exact⟨az _,G,λq=>iH (aE _ q)⟩⟩
 have di:=(Xt.nb (Xt.refl bp aN) c4).trans x;have r2:=r1.xt x;rw[a7]at di r2;simp[s,E,a7,U,O,e];exact⟨eP,_,di,by rw[L];exact .cons r2 .nil,rfl⟩;simp[s,E];exact⟨y,[],iD (Xt.refl bp aN),L▸ .nil,rfl⟩;rintro z d ⟨r,n,x,C,s,E,K⟩;have dd:Xt (TI.hr h) y 1 es y j:=Q▸(Xt.refl (ap.mono λb _=>iI h b) bH.hr).cons _;have bC:=λs:H=>P.len (cx:=cx) s pJ _ rfl;rw[aK]at bC;simp[s,bC];have R:cyR ⟨c,a,w,y,es⟩=B1 c.ei.length (λa=>c.gx.vR (gC a)) (λa v=> !decide (v∈a)&&c.gx.p8 v (mO a)) (4-a.length) a:=rfl;rw[<-eo]at C;refine fG (λL=>?_) (λL=>?_);simp[E];simp at L;refine⟨n,(dd.trans x).out,?_⟩;rw[R,show 4-a.length=0 by omega,B1];exact C.imp λ_ _ q=>q.fin G;simp at L;have⟨W,eh⟩:∃W,4-a.length=W+1:=⟨3-a.length,G⟩;rw[eh,B1]at R;have⟨p0,cL⟩:∃p0:Nat,a[0]? =D (p0:Int)/\p0<c.ei.length:=by
  have:=fT.1 (av a[0] (aH G));exact⟨a[0].toNat,by rw[aF G];congr 1;omega,G⟩
 have e5:=ae.ok.len;have eu:(a.getD 0 0).toNat=p0:=by simp[List.getD,cL.1]
 rw[eu]at R;have bA:a.length-1<a.length:=G;have cp:mO a=a[a.length-1]:=by simp[mO,List.getD,bA]
 have eA:jx (mO a) c.ei.length:=cp▸av _ (aH bA);have aX:∀{r:T} {n:List T} {d:H},Xt j y 1 (es++n) r d->qk d 1 w (D3 a):=λx=> .inr (an.mono λb u=>x.2.1 b (iH (c1 b u)) (cX b u));have⟨e8,dm,dn⟩:=(aX x).idx (te:=Dp) rfl rfl (i:=0) (x:= J p0) (by simp[cL.1]) rfl;have er:binop .add (J (p0:Int)) (J 1)=D (J ((p0:Int)+1)):=jf G G;have eF:binop .sub (J (a.length:Int)) (J 1)=D (J ((a.length-1:Nat):Int)):=by rw[lK G G];congr 2;omega
 generalize cb:(λ(v:Nat)=>if(!decide ((v:Int)∈a)&&c.gx.p8 v (mO a))=true then B1 c.ei.length (λa=>c.gx.vR (gC a)) (λa v=> !decide (v∈a)&&c.gx.p8 v (mO a)) W (a++[(v:Int)])else [])=f at R;simp[s,dm,dn,er];refine pU c.ei.length (λk z d=>p0+1<=k/\∃r n,Xt j y 1 (es++n) r d/\jr (Ni j d r) n ((if c.gx.vR (gC a)=true then [a]else [])++(List.range' (p0+1) (k-(p0+1))).flatMap f)/\TI.Y z 1=D w/\TI.Y z 2=D r/\TI.Y z 3=D (dY h.size)/\TI.Y z 7=D (J k)) ?_ G (k:=p0+1) G ?_;rintro k z d e0 ⟨eW,r,n,x,C,s,E,K,Z⟩;have bN:=(x.2.1 h.size G λq=>iH (aE _ q)).trans bX;have c6:iS 0 d:=⟨x.2.2.2.hp,x.2.2.2.low,aB _⟩;by_cases cv:k<c.ei.length;have b9:binop .add (J (k:Int)) (J 1)=D (J ((k:Int)+1)):=jf G G;have⟨e9,ds,ea⟩:=(aX x).idx (te:=Dp) rfl rfl (i:=a.length-1) (x:= J (mO a)) (by rw[cp];simp[bA]) rfl;have bn:TI.qY d w=D (sl (D3 a)):=(aX x).qY V V;have eb:=λ{tb:ik} (ht:tb.p 90=D wn)=>Q4 ht c k (mO a) ae (fT.2 ⟨G,G⟩) eA;simp[s,K,Z,bN,cv,bC,eF,ds,ea,bn,eb,Ph,show a.length<=1099511627776 by omega];refine fG (λq=>?_) (λq=>?_);have⟨bi,B,O,⟨eR,eS,gA⟩,U,M,F⟩:=kN (cx:=cx) (sz:=1) c6 (x:=w) (xs:=D3 a) kE rfl nc kE rfl rfl V (aX x).jQ d1 dP;have c4:Nb d B:=⟨⟨F.hp,F.low,G⟩,M⟩;have bn:=Gr.new (h:=B) (b:=d.size) (es:=D3 a) gA;have⟨c9,bT,a8,S⟩:=bn.mR (cx:=cx) (f:=T.int .i64) F kE rfl nc rfl V (λx=>rfl) (k:Int) dP;have eK:=F.low;have e6:=c6.low;simp at O a8;rw[U]at a8;have aA:h.size<d.size:=iH x.2.2.2.sz;have b6:∀o,o<d.size->bT.get o=d.get o:=λo I=>(S.2.1 o G dP).trans (M o I);have eM:gJ (d.cons (dU 1 0 [])) B h.size:=il ((M _ aA).trans d2);have eN:gJ (d.cons (dU 1 0 [])) B (d.size+1):=jF (mG _ V);have eO:gJ (B.cons (dU 1 0 [J k])) bT h.size:=il ((b6 _ aA).trans (by rw[fg,aw G];exact(M _ aA).symm));have al:Nb d bT:=⟨⟨S.2.2.2.hp,S.2.2.2.low,iH S.2.2.2.sz⟩,b6⟩;simp[s,E,K,Z,bN,O,a8,U,eM,eN,eO];have de:=Xt.nb x al;have bu:f k=B1 c.ei.length (λa=>c.gx.vR (gC a)) (λa v=> !decide (v∈a)&&c.gx.p8 v (mO a)) W (a++[(k:Int)]):=by rw[<-cb];simp only;rw[ax q]
 have ca:cyR ⟨c,a++[(k:Int)],c9,r,es++n⟩=f k:=by rw[bu];unfold cyR;simp only[aY,List.length_singleton];rw[show 4-(a.length+1)=W by omega];rfl
 have eH:jn (p0+1) c.ei.length=List.range' (p0+1) (k-(p0+1))++k::List.range' (k+1) (c.ei.length-(k+1)):=by
  unfold jn;rw[show c.ei.length-(p0+1)=(k-(p0+1))+(c.ei.length-k)by omega,<-List.range'_append_1,show p0+1+(k-(p0+1))=k by omega,show c.ei.length-k=(c.ei.length-(k+1))+1 by omega,List.range'_succ]
 have eB:=C.length;have et:(es++n).length+(f k).length<=1000000:=by
  rw[R,eH]at bs;simp[aY,c8,aV]at bs eB|-;omega
 refine ma eI V ⟨c,a++[(k:Int)],c9,r,es++n⟩ ⟨⟨rfl,S.1,de.1,λb u hr=>?_,⟨al.ok.hp,al.ok.low,aB _⟩,ae,V,dP,λN A=>?_,ca▸et⟩,dP⟩ ?_;have⟨_,_,_,_,A,_⟩:=x.1.box hr;have:=H.fN A;rcases S.2.2.1 b u with q|q;simp at q;omega;omega;simp at A;rcases A with A|rfl
 exact av N A;show jx (k:Int) c.ei.length=true;exact fT.2 ⟨G,G⟩;rintro r3 eV ⟨eL,bS,bW⟩;rw[ca]at bW;have fe:=bS.2.2.2.sz;have e4:h.size+1<=d.size:=aA;have fb:=al.ok.sz;simp[s,K,Z,b9];refine⟨k+1,G,G,G,r3,n++eL,?_,?_,rfl,V⟩;have:=de.trans bS;rw[aQ]at this;exact this;rw[show k+1-(p0+1)=(k-(p0+1))+1 by omega,List.range'_concat,show p0+1+1*(k-(p0+1))=k by omega,c8,<-aQ];refine jr.append (C.imp λ_ _ N=>(N.nb al).xt bS) ?_;simp[aV,cB,bJ];exact bW.imp λ_ _ N=>⟨N.1,λo I=>⟨iH (N.2 o I).1,(N.2 o I).2⟩⟩;simp[s,E,K,Z,b9];have bu:f k=[]:=by rw[<-cb];simp only;rw[aw (by rw[q];simp)]
 refine⟨k+1,G,G,G,r,n,x,?_,rfl,V⟩;rw[show k+1-(p0+1)=(k-(p0+1))+1 by omega,List.range'_concat,show p0+1+1*(k-(p0+1))=k by omega,c8];simpa[bu]using C;simp[E,K,Z,bN,cv];refine⟨n,(dd.trans x).out,?_⟩;rw[R];unfold jn;rw[show k=c.ei.length by omega]at C;exact C.imp λ_ _ q=>q.fin G;exact⟨G,r,n,x,iD C,by simp[s,E,K]⟩
def Gh:iE:=⟨iw,λa=>[a.t,a.t],λa=>a.jo.length<=1000000,λa=> .ej true,λb c d=>rfl⟩
def Yd:Gh.Ok prog cx 15:=by refine iz [(43,uP)] (js 31 [] func15) (λ_=>10) (by simp[Gh]) ?_;rintro(a:iw) hl g b;simp[Gh]at b hl|-;obtain⟨e,f⟩:=b;have d:=λ{c:ik} (ht:c.p 43=D uP)=>SZ ht a.jo a.jo G G;simp[*,f15]
def kM{a b:Nat}(c:a<b):jn a b=a::jn (a+1) b:=by unfold jn;rw[show b-a=(b-(a+1))+1 by omega,List.range'_succ]
def lO{a b:Nat}(c:b<=a):jn a b=[]:=by unfold jn;rw[show b-a=0 by omega];rfl
def FW(a:Nat):List.range a=jn 0 a:=by unfold jn;rw[List.range_eq_range'];rfl
def oc{d i:Type}(b:Nat){f:d->List i}:∀{l:List d},(∀a∈l,(f a).length<=b)->(l.flatMap f).length<=l.length*b:=by
 intro l;induction l with
 |nil=>intro _;simp
 |cons a l g=>
  intro c;rw[aV,aY,aZ,cD];have j:=c a V;have k:=g λh e=>c h (by simp[e]);omega
def FX(b a:Nat):(jn b a).length<=a:=by unfold jn;simp
def Kx{n:Nat}(e:n<=16){ok:List Int->Bool}{go:List Int->Int->Bool}:∀(a:Nat) (b:List Int),(B1 n ok go a b).length<=17^a:=by
 intro a;induction a with
 |zero=>intro b;unfold B1;split<;>simp
 |succ a g=>
  intro b;unfold B1;rw[aY];have h:(if ok b=true then [b]else []).length<=1:=by split<;>simp
  have i:=oc (17^a) (l:=jn ((b.getD 0 0).toNat+1) n) (f:=λ(c:Nat)=>if go b c=true then B1 n ok go a (b++[(c:Int)])else []) λm _=>by
   split;exact g _;simp
  have d:=FX ((b.getD 0 0).toNat+1) n;have j:=bD (17^a) (aU d e);have k:0<17^a:=Nat.pow_pos G;rw[Nat.pow_succ];omega
def I9(b:iw->Bool)(a:iw):(jJ b a).length<=1:=by unfold jJ;split<;>simp
def DW(a:GX)(m:a.n<=16):a.oH.length<=100000+80000:=by
 unfold GX.oH;simp only[aY];have two:∀h:Nat->Nat->iw,((List.range a.n).flatMap λ(b:Nat)=>(List.range a.n).flatMap λ(c:Nat)=>jJ a.vR (h b c)).length<=256:=λh=>by
  have j:=oc 16 (l:=List.range a.n) (f:=λ(b:Nat)=>(List.range a.n).flatMap λ(c:Nat)=>jJ a.vR (h b c)) λb _=>by
   have k:=oc 1 (l:=List.range a.n) (f:=λ(c:Nat)=>jJ a.vR (h b c)) λc _=>I9 _ _;rw[dK]at k;omega
  rw[dK]at j;omega
 have j:=two gR;have k:=two gL;have p:((List.range a.n).flatMap λ(b:Nat)=>(a.Eg b).map gC).length<=16*4913:=by
  have i:=oc 4913 (l:=List.range a.n) (f:=λ(b:Nat)=>(a.Eg b).map gC) λb _=>by
   rw[aK];exact Kx (show a.ev.length<=16 from m) 3 _
  rw[dK]at i;omega
 have q:((List.range a.n).flatMap λ(b:Nat)=>(jn (b+1) a.n).flatMap λ(c:Nat)=>if(a.e b).eG=(a.e c).eG/\oy (a.e b)/\oy (a.e c)=true then(List.range a.n).flatMap λ(d:Nat)=>(jn d a.n).flatMap λ(g:Nat)=>jJ a.vR (gA b c d g)else []).length<=16*(16*256):=by
  have i:=oc (16*256) (l:=List.range a.n) (f:=λ(b:Nat)=>(jn (b+1) a.n).flatMap λ(c:Nat)=>if(a.e b).eG=(a.e c).eG/\oy (a.e b)/\oy (a.e c)=true then(List.range a.n).flatMap λ(d:Nat)=>(jn d a.n).flatMap λ(g:Nat)=>jJ a.vR (gA b c d g)else []) λb _=>by
   have r:=oc 256 (l:=jn (b+1) a.n) (f:=λ(c:Nat)=>if(a.e b).eG=(a.e c).eG/\oy (a.e b)/\oy (a.e c)=true then(List.range a.n).flatMap λ(d:Nat)=>(jn d a.n).flatMap λ(g:Nat)=>jJ a.vR (gA b c d g)else []) λc _=>by
    split;have o:=oc 16 (l:=List.range a.n) (f:=λ(d:Nat)=>(jn d a.n).flatMap λ(g:Nat)=>jJ a.vR (gA b c d g)) λd _=>by
     have s:=oc 1 (l:=jn d a.n) (f:=λ(g:Nat)=>jJ a.vR (gA b c d g)) λg _=>I9 _ _;have:=FX d a.n;omega
    rw[dK]at o;omega;simp
   have:=FX (b+1) a.n;omega
  rw[dK]at i;omega
 omega
structure FO(w:eJ)(h:H)(v:T)(es:List T)(gs:List iw):Prop where
 g:Gr h v 6 es
 a:jr (FT h (λc=>1<=c/\c<h.size/\fa v≠some c) 4) es (gs.map iw.t)
 ok:iS 1 h
 b0:h.get 0=D (dU 15 0 [w.t])
 v0:fa v≠some 0
def FO.step{o:eJ}{m d:H}{n j:T}{g h:List T}{l gs2:List iw}(c:FO o m n g l)(b:Xt m n 6 (g++h) j d)(p:jr (FT d (λf=>1<=f/\f<d.size/\fa j≠some f) 4) h (gs2.map iw.t)):FO o d j (g++h) (l++gs2):=by have r:=c.ok.sz;have s:=b.2.2.2.sz;refine⟨b.1,?_,⟨b.2.2.2.hp,b.2.2.2.low,G⟩,(b.2.1 0 G c.v0).trans c.b0,λi=>(b.2.2.1 0 i).elim c.v0 G⟩;rw[List.map_append];exact(c.a.imp λ_ _ q=>q.mono λk e=>⟨⟨e.1,G,λi=>(b.2.2.1 k i).elim e.2.2 G⟩,b.2.1 k e.2.1 e.2.2⟩).append p
def ag2{d:H}{b:Nat->Prop}{a:iw}(e:a.jo=[])(c:Nat):FT d b (c+2) (gT a) a.t:=by refine .inr (.inr ⟨_,_,rfl,.cons (iL ..) (.cons (iL ..) (.cons (iL ..) (.cons (iL ..) (.cons (iL ..) (.cons (kc _ _ _ _) .nil))))),?_⟩);unfold iw.t iw.cs;rw[e];rfl
theorem FO.put{b:eJ}{f g:H}{h i:T}{d:List T}{e:List iw}{a:iw}(k:FO b f h d e)(j:a.jo=[])(x:Xt f h 6 (d++if b.gx.vR a=true then [gT a]else []) i g):∃AM,FO b g i AM (e++jJ b.gx.vR a):=by refine⟨_,k.step x ?_⟩;unfold jJ;split;exact .cons (ag2 j 2) .nil;exact .nil
def FO.len{b:eJ}{g:H}{l:T}{c:List T}{d f:List iw}(k:FO b g l c d)(j:b.ei.length<=16)(i:d++f=b.gx.oH):c.length<=1000000:=by have h:=k.a.length;have e:=DW b.gx j;rw[<-i]at e;simp at h e;omega
def uG:iE:=⟨eJ,λa=>[a.t],λa=>kj a,λa=>sl (a.gx.oH.map iw.t),λc d b=>by simp at b;rw[eJ.inj b]⟩
structure An(x:iC):Prop where
 w:kj x.w
 s:x.NI=x.w.gx.st
def An.st{a:iC}(c:An a){e:Int}(d:jx e a.w.ei.length):∃b,a.NI[e.toNat]? =D b/\a.w.gx.s e=b/\m9 a.w.gG b/\(∀h∈b.fQ,h.fZ.length<=2000):=by have⟨f,i⟩:=c.w.ok.s d;have g:=c.w.ok.st (fT.1 d).2;refine⟨_,c.s▸g,f,f▸i,f▸(c.w.rd d).1⟩
def tI:iE:=⟨iC×Int×Int,λa=>[a.1.t,J a.2.1,J a.2.2],λa=>An a.1/\jx a.2.1 a.1.w.ei.length/\jx a.2.2 a.1.w.ei.length=true,λa=> .ej (a.1.w.gx.uo a.2.1 a.2.2),λa c b=>by simp at b;rw[iC.inj b.1,b.2.1,b.2.2]⟩
def So:tI.Ok prog cx 141:=by
 refine iz [(186,Cg),(73,nO)] (js 36051629065113551 [(1,[(8,14),(10,14),(11,14)])] func141) (λ_=>10) (by simp[tI]) ?_;rintro⟨f,j,i⟩ ⟨p,u,z⟩ ae g
 dsimp at p u z
 simp[tI]at g|-;have⟨v,N,k,y,Y,Z⟩:=p.w.at u;have⟨c,K,L,M,X,n⟩:=p.w.at z;have⟨C,r,S,s,T⟩:=p.st u;have a:=GX.p8.eq_1 f.w.gx j i;rw[M,y,S,show f.w.gx.w=f.w.gG from rfl]at a;have t:f.w.gx.uo j i=(ue v.fc&&f.w.gx.p8 j i):=by rw[<-y];rfl
 generalize f.w.gx.uo j i=B at*
 generalize f.w.gx.p8 j i=U at*
 simp[f141,g,K,L,N,k,Zl,mK];refine fG (λl=>?_) (λl=>?_);have:B=false:=by
  rw[t];cases P:ue v.fc;rfl;rw[P]at l;have ht:c.eG=v.eG:=iD l;rw[ax ht]at a;rw[a];rfl
 simp[this];simp[ci,bK]at l;obtain⟨O,Q⟩:=l;rw[Q,bj]at t;subst t;rw[aw O]at a;simp;have o:∀b:fk,b∈C.fQ->b.fZ.length<=1000000:=λb hl=>iH (T b hl);cases A:decide (c.fc=6)with
 |true=>
  have d:c.fc=6:=iD A;have⟨b,l1,l2,l3⟩:=wy s (mM n G);have hl:=o b (aD l2);rw[ax (.inl d),l3]at a;simp[g,l1,l2,r,k,oP,hl,a]
 |false=>
  cases e:decide (c.fc=10)with
  |true=>
   have d:c.fc=10:=iD e;have⟨b,l1,l2,l3⟩:=wy s (mM n G);have hl:=o b (aD l2);rw[ax (.inr d),l3]at a;simp[g,e,l1,l2,r,k,oP,hl,a]
  |false=>
   have R:¬(c.fc=6\/c.fc=10):=by simp at A e;omega
   rw[aw R]at a;cases h:decide (c.fc=8)with
   |true=>
    have d:c.fc=8:=iD h;have⟨b,l1,l2,l3⟩:=wy s (mM n G);rw[ax d,l3]at a;have hl:=o b (aD l2);simp[g,e,h,l1,l2,r,k,a]
   |false=>
    rw[aw (iD h)]at a;cases m:decide (c.fc=17)with
    |true=>
     have d:c.fc=17:=iD m;have⟨W,b,E,F,H,x,I⟩:=FF s (qC n G);rw[ax d,I]at a;have hl:=o b (aD x);simp[g,e,h,m,E,F,H,x,r,k,a]
    |false=>
     rw[aw (iD m)]at a;cases q:decide (c.fc=21)with
     |true=>
      rw[ax (iD q)]at a;simp[e,h,m,q,a]
     |false=>
      rw[aw (iD q)]at a;simp[e,h,m,q,a]
def Gi:iE:=⟨iC×Int×Int,λa=>[a.1.t,J a.2.1,J a.2.2],λa=>An a.1,λa=> .ej ((jx a.2.1 a.1.w.ei.length&&jx a.2.2 a.1.w.ei.length)&&a.1.w.gx.VF a.2.1 a.2.2),λa c b=>by simp at b;rw[iC.inj b.1,b.2.1,b.2.2]⟩
def Yj:Gi.Ok prog cx 118:=by
 refine iz [(119,sS)] (js 1238093369775042453301102031 [(3,[(8,14),(10,14),(11,14)])] func118) (λ_=>100) (by simp[Gi]) ?_;rintro⟨f,a,b⟩ o h n;replace o:An f:=o;simp[Gi]at n|-;cases u:(jx a f.w.ei.length&&jx b f.w.ei.length)with
 |false=>simp[f118,n,vJ,u,iU]
 |true=>
  have H:=u;rw[aC]at H;obtain⟨z,C⟩:=H;have⟨A,a1,a2,a3,a4,a5⟩:=o.w.at z;have⟨v,B,a7,M,N,a8⟩:=o.w.at C;have⟨S,I,ap,av,bS⟩:=o.st z;have⟨K,aE,aN,aX⟩:=xR av N;have d:=GX.VF.eq_1 f.w.gx a b;rw[a3,M,ap,aX]at d;generalize f.w.gx.VF a b=L at*
  obtain⟨e,rfl,bA⟩:=kj.nat z;obtain⟨c,rfl,bH⟩:=kj.nat C;have bN:=o.w.ok.len;rw[cN]at a1 B I;by_cases bC:c<e;rotate_left;rw[aS (show¬(c:Int)<e by omega)]at d;simp[f118,n,vJ,u,iU,d,show e<=c by omega];have U:=KQ f.w.gx (lo:=(c:Int)+1) (hi:=e) (a:=c+1) (b:=e) (λm=> !decide (m.eG=v.eG)) G rfl;rw[U,show f.w.gx.ev=f.w.ei from rfl,bh (show(c:Int)<e by omega)]at d;have T:binop .add (J (c:Int)) (J 1)=D (J ((c:Int)+1)):=jf G G;have aA:lr ((c:Int)+1)=D (c+1):=by have:=fO (show(0:Int)<=((c+1:Nat):Int)by omega);simpa using this
  simp[f118,n,vJ,u,iU,show¬e<=c by omega,a1,B,mK];refine fG (λr=>?_) (λr=>?_);have:L=false:=by
   rw[cO];intro g;rw[d]at g;simp only[aC,cj,aO,cK,bK]at g r;obtain⟨⟨⟨⟨⟨⟨⟨_,bp⟩,O⟩,P⟩,Q⟩,bs⟩,bi⟩,bn⟩:=g;simp[O,P,Q]at r;omega
  simp[this];simp only[ci,Bool.and_eq_false_iff,dt,bK,aO]at r;obtain⟨⟨⟨Z,ae⟩,al⟩,an⟩:=r;rw[bh ae,bh al,aS an,show(decide (A.fc=18)||decide (A.fc=19))=true by simpa using Z]at d;simp[-List.length_take,-List.length_drop,n,T,aA,show c+1<=e by omega,show e<=f.w.ei.length by omega];have bu:((f.w.ei.drop (c+1)).take (e-(c+1))).length<=16:=dP;generalize(f.w.ei.drop (c+1)).take (e-(c+1))=l at*
  refine gW l.length G (λs h g=>iS 4 g/\g.get 0=D (dU 16 0 [f.t])/\g.get 2=D (dU 7 1 [A.t])/\g.get 3=D (dU 7 1 [v.t])/\((l.drop s).all λm=> !decide (m.eG=v.eG))=(l.all λm=> !decide (m.eG=v.eG))/\TI.Y h 1=D (J e)/\TI.Y h 3=D (dY 0)/\TI.Y h 7=D (dY 2)/\TI.Y h 8=D (dY 3)/\TI.Y h 67=D (sl (l.map fR.t))/\TI.Y h 68=D (J l.length)/\TI.Y h 69=D (J s)) ?_ ?_ G ?_;rintro s h g E R ⟨i,x,y,p,j,q⟩;have W:=i.ne (b:=0) G;have X:=i.ne (b:=2) G;have F:=i.ne (b:=3) G;rw[aL E,cA]at j;simp[p,q,F,i.low,E];generalize l[s]=m at*
  refine fG (λk=>?_) (λk=>?_);rw[k]at j;rw[<-j]at d;simp at d;simp[d,i.hp];rw[k]at j;simp[q,R];exact⟨i.cons _,by simp[x,W],by simp[y,X],by simp[p,F],iD j⟩;rintro h g ⟨i,x,y,p,j,q⟩;rw[cq]at j;rw[<-j]at d;simp at d;simp[x,p,q,I,aE,aN];refine fG (λk=>?_) (λk=>?_);rw[show decide (K.jq=3)=false by simpa using k]at d;simp at d;simp[d,i.hp];rw[show decide (K.jq=3)=true by simpa using k]at d;simp at d;simp[y,p,q,i.hp,d];simp[n]
def x6:iE:=⟨iC×Int×Int,λa=>[a.1.t,J a.2.1,J a.2.2],λa=>An a.1/\jx a.2.1 a.1.w.ei.length/\jx a.2.2 a.1.w.ei.length=true,λa=> .ej (a.1.w.gx.M6 a.2.1 a.2.2),λa c b=>by simp at b;rw[iC.inj b.1,b.2.1,b.2.2]⟩
def LZ:x6.Ok prog cx 89:=by
 refine iz [] (js 18463641368405213903 [] func89) (λ_=>100) (by simp[x6]) ?_;rintro⟨g,a,b⟩ ⟨l,p,u⟩ h o
 dsimp at l p u
 simp[x6]at o|-;have⟨i,a1,a2,a3,a4,a5⟩:=l.w.at p;have⟨S,x,U,C,W,X⟩:=l.w.at u;have⟨T,A,L,M,av⟩:=l.st p;have⟨O,P,Q,R⟩:=xR M a4;have d:=GX.M6.eq_1 g.w.gx a b;rw[a3,C,L,R]at d;generalize g.w.gx.M6 a b=B at*
 obtain⟨c,rfl,ae⟩:=kj.nat p;obtain⟨e,rfl,an⟩:=kj.nat u;have ap:=l.w.ok.len;rw[cN]at a1 x A;have H:=KQ g.w.gx (lo:=(c:Int)+1) (hi:=e) (a:=c+1) (b:=e) (GX.CU i.eG) G rfl;rw[H,show g.w.gx.ev=g.w.ei from rfl]at d;have F:binop .add (J (c:Int)) (J 1)=D (J ((c:Int)+1)):=jf G G;have N:lr ((c:Int)+1)=D (c+1):=by have:=fO (show(0:Int)<=((c+1:Nat):Int)by omega);simpa using this
 by_cases al:c<e;rotate_left;rw[aS (show¬(c:Int)<e by omega)]at d;simp[f89,o,d,show e<=c by omega,a1];rw[bh (show(c:Int)<e by omega),bj]at d;simp[f89,o,show¬e<=c by omega,a1,x,A,P,Q];refine fG (λk=>?_) (λk=>?_);have:B=false:=by
  rw[d];cases I:decide (S.eG=i.eG)<;>cases K:O.atomic<;>simp[I,K]at k|-
 simp[this];simp[ci]at k;rw[k.1,k.2]at d;simp[-List.length_take,-List.length_drop,o,F,N,show c+1<=e by omega,show e<=g.w.ei.length by omega];have Z:((g.w.ei.drop (c+1)).take (e-(c+1))).length<=16:=dP;generalize(g.w.ei.drop (c+1)).take (e-(c+1))=j at*
 refine gW j.length G (λq h s=>iS 1 s/\(j.drop q).all (GX.CU i.eG)=j.all (GX.CU i.eG)/\TI.Y h 7=D (J i.eG)/\TI.Y h 50=D (sl (j.map fR.t))/\TI.Y h 51=D (J j.length)/\TI.Y h 52=D (J q)) ?_ ?_ G ?_;rintro q h s z E ⟨m,f,n⟩;rw[aL z,cA]at f;simp[n,m.low,z];generalize j[q]=r at*
 have y:GX.CU i.eG r= !(decide (r.eG=i.eG)&&decide (r.fc=15)):=rfl;refine fG (λv=>?_) (λv=>?_);rw[y,v]at f;rw[<-f]at d;simp at d;simp[d,m.hp];rw[y,v]at f;simp[n,E];exact⟨m.cons _,iD f⟩;rintro h s ⟨m,f,n⟩;rw[cq]at f;rw[<-f]at d;simp at d;simp[n,m.hp,d];simp
def zu:iE:=⟨iC×iw,λe=>[e.1.t,e.2.t],λe=>An e.1/\jx e.2.a e.1.w.ei.length/\jx e.2.b e.1.w.ei.length/\jx e.2.c e.1.w.ei.length/\jx e.2.d e.1.w.ei.length=true,λe=> .ej (e.1.w.gx.brk e.2.a e.2.b e.2.c e.2.d),λe g f=>by simp at f;rw[iC.inj f.1,iw.inj f.2]⟩
def Sl:zu.Ok prog cx 120:=by
 refine iz [(177,wj)] (js 63 [] func120) (λ_=>100) (by simp[zu]) ?_;rintro⟨a,⟨E,b,c,d,f,F⟩⟩ ⟨g,h,l,i,j⟩ K s
 dsimp at g h l i j
 simp[zu]at s|-;have⟨L,a1,a2,a3,a4,a5⟩:=g.w.at h;have⟨H,u,v,m,x,y⟩:=g.w.at i;have⟨I,z,A,n,B,C⟩:=g.w.at j;have r:=GX.brk.eq_1 a.w.gx b c d f;have o:=λ{k:ik} (ht:k.p 177=D wj)=>FK ht a b d h i;have q:=λ{k:ik} (ht:k.p 177=D wj)=>FK ht a f c j l;rw[show mP a.w.ei b=a.w.gx.e b from rfl,show mP a.w.ei d=a.w.gx.e d from rfl]at o;rw[show mP a.w.ei f=a.w.gx.e f from rfl,show mP a.w.ei c=a.w.gx.e c from rfl]at q;generalize a.w.gx.brk b c d f=t at*
 generalize mr (a.w.gx.e b) (a.w.gx.e d)=p1 at*
 generalize mr (a.w.gx.e f) (a.w.gx.e c)=p2 at*
 rw[a3,m,n]at r;simp[*,f120]
def Cs:iE:=⟨iC×List Int,λa=>[a.1.t,sl (a.2.map (T.int .i64))],λa=>An a.1/\a.2.length<=1000000,λa=> .ej (a.1.w.gx.Ji a.1.w.gx.uo a.2),λa c b=>by simp at b;rw[iC.inj b.1,j3 V b.2]⟩
def M1{d:ik}(ht:d.p 141=D tI)(a:iC)(c b:Int)(g:An a)(e:jx c a.w.ei.length)(f:jx b a.w.ei.length):rl prog cx d 141 [a.t,J c,J b]=D (.ej (a.w.gx.uo c b)):=iF ht So (a,c,b) ⟨g,e,f⟩
def Vg:Cs.Ok prog cx 117:=by
 refine iz [(141,tI),(119,sS)] (js 2361217299907134620023 [] func117) (λ_=>100) (by simp[Cs]) ?_;rintro⟨f,a⟩ ⟨s,ae⟩ g z;simp only at s ae;simp[Cs]at z|-;have bn:=s.w.ok.len;have⟨u,m⟩:∃u,f.w.gx.Ji f.w.gx.uo a=u:=⟨_,rfl⟩;rw[m];simp[f117,z,KJ,show a.length<=1099511627776 by omega];refine fG (λr=>?_) (λr=>?_);have:u=false:=by
  rw[<-m];simp only[cj,aO,cK]at r;rcases r with(h|h)|h
  exact qT G;exact qT G;unfold o6 at h;rw[List.all_eq_false]at h;obtain⟨d,o,an⟩:=h;obtain⟨b,P,rfl⟩:=List.mem_iff_getElem.1 o;exact qT (.inr (.inr (.inl ⟨b,P,by simp[List.getD,P];exact(by simpa using an:jx a[b] f.w.ei.length=false)⟩)))
 simp[this];simp only[ci,dt,bK]at r;obtain⟨⟨bp,bs⟩,R⟩:=r;have X:2<=a.length:=G;have Z:a.length<=4:=G;have q:∀c (i:c<a.length),jx a[c] f.w.ei.length=true:=λc i=>by
  unfold o6 at R;exact List.all_eq_true.1 R _ (aH i)
 have al:∀c<a.length,jx (a.getD c 0) f.w.gx.ev.length=true:=λc i=>by simp[List.getD,i];exact q c i
 simp[z];generalize C:H.cons _ _=v;have aN:v.get 0=D (dU 16 0 [f.t]):=by rw[<-C];simp
 have M:Hp v:=by rw[<-C];simp
 clear C;refine gW a.length G (λb g h=>v=h/\(∀c<b,CV f.w.gx f.w.gx.uo a c=true)/\TI.Y g 1=D (sl (a.map (T.int .i64)))/\TI.Y g 2=D (dY 0)/\TI.Y g 23=D (sl (a.map (T.int .i64)))/\TI.Y g 24=D (J a.length)/\TI.Y g 25=D (J b)) ?_ ?_ G ?_;rintro b g _ A a8 ⟨rfl,E,l⟩;have I:∀c (i:c<a.length),a.getD c 0=a[c]:=λc i=>by simp[List.getD,i]
 have N:0<a.length:=G;have ap:=PT (b+1) a.length G G;have L:(b+1)% a.length<a.length:=Nat.mod_lt _ N;have n:CV f.w.gx f.w.gx.uo a b=(!decide (a[b]<a[0])&&f.w.gx.uo (a[(b+1)% a.length]'L) a[b]&&(List.range b).all λd=> !decide ((f.w.gx.e a[b]).eG=(f.w.gx.e (a.getD d 0)).eG)):=by unfold CV;rw[I _ A,I _ N,I _ L]
 generalize(b+1)% a.length=Q at*
 have aX:=λ{aA:ik} (ht:aA.p 141=D tI)=>M1 ht f a[Q] a[b] s (q Q L) (q b A);have⟨x,a1,a2,a3,a4,a5⟩:=s.w.at (q b A);rw[a3]at n;simp at ap;have O:CV f.w.gx f.w.gx.uo a b=false->u=false:=λh=>m▸qT (.inr (.inr (.inr ⟨b,A,h⟩)));simp[*];refine fG (λj=>?_) (λj=>?_);have:CV f.w.gx f.w.gx.uo a b=false:=by
  rw[n,cO];intro h;simp only[aC,cK,bK]at h;simp[h.1.2]at j;omega
 simp[O this,M];simp only[ci,dt,bK]at j;rw[j.2,aS j.1]at n;simp[-List.length_take,l,show b<=a.length by omega];have⟨k,B⟩:∃k,k=a.take b:=⟨_,rfl⟩;rw[<-B];have W:k.length=b:=by rw[B];simp;omega
 have av:∀d (o:d<k.length) (hl:d<a.length),k[d]=a[d]:=λd o hl=>by subst B;exact List.getElem_take
 refine gW b G (λd g h=>v=h/\(∀c<d,decide (x.eG=(f.w.gx.e (a.getD c 0)).eG)=false)/\TI.Y g 1=D (sl (a.map (T.int .i64)))/\TI.Y g 2=D (dY 0)/\TI.Y g 6=D (J a[b])/\TI.Y g 23=D (sl (a.map (T.int .i64)))/\TI.Y g 24=D (J a.length)/\TI.Y g 25=D (J b)/\TI.Y g 51=D (sl (k.map (T.int .i64)))/\TI.Y g 52=D (J b)/\TI.Y g 53=D (J d)) ?_ ?_ G ?_;rintro d g _ U bi ⟨rfl,F,l⟩;have K:d<a.length:=G;have⟨y,bu,bA,aE,bC,bH⟩:=s.w.at (q d K);have S:d<k.length:=G;have a7:=av d S K;simp[*];refine fG (λj=>?_) (λj=>?_);have:CV f.w.gx f.w.gx.uo a b=false:=by
  rw[n];simp;exact⟨d,U,by simpa[K,aE]using j⟩
 simp[O this,M];simp[*];intro c i;rcases aW c d with h|h
 simpa using F c h;rw[show c=d by omega];simp[*];simpa using j;rintro g _ ⟨rfl,F,l⟩;simp[*];intro c i;rcases aW c b with h|h;exact E c h;rw[show c=b by omega,n];simp;intro d o;simpa using F d o;simp[l,W];rintro g _ ⟨rfl,E,l⟩;rw[MN X Z al E]at m;simp[l,m.symm,M];simp[z]
theorem kj.cells{a:eJ}(g:kj a):K0 a:=λd h e=>by
 have⟨i,f⟩:=cU h;have hl:i<a.ei.length:=(List.getElem?_eq_some_iff.1 f).1;have⟨k,b,l,m,n,c⟩:=g.at (i:=i) (fT.2 ⟨G,iD hl⟩);rw[cN,f]at b;cases b;have j:d.fc=3\/d.fc=4:=by unfold oy at e;simpa using e
 unfold ky at c;rw[aw G,ax j]at c;exact c
def MY{f:ik}(ht:f.p 119=D sS)(a:iC)(b c d e:Int):rl prog cx f 119 [a.t,sl [J b,J c,J d,J e]]=D (.ej (jx b a.w.ei.length&&jx c a.w.ei.length&&jx d a.w.ei.length&&jx e a.w.ei.length)):=by have:=KJ ht a [b,c,d,e] V;simpa[o6,Bool.and_assoc]using this
def T5{a:iC}(d:An a)(b c:Int):EE a.w b c=((jx b a.w.ei.length&&jx c a.w.ei.length)&&a.w.gx.Xw b c):=by
 unfold EE GX.Xw GX.e eJ.gx;cases jx b a.w.ei.length<;>cases jx c a.w.ei.length<;>simp
 ac_rfl
def xX:iE:=⟨iC×iw,λa=>[a.1.t,a.2.t],λa=>An a.1/\a.2.jo.length<=1000000,λa=> .ej (a.1.w.gx.vG a.2),λa c b=>by simp at b;rw[iC.inj b.1,iw.inj b.2]⟩
def UJ:xX.Ok prog cx 58:=by
 refine iz [(116,DE),(117,Cs),(118,Gi),(119,sS),(89,x6),(120,zu)] (js 2417851783344448572752095 [] func58) (λ_=>100) (by simp[xX]) ?_;rintro⟨f,e⟩ ⟨i,l⟩ F x;simp only at i l;simp[xX]at x|-;have h:=GX.vG.eq_1 f.w.gx e;simp only[show∀m,f.w.gx.BZ m=jx m f.w.ei.length from λ_=>rfl]at h;generalize f.w.gx.vG e=B at*
 cases q:decide (e.fc=1)with
 |true=>
  rw[ax (iD q)]at h;have k:∀{g:ik},g.p 116=D DE->rl prog cx g 116 [f.t,J e.a,J e.b]=D (.ej ((jx e.a f.w.ei.length&&jx e.b f.w.ei.length)&&f.w.gx.Xw e.a e.b)):=λht=>by rw[<-T5 i];exact adj ht f e.a e.b i.w.cells
  simp[*,f58]
  try ac_rfl
 |false=>
  rw[aw (iD q)]at h;cases r:decide (e.fc=2)with
  |true=>
   rw[ax (iD r)]at h;have k:∀{g:ik},g.p 117=D Cs->rl prog cx g 117 [f.t,sl (e.jo.map (T.int .i64))]=D (.ej (f.w.gx.Ji f.w.gx.uo e.jo)):=λht=>iF ht Vg (f,e.jo) ⟨i,l⟩;simp[*,f58,GX.dead]
  |false=>
   rw[aw (iD r)]at h;cases s:decide (e.fc=3)with
   |true=>
    rw[ax (iD s)]at h;have k:∀{g:ik},g.p 118=D Gi->rl prog cx g 118 [f.t,J e.a,J e.b]=D (.ej ((jx e.a f.w.ei.length&&jx e.b f.w.ei.length)&&f.w.gx.VF e.a e.b)):=λht=>iF ht Yj (f,e.a,e.b) i;simp[*,f58]
    try ac_rfl
   |false=>
    rw[aw (iD s)]at h;cases u:decide (e.fc=4)with
    |false=>
     rw[aw (iD u)]at h;simp[*,f58]
    |true=>
     rw[ax (iD u)]at h;cases j:(jx e.a f.w.ei.length&&jx e.b f.w.ei.length&&jx e.c f.w.ei.length&&jx e.d f.w.ei.length)with
     |false=>
      rw[j]at h;cases A:decide (e.jo=[])<;>simp[*,f58,MY,iU]
     |true=>
      rw[j]at h;have v:=j;simp only[aC]at v;obtain⟨⟨⟨n,o⟩,y⟩,z⟩:=v;have C:∀{g:ik},g.p 89=D x6->rl prog cx g 89 [f.t,J e.a,J e.b]=D (.ej (f.w.gx.M6 e.a e.b)):=λht=>iF ht LZ (f,e.a,e.b) ⟨i,n,o⟩;have E:∀{g:ik},g.p 120=D zu->rl prog cx g 120 [f.t,e.t]=D (.ej (f.w.gx.brk e.a e.b e.c e.d)):=λht=>iF ht Sl (f,e) ⟨i,n,o,y,z⟩;cases A:decide (e.jo=[])<;>simp[*,f58,MY,iU]
def QW{c:ik}(ht:c.p 58=D xX)(b:iC)(a:iw)(d:An b)(hl:a.jo.length<=1000000):rl prog cx c 58 [b.t,a.t]=D (.ej (b.w.gx.vG a)):=iF ht UJ (b,a) ⟨d,hl⟩
def cv8(b:H)(a:Int)(c:0<=a)(d:a<256):V6 cx b 286 5 ty5 (.int .u64 a)=be (.int .u8 a) b:=by refine FE EW rfl ?_;rw[kz];unfold IntKind.wrap;simp[IntKind.bits,IntKind.signed];omega
def Qc:pI prog cx 233 (λa:Nat=>[.int .u64 a]) (λa=>a<=11) (λ_=>Ia):=by refine j2 [] (js 16661 [] func233) (λ_=>10) (λe f c=>by simp at c;omega) ?_;rintro(a:Nat) g h b;simp at b;have d:a=0\/a=1\/a=2\/a=3\/a=4\/a=5\/a=6\/a=7\/a=8\/a=9\/a=10\/a=11:=G;rcases d with rfl|rfl|rfl|rfl|rfl|rfl|rfl|rfl|rfl|rfl|rfl|rfl<;>simp at b<;>simp[f233,b,cv8,qI]
def Xb{c:jU}{g h:Nat}{d:DL}(i b:Code)(e:Env)(f:H)(a:jD):W (kw cx c h g d (.cond (.const (Value.bool false)) i b) e f) a=W (kw cx c h g d b e f) a:=rfl
def aaJ:pI prog cx 183 (λa:Nat=>[.int .u64 a]) (λa=>a<=11) (λ_=>Ia):=by refine j2 [(233,Qc.jV)] (js 5 [] func183) (λ_=>10) (λf g d=>by simp at d;omega) ?_;rintro(a:Nat) e i b;simp at b;obtain⟨_,⟨h,rfl⟩,c⟩:=Qc.use a e;simp[f183,b,c,Xb]
def aat(a:Xi)(c:List T)(b:H):Prop:=c=[a.v]/\Gr b a.v 1 (iy (a.A++[a.t]))/\iS 0 b/\No a.A/\a.t∉a.A/\a.A.length<=10
def cvu(b:H)(a:Int)(c:0<=a)(d:a<256):V6 cx b 3 284 TF (J a)=be (.int .u64 a) b:=by refine FE Y2 rfl ?_;rw[kz];unfold IntKind.wrap;simp[IntKind.bits,IntKind.signed];omega
def abT:(jS Xi aat JT).Ok prog cx 126:=by
 refine jz (tb:=⟨pt [(183,aaJ.jV)],ht [(182,jS (Xi×Int) aav Uo)]⟩) jk iX (js 5 [] func126) (λ_ _=>100) (λs q c k=>by obtain⟨rfl,_⟩:=k;simp[f126]) ?_;rintro⟨a,e,f⟩ _ c ⟨rfl,b,p,d,ht,hl⟩ u j
 dsimp at b d ht hl
 simp at j;have o:=λi:H=>b.len (cx:=cx) i pJ _ rfl;simp at o;have l:Gr (TI.hr c) f 1 (iy (a++[e])):=b.mono λg _=>iI c g;obtain⟨_,⟨n,rfl⟩,h⟩:=aaJ.use (a.length+1) G;simp at h;simp[*,f126,cvu,show(a.length:Int)+1<256 by omega,show(0:Int)<=(a.length:Int)+1 by omega];refine jl af0 V (⟨a,e,f⟩,n) ⟨V,l,p.hr,d,ht,hl⟩ ?_;rintro t r m;simp;exact InP.out m
structure ICo where
 (l:List Int) (v:T)
def aaE(a:ICo)(c:List T)(b:H):Prop:=c=[a.v]/\Gr b a.v 1 (iy a.l)/\iS 0 b/\No a.l/\a.l.length<=1000
def Ux(c:ICo)(e:List T)(a:H)(d:T)(b:H):Prop:=d=c.v/\Nb a b
def Sk:(jS ICo aaE Ux).Ok prog cx 127:=by
 refine jz (tb:=⟨pt [],ht []⟩) jk iX (js 17596514574653 [] func127) (λ_ _=>1005) (λi t a q=>by obtain⟨rfl,_⟩:=q;simp[f127]) ?_;rintro⟨b,c⟩ _ a ⟨rfl,e,s,g,hl⟩ d f
 dsimp at e g hl
 simp at f;have r:=λp:H=>e.len (cx:=cx) p pJ _ rfl;rw[aK]at r;have j:Gr (TI.hr a) c 1 (iy b):=e.mono λn _=>iI a n;have l:Nb a (mF a (TI.hr a)):=(Nb.refl s.hr).out;simp[*,f127];refine fG (λm=>?_) (λm=>?_);simp[f];exact⟨rfl,l⟩;have E:2<=b.length:=by simp at m;omega
 simp;refine pU b.length (λk d o=>TI.hr a=o/\1<=k/\TI.Y d 0=D c/\TI.Y d 3=D (J k)) ?_ G (k:=1) G (by simp[f]);rintro k d _ C ⟨rfl,B,z⟩;by_cases h:k<b.length;have A:binop .add (J (k:Int)) (J 1)=D (J ((k:Int)+1)):=jf G G;have I:binop .sub (J (k:Int)) (J 1)=D (J ((k-1:Nat):Int)):=by rw[lK G G];congr 2;omega
 have⟨p1,u,v⟩:=(show qk (TI.hr a) 1 c _ from .inr j).idx (te:=Dp) rfl rfl (i:=k) (x:= J b[k]) (by simp[h]) rfl;have⟨p2,w,y⟩:=(show qk (TI.hr a) 1 c _ from .inr j).idx (te:=Dp) rfl rfl (i:=k-1) (x:= J b[k-1]) (by simp[show k-1<b.length by omega]) rfl;have F:¬b[k]=b[k-1]:=by
  have:=List.pairwise_iff_getElem.1 g (k-1) k G h G;omega
 simp[*];exact⟨k+1,G,G,G,V⟩;simp[*];exact⟨rfl,l⟩
structure Px where
 (P Q:List Int) (t:Int) (v:T) (b:Nat) (bx:jI)
def fnT(a:Px):T:= .func 129 [dY a.b]
def adu(c:H)(a:Px):Prop:=c.get a.b=D (dU 1 0 [J a.t])
def Ui(a:Px×Int)(d:List T)(c:H):Prop:=d=[J a.2,dY a.1.b]/\adu c a.1/\iS 0 c
def NZ(a:Px×Int)(e:List T)(b:H)(d:T)(c:H):Prop:=d= .ej (decide (a.2=a.1.t))/\Nb b c
def Vc:(jS (Px×Int) Ui NZ).Ok prog cx 129:=by refine jz (tb:=⟨pt [],ht []⟩) jk iX (js 11 [] func129) (λ_ _=>10) (λm j a e=>by obtain⟨rfl,_⟩:=e;simp[f129]) ?_;rintro⟨⟨h,i,g,n,b,k⟩,p⟩ _ a ⟨rfl,d,f⟩ o c;simp at c;have l:(TI.hr a).get b=D (dU 1 0 [J g]):=(iI a b).trans d;simp[*,f129];exact⟨rfl,(Nb.refl f.hr).out⟩
def aaA(a:Px)(c:List T)(b:H):Prop:=c=[a.v,fnT a]/\adu b a/\iS 0 b/\Gr b a.v 1 (iy (a.P++a.t::a.Q))/\a.t∉a.P/\a.P.length+a.Q.length<=1000
def Ut(c:Px)(e:List T)(a:H)(d:T)(b:H):Prop:=d= J c.P.length/\Nb a b
def LO:(jS Px aaA Ut).Ok prog cx 132:=by
 refine jz (tb:=⟨pt [],ht [(129,jS (Px×Int) Ui NZ)]⟩) jk iX (js 66483 [] func132) (λ_ _=>2000) (λi K n B=>by obtain⟨rfl,_⟩:=B;simp[f132]) ?_;rintro⟨a,d,g,h,m,v⟩ _ n ⟨rfl,r,F,j,ht,hl⟩ c q
 dsimp at j ht hl
 simp[fnT]at q;obtain⟨y,p⟩:=q;have E:=λp:H=>j.len (cx:=cx) p pJ _ rfl;simp at E;have u:∀b,fa h=D b->b<n.size:=λb o=>by have⟨_,_,_,_,C,_⟩:=j.box o;exact H.fN C
 simp[*,f132];refine pU a.length (λk c e=>Nb (TI.hr n) e/\TI.Y c 0=D h/\TI.Y c 1=D (.func 129 [dY m])/\TI.Y c 7=D (J ((a.length:Int)+((d.length:Int)+1)))/\TI.Y c 8=D (J k)) ?_ G (k:=0) G ⟨Nb.refl F.hr,by simp[*]⟩;rintro k c e P ⟨f,y⟩;have I:iS 0 e:=⟨f.ok.hp,f.ok.low,aB _⟩;have t:=f.hr;have w:Gr e h 1 (iy (a++g::d)):=j.mono λb o=>t.get b (u b o);have O:binop .add (J (k:Int)) (J 1)=D (J ((k:Int)+1)):=jf G G;have⟨x,l⟩:∃x,(a++g::d)[k]? =D x:=⟨_,aF dP⟩;have⟨p1,L,M⟩:=(show qk e 1 h _ from .inr w).idx (te:=Dp) rfl rfl (i:=k) (x:= J x) (by rw[br,l];rfl) rfl;simp[*,show(k:Int)<(a.length:Int)+((d.length:Int)+1)by omega];refine jl Vc V (⟨a,d,g,h,m,v⟩,x) ⟨rfl,(t.get m (H.fN r)).trans r,I⟩ ?_;rintro _ N ⟨rfl,s⟩;simp;by_cases A:k<a.length;have Q:¬x=g:=by
  rw[cH A]at l;rintro rfl;exact ht (aD l)
 simp[*];exact⟨k+1,G,G,f.trans s,V⟩;have z:k=a.length:=G;subst z;have R:x=g:=iD l.symm;simp[*];exact⟨rfl,(f.trans s).out⟩
def abu(f:H)(g j:Ty)(h:ab)(b d e a c:Nat)(k:jI)(i:g.u= .slice h)(ht:cx.ty h=D j)(m:f.get b=D k)(o:k.sz=j.size)(n:c<=a):H8 cx f g (.arr b d e a false) (some c) none none=be (.arr b d (e+c) (a-c) false) f:=by
 unfold H8;have l:jy cx f g.u (.arr b d e a false):=by
  rw[i];unfold jy;simp[ht,m,o]
 rw[l,iO,show zO none none=true from rfl,iO,show asSlice g.u (.arr b d e a false)= .arr b d e a false by rw[i];rfl];show val f (iT (Nat.ble c a) (iT (Nat.ble a a) (Z (iZ (Nat.add e c)) λq=>Z (iZ (Nat.sub a c)) λp=>some (T.arr b d q p false))))=_;simp[n]
def Vr{d:Nat}{b:Env}{c:H}(a:List ah)(e:af ab):ka (.call ⟨.builtin .clear,a.toArray,e⟩) cx d b c=Z (iK (iG cx d b) a) λf=>ng .clear cx c e.toList f:=by show(Z (tM cx d b a) λa=>ng .clear cx c e.toList a)=_;rw[Lz]
def ade{b:H}{c a g d:Nat}{f:Bool}{e:List T}(l:Hp b)(h:b.get c=D ⟨1,a,g,f,false,e⟩)(k:d<e.length):ng .clear cx b [39] [.arr c a d 1 false]=be .undef (fF b c ⟨1,a,g+1,f,false,e.set d (J 0)⟩):=by show HU cx b 39 (.arr c a d 1 false)=_;unfold HU rM;rw[kE,fj];simp only[show pJ.u= .slice 3 from rfl,nc,fj];rw[h,fj];simp only[Lu l (H.fN h)];show iT (Nat.beq a a) (iT (Nat.beq 1 1) (Z (mJ e d [J 0]) λi=>Z (iZ g.succ) λm=>Z (some (fF b c ⟨1,a,m,f,false,i⟩)) λj=>some (ni.val T.undef j)))=_;rw[wY,ax dP,Nat.beq_refl,iO,show Nat.beq 1 1=true from rfl,iO,fj,jv,fj,fj,List.set_eq_take_append_cons_drop,ax k];simp
def aaD(a:Px)(d:List T)(c:H):Prop:=d=[a.v,fnT a]/\adu c a/\iS 0 c/\Gr c a.v 1 (iy (a.P++a.t::a.Q))/\a.t∉a.P/\a.t∉a.Q/\a.P.length+a.Q.length<=1000/\fa a.v≠some a.b
def Uw(b:Px)(f:List T)(c:H)(e:T)(d:H):Prop:=Gr d e 1 (iy (b.P++b.Q))/\fa e=fa b.v/\iS c.size d/\∀a,a<c.size->fa b.v≠some a->d.get a=c.get a
def VZ{P b:List Int}{t:Int}{a:Nat}(d:a<b.length):(iy (P++b.take a++(t::b).drop a)).set (P.length+a) (J b[a])=iy (P++b.take (a+1)++(t::b).drop (a+1)):=by rw[<-bg,List.set_append_right _ _ dP];have c:(t::b).drop a=(t::b)[a]' dP::(t::b).drop (a+1):=aL dP;rw[c,show P.length+a-(P++b.take a).length=0 by simp;omega,cJ,aT d];show iy _=iy _;congr 1;simp only[aQ,cg,cm]
def J4:(jS Px aaD Uw).Ok prog cx 128:=by
 refine jz (tb:=⟨pt [],ht [(129,jS (Px×Int) Ui NZ),(132,jS Px aaA Ut)]⟩) jk iX (js 537399539 [] func128) (λ_ _=>2000) (λi a h b6=>by obtain⟨rfl,_⟩:=b6;simp[f128]) ?_;rintro⟨P,c,t,I,A,aA⟩ _ h ⟨rfl,X,cL,C,bn,bp,hl,ap⟩ z a7
 dsimp at C bn bp hl ap
 simp[fnT]at a7;obtain⟨s,p⟩:=a7;have N:=λp:H=>C.len (cx:=cx) p pJ _ rfl;simp at N;have bA:∀b,fa I=D b->b<h.size:=λb g=>by have⟨_,_,_,_,cp,_⟩:=C.box g;exact H.fN cp
 simp[f128,s,p];refine jl LO V ⟨P,c,t,I,A,aA⟩ ⟨rfl,(iI h A).trans X,cL.hr,C.mono λb _=>iI h b,bn,hl⟩ ?_;rintro _ di ⟨rfl,cv⟩;have bN:binop .add (J (P.length:Int)) (J 1)=D (J ((P.length:Int)+1)):=jf G G;simp[show¬((P.length:Int)=-1)by omega,bN];have av:=cv.hr;refine pU c.length (λd z h'=>iS h.size h'/\Gr h' I 1 (iy (P++c.take d++(t::c).drop d))/\(∀b,b<h.size->fa I≠some b->h'.get b=h.get b)/\TI.Y z 0=D I/\TI.Y z 1=D (.func 129 [dY A])/\TI.Y z 5=D (J ((P.length+d:Nat):Int))/\TI.Y z 6=D (J ((P.length+d+1:Nat):Int))) ?_ G (k:=0) G ⟨av.ok,iD (C.mono λb g=>av.get b (bA b g)),λb g _=>av.get b g,by simp[s,p]⟩;rintro d z h' dk ⟨w,E,T,s,p,U,K⟩;have bs:iS 0 h':=⟨w.hp,w.low,aB _⟩;have⟨i,a8⟩:∃i,i=P.length+d:=⟨_,rfl⟩;have⟨j,u⟩:∃j,j=P.length+(c.length+1):=⟨_,rfl⟩;have bX:(P.length:Int)+((c.length:Int)+1)=j:=G;rw[<-a8]at U K;rw[bX]at N;have W:(iy (P++c.take d++(t::c).drop d)).length=j:=dP;have bS:binop .add (J (i:Int)) (J 1)=D (J ((i:Int)+1)):=jf G G;have bT:binop .add (J ((i:Int)+1)) (J 1)=D (J ((i:Int)+1+1)):=jf G G;by_cases an:d<c.length;have B:(P++c.take d++(t::c).drop d)[i+1]? =D c[d]:=by
  rw[cZ dP,cu];rw[show d+(i+1-(P++c.take d).length)=d+1 by simp;omega];simp[an]
 have⟨f,bC⟩:∃f,(P++c.take d++(t::c).drop d)[i]? =D f:=⟨_,aF dP⟩;have⟨e,m,y,q,o,n,l,M,L⟩:=E.at (x:= J c[d]) (i:=i+1) (by rw[br,B];rfl);have⟨c4,c7,dm,dd,ds,Z,ae,ca,bi⟩:=E.at (x:= J f) (i:=i) (by rw[br,bC];rfl);rw[n]at Z;simp at Z;obtain⟨rfl,rfl⟩:=Z;rw[l]at ae;simp at ae;obtain⟨rfl,rfl,rfl⟩:=ae;rw[W]at n L bi;have aE:=VZ (P:=P) (t:=t) an;rw[<-a8]at aE;generalize b8:c[d]=Q at*
 have b9:¬Q=t:=λk=>bp (by rw[<-k,<-b8];exact aH an);subst n;simp at ap;have c1:lr ((i:Int)+1)=D (i+1):=by have:=fO (show(0:Int)<=((i+1:Nat):Int)by omega);simpa using this
 simp[s,p,K,N,show(i:Int)+1<j by omega,c1,l,M,L];refine jl Vc V (⟨P,c,t,.arr e m 0 j false,A,aA⟩,Q) ⟨rfl,(T A (H.fN X) (iD ap)).trans X,bs⟩ ?_;rintro _ F ⟨rfl,v⟩;have al:=(v.get e (H.fN l)).trans l;have r:∀f b,(fF F e f).get b=if b=e then some f else F.get b:=λf b=>ez al f b;simp[s,p,U,K,b9,al,ca,bi,bS,bT];have O:iS h.size F:=⟨v.ok.hp,v.ok.low,aU w.sz v.ok.sz⟩;have aX:=(E.mono (h':=F) λb g=>v.get b (by simp at g;have:=H.fN l;omega)).setAt rfl al i (J Q) (h':=fF F e ⟨1,m,y+1,q,false,o.set i (J Q)⟩) (ver2:=y+1) (ex2:=q) (by rw[r,ax rfl]);rw[aE,aQ]at aX;have eb:=w.sz;exact⟨d+1,G,G,O.put _ _,aX,λb g u=>by rw[r,aw (λR=>u R.symm),v.get b G];exact T b g (iD u),G⟩;have bW:d=c.length:=G;subst bW;have⟨e,m,y,q,o,n,l,M,L⟩:=E.at (x:= J ((P++c.take c.length++(t::c).drop c.length)[i]' dP)) (i:=i) (by rw[br,aF dP];rfl);rw[W]at n L;have cb:i<o.length:=by
  rcases aW i o.length with k|k;exact k;rw[bY k]at M;simp at M
 have bH:o.take j=iy (P++c.take c.length++(t::c).drop c.length):=by
  rcases E with⟨rfl,_⟩|⟨c6,c9,dn,de,ea,B,S,aN⟩;simp at n;rw[n]at B;simp at B;obtain⟨rfl,rfl,_⟩:=B;rw[l]at S;simp at S;obtain⟨_,_,rfl⟩:=S;rw[W]at aN;exact aN
 subst n;have r:∀f b,(fF h' e f).get b=if b=e then some f else h'.get b:=λf b=>ez l f b;have bZ:j-i=1:=G;have bu:=abu h' pJ Dp _ e m 0 j i _ rfl nc l rfl G;rw[bZ,dc]at bu;have cX:=PQ (cx:=cx) (h:=fF h' e ⟨1,m,y+1,q,false,o.set i (J 0)⟩) pJ Dp _ e m 0 j i false _ rfl nc (by rw[r,ax rfl]) rfl G;simp[s,U,K,N,show¬(i:Int)+1<j by omega,bu,Vr,ade bs.hp l cb,cX];have O:=(w.put e ⟨1,m,y+1,q,false,o.set i (J 0)⟩).out h;refine⟨.inr ⟨e,m,y+1,q,o.set i (J 0),?_,by rw[iA,r,ax rfl],?_⟩,rfl,⟨O.hp,O.low,iD w.sz⟩,λb g u=>by
  rw[iA,r,aw (λR=>u (by rw[R];rfl))];exact T b g u⟩
 simp;omega;have b7:(iy (P++c)).length=i:=dP;rw[b7,List.take_set_of_le (az _)];have:=cd (List.take i) bH;rw[List.take_take,cM G]at this;rw[this,aM];show List.take i (iy (P++c++(t::c).drop c.length))=iy (P++c);rw[iy,List.map_append,dg dP,bR dP]
section
def WU{g i:Type}{f:g->i->Prop}:∀{b:List g} {a:List i},b.length=a.length->(∀(d:Nat) e c,b[d]? =D e->a[d]? =D c->f e c)->jr f b a:=by
 intro b;induction b with
 |nil=>intro a hl _;rcases a with _|⟨c,a⟩;exact .nil;simp at hl
 |cons e b l=>intro a hl h;rcases a with _|⟨c,a⟩;simp at hl;exact .cons (h 0 e c rfl rfl) (l (iD hl) λd m n j k=>h (d+1) m n (iD j) (iD k))
def KV{b c:Type}{d:b->c->Prop}{f:List b}{g:List c}(k:jr d f g){e:Nat}{i:b}{j:c}(l:f[e]? =D i)(m:g[e]? =D j):d i j:=by have⟨o,a,n⟩:=k.get m;rw[l]at a;simp[ay]at a;rw[a];exact n
structure H7(w:fJ)(t:Int)(c0 c2 c3:T)(h:H)(es:List T)(S:iq)(ver:Nat):Prop where
 sy:Fg 4 h.size h c0 c2 c3 es S
 ok:iS 0 h
 g0:h.get 0=D (dU 6 0 [w.t])
 g1:h.get 1=D (dU 4 ver [.eQ [c0,J S.tx,c2,c3]])
 g2:h.get 2=D (dU 1 0 [J t])
 g3:h.get 3=D (dU 4 0 [.eQ [dT,J 0,dT,dT]])
section
variable {w:fJ}{t:Int}{c0 c2 c3:T}{h h':H}{es:List T}{S:iq}{ver:Nat}
theorem H7.put(a:H7 w t c0 c2 c3 h es S ver){b:Nat}{x:jI}(d:h.get b=D x)(j:4<=b){g:jI}{f:List T}{e:iq}(i:Fg 4 h.size (fF h b g) c0 c2 c3 f e)(ht:e.tx=S.tx):H7 w t c0 c2 c3 (fF h b g) f e ver:=
 ⟨by rw[iB];exact i,a.ok.put _ _,by rw[ez d,aw G];exact a.g0,by rw[ez d,aw G,ht];exact a.g1,by rw[ez d,aw G];exact a.g2,by rw[ez d,aw G];exact a.g3⟩
def H7.rU(c:H7 w t c0 c2 c3 h es S ver){a e k:Nat}{f:Bool}{l:List T}(g:fa c3=D a)(j:h.get a=D ⟨3,e,k,f,false,l⟩){i:Nat}{me:ew}(m:S.d8[i]? =D me)(d:ew->ew):
 H7 w t c0 c2 c3 (fF h a ⟨3,e,k+1,f,false,l.set i (d me).t⟩) es {S with d8:=S.d8.modify i d} ver:=by
 have:=c.put j (c.sy.b a (.inr (.inr g))).1 (c.sy.rU g j i (d me)) rfl;rw[qD m];exact this
def H7.uj(g:H7 w t c0 c2 c3 h es S ver){d i m:Nat}{j:Bool}{n:List T}(k:fa c0=D d)(l:h.get d=D ⟨2,i,m,j,false,n⟩){c:Nat}{f:fk}(hl:S.fQ[c]? =D f)(e:fk->fk){rv:T}(hr:qk h 1 rv (iy (e f).fZ))(o:∀a,fa rv=D a->4<=a/\a<h.size/\fa c0≠some a/\fa c2≠some a/\fa c3≠some a):
 H7 w t c0 c2 c3 (fF h d ⟨2,i,m+1,j,false,n.set c (.eQ [J (e f).jY,rv])⟩) (es.set c (.eQ [J (e f).jY,rv])) {S with fQ:=S.fQ.modify c e} ver:=by
 have:=g.put l (g.sy.b d (.inl k)).1 (g.sy.uj k l c hr o) rfl;rw[qD hl];exact this
def H7.don(c:H7 w t c0 c2 c3 h es S ver){a f k:Nat}{g:Bool}{l:List T}(i:fa c2=D a)(j:h.get a=D ⟨1,f,k,g,false,l⟩)(d:Nat)(e:Bool):H7 w t c0 c2 c3 (fF h a ⟨1,f,k+1,g,false,l.set d (.ej e)⟩) es {S with done:=S.done.set d e} ver:=
 c.put j (c.sy.b a (.inr (.inl i))).1 (c.sy.don i j d e) rfl
def H7.tx(a:H7 w t c0 c2 c3 h es S ver)(b:Int):H7 w t c0 c2 c3 (fF h 1 (dU 4 (ver+1) [.eQ [c0,J b,c2,c3]])) es {S with tx:=b} (ver+1):=
 ⟨by rw[iB];exact(a.sy.tx b).mono (az _) λc d _=>by rw[ez a.g1,aw G],a.ok.put _ _,by rw[ez a.g1,aw G];exact a.g0,by rw[ez a.g1,ax rfl],by rw[ez a.g1,aw G];exact a.g2,by rw[ez a.g1,aw G];exact a.g3⟩
def H7.afu(c:H7 w t c0 c2 c3 h es S ver){l:List ew}(j:adA h h' c3 l):H7 w t c0 c2 c3 h' es {S with d8:=l} ver:=by have k:∀a,a<4->fa c3≠some a:=λa d f=>iH (c.sy.b a (.inr (.inr f))).1;have r:=j.ok.sz;have e:∀a,fa c3≠some a->a<h.size->h'.get a=h.get a:=λa f d=>j.fr a d f;refine⟨⟨c.sy.g0.mono λa d=>e a (λf=>?_) (c.sy.b a (.inl d)).2,c.sy.g2.mono λa d=>e a (λf=>?_) (c.sy.b a (.inr (.inl d))).2,j.g,c.sy.el.imp λp q ⟨o,m,n,i⟩=>⟨o,m,n.mono λa d=>e a (i a d).2.2.2.2 (i a d).2.1,λa d=>⟨(i a d).1,iH (i a d).2.1,(i a d).2.2⟩⟩,λa d=>⟨(c.sy.b a d).1,iH (c.sy.b a d).2⟩⟩,⟨j.ok.hp,j.ok.low,aB _⟩,(e 0 (k 0 G) (H.fN c.g0)).trans c.g0,(e 1 (k 1 G) (H.fN c.g1)).trans c.g1,(e 2 (k 2 G) (H.fN c.g2)).trans c.g2,(e 3 (k 3 G) (H.fN c.g3)).trans c.g3⟩;exact c.sy.g0.ne c.sy.g3 dR a d f;exact c.sy.g2.ne c.sy.g3 dR a d f
def H7.agB(d:H7 w t c0 c2 c3 h es S ver)(an:LkD es){f I Q:Nat}{K:Bool}{R:List T}(q:fa c0=D f)(M:h.get f=D ⟨2,I,Q,K,false,R⟩){l:Nat}{A:fk}(hl:S.fQ[l]? =D A){o m:T}(ae:es[l]? =D (.eQ [o,m]))(i:∀a,fa m=D a->4<=a/\fa c0≠some a/\fa c2≠some a/\fa c3≠some a)
 {hT:H} (Yb:iS h.size hT) (C:∀a,a<h.size->fa m≠some a->hT.get a=h.get a) {u:T} (v:fk->fk) (L:Gr hT u 1 (iy (v A).fZ)) (s:∀a,fa u=D a->fa m=D a\/h.size<=a):
 H7 w t c0 c2 c3 (fF hT f ⟨2,I,Q+1,K,false,R.set l (.eQ [J (v A).jY,u])⟩) (es.set l (.eQ [J (v A).jY,u])) {S with fQ:=S.fQ.modify l v} ver:=by
 have z:=Yb.sz;have Z:=H.fN M;have ap:=(d.sy.b f (.inl q)).1;have O:fa m≠some f:=λc=>(i f c).2.1 q;have N:hT.get f=_:=(C f Z O).trans M;have E:∀n a,(fF hT f n).get a=if a=f then some n else hT.get a:=λn a=>ez N n a;have B:∀a,a<4->fa m≠some a:=λa q c=>iH (i a c).1;have p:∀n a,a<h.size->a≠f->fa m≠some a->(fF hT f n).get a=h.get a:=λn a W X Y=>by rw[E,aw X];exact C a W Y
 refine⟨⟨?_,d.sy.g2.mono λa c=>p _ a (d.sy.b a (.inr (.inl c))).2 (λe=>?_) (λe=>(i a e).2.2.1 c),d.sy.g3.mono λa c=>p _ a (d.sy.b a (.inr (.inr c))).2 (λe=>?_) (λe=>(i a e).2.2.2 c),WU ?_ λk x n g j=>?_,λa c=>⟨(d.sy.b a c).1,qN (d.sy.b a c).2⟩⟩,(⟨Yb.hp,Yb.low,aB _⟩:iS 0 hT).put _ _,?_,?_,?_,?_⟩;exact(d.sy.g0.mono (h':=hT) λa c=>C a (d.sy.b a (.inl c)).2 (λe=>(i a e).2.1 c)).setAt q N l _ (by rw[E,ax rfl]);subst e;exact d.sy.g2.ne d.sy.g0 dR a c q;subst e;exact d.sy.g3.ne d.sy.g0 dR a c q;rw[dq,List.length_modify];exact d.sy.el.length;rw[cG]at g;rw[List.getElem?_modify]at j;by_cases y:l=k;subst y;rw[hl]at j;simp at j;rw[ax rfl]at g;split at g;cases g;subst j;refine⟨u,rfl,.inr (L.mono λa c=>?_),λa c=>?_⟩;rw[E,aw];rintro rfl;rcases s a c with k|k
 exact O k;omega;have⟨_,_,_,_,j,_⟩:=L.box c;have al:=H.fN j;refine⟨?_,iD al,?_,?_,?_⟩;rcases s a c with k|k;exact(i a k).1;omega;rcases s a c with k|k;exact(i a k).2.1;exact λe=>iH (d.sy.b a (.inl e)).2;rcases s a c with k|k;exact(i a k).2.2.1;exact λe=>iH (d.sy.b a (.inr (.inl e))).2;rcases s a c with k|k;exact(i a k).2.2.2;exact λe=>iH (d.sy.b a (.inr (.inr e))).2;simp at g;rw[aw y]at g;simp[y]at j;have⟨P,F,U,r⟩:=KV d.sy.el g j;refine⟨P,F,U.mono λa c=>p _ a (r a c).2.1 (λe=>(r a c).2.2.1 (e▸q)) (λe=>y ?_),λa c=>⟨(r a c).1,qN (r a c).2.1,(r a c).2.2⟩⟩;rw[F]at g;exact an l k m P _ _ a ae g e c;exact(p _ 0 (H.fN d.g0) G (B 0 G)).trans d.g0;exact(p _ 1 (H.fN d.g1) G (B 1 G)).trans d.g1;exact(p _ 2 (H.fN d.g2) G (B 2 G)).trans d.g2;exact(p _ 3 (H.fN d.g3) G (B 3 G)).trans d.g3
end
end
structure ApO(w:fJ)(s:iq)(t k o wk:Int)(c0 c2 c3:T)(h:H)(n:Int):Prop where
 ex:∃S es ver,gY w s t k o wk=(S,n)/\H7 w t c0 c2 c3 h es S ver
structure ApF(w:fJ)(s:iq)(t k o:Int):Prop where
 en:jM w s t k o
 cl:w.je.length<=1000000
 sm:RA s
 r:∀l∈s.fQ,l.fZ.length<=10
def wq:iE:=⟨fJ×iq×Int×Int×Int×Int,λa=>[a.1.t,a.2.1.t,J a.2.2.1,J a.2.2.2.1,J a.2.2.2.2.1,J a.2.2.2.2.2],λa=>ApF a.1 a.2.1 a.2.2.1 a.2.2.2.1 a.2.2.2.2.1,λa=> .tuple [(gY a.1 a.2.1 a.2.2.1 a.2.2.2.1 a.2.2.2.2.1 a.2.2.2.2.2).1.t,J (gY a.1 a.2.1 a.2.2.1 a.2.2.2.1 a.2.2.2.2.1 a.2.2.2.2.2).2,.ej true],λa c b=>by
 obtain⟨a1,a2,a3,a4,a5,a6⟩:=a;obtain⟨d,e,f,g,h,i⟩:=c;simp at b;rw[fJ.inj b.1,iq.inj b.2.1,b.2.2.1,b.2.2.2.1,b.2.2.2.2.1,b.2.2.2.2.2]⟩
def L3:wq.Ok prog cx 65:=by
 refine yW (tb:=⟨pt [(124,pL)],ht [(125,jS iq IK aaG),(126,jS Xi aat JT),(127,jS ICo aaE Ux),(128,jS Px aaD Uw),(130,jS Nl aax Uq),(131,jS Nl aay Ur)]⟩) jk iX (js 772424076352653274097095092108232752774234854811365887 [(19,[(1,4)]),(21,[(1,10)]),(32,[(4,9),(5,9)]),(35,[(4,8),(5,8)])] func65) (λ_=>1000005) (by simp[wq]) nl9 ?_;rintro⟨w,s,t,k,o,r⟩ ⟨M,eN,⟨hl,eP,ht,hr,eb⟩,dn⟩ cb eK
 dsimp at M eN hl eP ht hr eb dn
 simp[wq]at eK|-;obtain⟨fY,cX,ds,E⟩:=eK;unfold jM at M;simp[aC]at M;obtain⟨⟨⟨ee,ef⟩,bN⟩,M⟩:=M;have⟨bS,bT,e4⟩:=oN ee;have fB:=λ{tb:ik} (ht:tb.p 124=D pL)=>S8 ht (w:=w) (s:=s) (t:=t) (k:=k) (o:=o) ⟨ee,ef,bN,M,eN,hr⟩
 .simp[f65,fY,cX,ds,E,fB];generalize ap:(((hE.cons _).cons _).cons _).cons _=bA;have gE:iS 0 bA:=ap▸⟨V,V,V⟩;have gP:bA.size=4:=by rw[<-ap];rfl
  have fb:bA.get 0=D (dU 6 0 [w.t]):=by rw[<-ap];simp
  have fe:bA.get 1=D (dU 4 0 [s.t]):=by rw[<-ap];simp
  have ff:bA.get 2=D (dU 1 0 [J t]):=by rw[<-ap];simp
  have L:bA.get 3=D (dU 4 0 [.eQ [dT,J 0,dT,dT]]):=by rw[<-ap];simp
  clear ap;refine jl Vl V s ⟨rfl,gE,hl,eP,ht,hr⟩ ?_;rintro _ an ⟨bn,bp,bs,eF,rfl,e8,aN,eA,eW⟩;rw[gP]at e8 eA;have hq:=aN.ok.sz;have gB:iS 0 an:=⟨aN.ok.hp,aN.ok.low,aB _⟩;have eD:=(aN.get 1 G).trans fe;have fl:=(aN.get 0 G).trans fb;have fo:=(aN.get 2 G).trans ff;have fs:=(aN.get 3 G).trans L;have bu:∀v d,(fF an 1 v).get d=if d=1 then some v else an.get d:=λv d=>ez eD v d;have c:H7 w t bn bp bs (fF an 1 (dU 4 1 [.eQ [bn,J s.tx,bp,bs]])) eF s 1:=⟨by rw[iB];exact e8.mono (az _) λd q _=>by rw[bu,aw G],gB.put _ _,by rw[bu,aw G];exact fl,by rw[bu,ax rfl],by rw[bu,aw G];exact fo,by rw[bu,aw G];exact fs⟩;have eB:jr (LkG (fF an 1 (dU 4 1 [.eQ [bn,J s.tx,bp,bs]])) λd=>4<=d/\d<an.size/\fa bn≠some d/\fa bp≠some d/\fa bs≠some d) eF s.fQ:=eA.imp λO m ⟨rv,Z,fv,eE⟩=>⟨rv,Z,fv.mono λd q=>by rw[bu,aw (iH (eE d q).1)],eE⟩;simp[Rt,eD,E];generalize fF an 1 _=R at*
  have eR:=ef;rw[<-e4]at eR;have⟨me,K,gZ⟩:=jm eR;have bX:=fO (fT.1 ef).1;refine lJ (λcb b8=>∃n,ApO w s t k o r bn bp bs b8 n/\TI.Y cb 7=D (dY 1)/\TI.Y cb 12=D (dY 3)/\TI.Y cb 15=D (J n)) (λaA=>?_) (λaA=>?_) ?_;have aA:k=1:=iD aA;subst aA;have⟨y,ae,a7,al,bi,A,e,l,j⟩:=c.sy.g3.at (x:=me.t) (i:=t.toNat) (by simp[K]);rw[aK]at A j;subst A;simp[c.g1,c.g2,bX,e,l,j];exact⟨_,_,_,show gY w s t 1 o r=(s.rU t (mn 2),0)by simp[gY],c.rU rfl e K (mn 2)⟩
  .have aA:¬k=1:=iD aA;rcases xu bN with g|rfl|rfl|rfl|rfl|rfl|rfl|rfl|rfl|g|g|g|g
   exact absurd g aA;have⟨y,ae,a7,al,bi,A,e,l,j⟩:=c.sy.g3.at (x:=me.t) (i:=t.toNat) (by simp[K]);rw[aK]at A j;subst A;simp[c.g1,c.g2,bX,e,l,j];exact⟨_,_,_,show gY w s t 2 o r=(s.rU t (mn 5),0)by simp[gY],c.rU rfl e K (mn 5)⟩;simp;exact⟨_,_,_,show gY w s t 3 o r=(s,0)by simp[gY],c⟩;simp;exact⟨_,_,_,show gY w s t 4 o r=(s,0)by simp[gY],c⟩;simp;exact⟨_,_,_,show gY w s t 5 o r=(s,0)by simp[gY],c⟩;simp[c.g1,c.g2,fD];exact⟨_,_,_,show gY w s t 12 o r=({s with tx:=t},0)by simp[gY],c.tx t⟩;simp[c.g1,fD];exact⟨_,_,_,show gY w s t 13 o r=({s with tx:=-1},0)by simp[gY],c.tx (-1)⟩;have⟨y,ae,a7,al,bi,A,e,l,j⟩:=c.sy.g3.at (x:=me.t) (i:=t.toNat) (by simp[K]);rw[aK]at A j;subst A;simp[c.g1,c.g2,bX,e,l,j];exact⟨_,_,_,show gY w s t 14 o r=(s.rU t (λx=>{x with atomic:=true}),0)by simp[gY],c.rU rfl e K (λx=>{x with atomic:=true})⟩;have⟨y,ae,a7,al,bi,A,e,l,j⟩:=c.sy.g3.at (x:=me.t) (i:=t.toNat) (by simp[K]);rw[aK]at A j;subst A;simp[c.g1,c.g2,bX,e,l,j];exact⟨_,_,_,show gY w s t 15 o r=(s.rU t (λx=>{x with atomic:=false}),0)by simp[gY],c.rU rfl e K (λx=>{x with atomic:=false})⟩;have I:=mM bN g;rw[<-bS]at I;have⟨B,C,ea⟩:=jm I;have F:=fO (fT.1 I).1;obtain⟨O,av,rv,rfl,bW,aX⟩:=c.sy.el.get C;obtain⟨y,ae,a7,al,bi,rfl,e,l,j⟩:=c.sy.g0.at av;have b9:=H.fN e;have gS:=(c.sy.b y (.inl rfl)).1;have er:(1=R.size)=False:=qN (H.fN c.g1);have hf:(y=R.size)=False:=dP;have ha:=hr B (aD C);have hb:∀d,fa rv=D d->d<R.size:=λd q=>(aX d q).2.1;rcases g with rfl|rfl|rfl|rfl|rfl|rfl
   simp[E,c.g1,c.g2,F,e,l,j];exact⟨_,_,_,show gY w s t 6 o r=(s.uj o (λh=>{h with jY:=t}),0)by simp[gY],c.uj rfl e C (λh=>{h with jY:=t}) bW aX⟩;simp[E,c.g1,F,e,l,j];exact⟨_,_,_,show gY w s t 7 o r=(s.uj o (λh=>{h with jY:=-1}),0)by simp[gY],c.uj rfl e C (λh=>{h with jY:=-1}) bW aX⟩;have b6:=eb B (aD C);have c1:=dn B (aD C);have gk:t∉B.fZ:=by
    simp[B0,ea,oX]at M;exact M.2.2
   have⟨gF,Z,gL,N⟩:=KV eB av C;simp at Z;subst Z;have cv:Gr R rv 1 (iy B.fZ):=gL;have⟨ey,b7,fA,a8⟩:=cv.mR (cx:=cx) (f:=T.int .i64) c.ok kE rfl nc rfl V (λx=>rfl) t dP;have gX:=c.ok.low;have hd:(2=R.size)=False:=qN (H.fN c.g2);simp[E,c.g1,c.g2,F,e,l,j,fA];refine jl abT V ⟨B.fZ,t,ey⟩ ⟨rfl,a8.1,⟨a8.2.2.2.hp,a8.2.2.2.low,aB _⟩,b6,gk,c1⟩ ?_;rintro _ eI aE;have gM:=a8.2.2.2.sz;have hs:=aE.ok.sz;have dm:∀d,d<R.size->fa rv≠some d->eI.get d=R.get d:=λd bS bT=>(aE.fr d G (λq=>(a8.2.2.1 d q).elim bT G)).trans (a8.2.1 d bS bT);have gv:∀d,d<4->fa rv≠some d:=λd q k=>iH (N d k).1;have dd:=(dm 1 (H.fN c.g1) (gv 1 G)).trans c.g1;have e5:=(dm y b9 (λk=>(N y k).2.2.1 rfl)).trans e;have gD:iS 0 eI:=⟨aE.ok.hp,aE.ok.low,aB _⟩;have gV:=Mr B.fZ t;simp[E,dd];refine ma Sk V ⟨nW B.fZ t,ey⟩ ⟨rfl,aE.g,gD,Hf b6 t,dQ⟩ ?_;rintro W hT ⟨O,U⟩
   dsimp at O
   rw[O];have eu:=il (U.get 1 (H.fN dd));have t1:=(U.get 1 (H.fN dd)).trans dd;have tb:=(U.get y (H.fN e5)).trans e5;have gT:Gr hT ey 1 (iy (nW B.fZ t)):=aE.g.mono λd q=>by
    have⟨_,_,_,_,gn,_⟩:=aE.g.box q;exact U.get d (H.fN gn)
   have hv:=U.ok.sz;simp[F,tb,l,j,eu,fD,gT.iW,gT.cells];exact⟨_,_,_,show gY w s t 8 o r=(s.uj o (λh=>{h with fZ:=nW h.fZ t}),0)by simp[gY],c.agB eW rfl e C av (λd q=>⟨(N d q).1,(N d q).2.2⟩) (hT:=hT) ⟨U.ok.hp,U.ok.low,G⟩ (λd bS bT=>(U.get d G).trans (dm d bS bT)) (λh=>{h with fZ:=nW h.fZ t}) gT a8.2.2.1⟩;have⟨gF,Z,gL,N⟩:=KV eB av C;simp at Z;subst Z;have cv:Gr R rv 1 (iy B.fZ):=gL;have b6:=eb B (aD C);have c1:=dn B (aD C);have gj:t∈B.fZ:=by
    simp[B0,ea,oX]at M;exact M.2
   have⟨P,Q,c4⟩:=List.append_of_mem gj;have c6:t∉P/\t∉Q:=by
    rw[c4]at b6;have cX:=List.pairwise_append.1 b6;have ds:=List.pairwise_cons.1 cX.2.1;exact⟨λk=>iH (cX.2.2 t k t V),λk=>iH (ds.1 t k)⟩
   simp[E,c.g1,F,e,l,j];have gy:fa rv≠some 2:=λk=>iH (N 2 k).1;refine ma J4 V ⟨P,Q,t,rv,2,⟨0,0,0,false,false,[]⟩⟩ ⟨rfl,c.g2,c.ok,by rw[c4]at cv;exact cv,c6.1,c6.2,by rw[c4]at c1;simp at c1|-;omega,gy⟩ ?_;rintro W b7 ⟨cL,eM,e0,cp⟩
   dsimp at cL eM cp
   have eH:=cp 1 (H.fN c.g1) (λk=>iH (N 1 k).1);have fW:=cp y b9 (λk=>(N y k).2.2.1 rfl);have eu:=il eH;have gQ:=eH.trans c.g1;have fi:=fW.trans e;have gi:B.fZ.filter (λW=> !decide (W=t))=P++Q:=by
    rw[c4,List.filter_append,List.filter_cons];simp;rw[List.filter_eq_self.2 λx l=>?_,List.filter_eq_self.2 λx l=>?_];simp;exact λO=>c6.2 (O▸l);simp;exact λO=>c6.1 (O▸l)
   have gM:=e0.sz;simp[F,fi,l,j,eu,fD,cL.iW,cL.cells];exact⟨_,_,_,show gY w s t 9 o r=(s.uj o (λh=>{h with fZ:=h.fZ.filter λW=> !decide (W=t)}),0)by simp[gY],c.agB eW rfl e C av (λd q=>⟨(N d q).1,(N d q).2.2⟩) (hT:=b7) e0 cp (λh=>{h with fZ:=h.fZ.filter λW=> !decide (W=t)}) (by show Gr b7 W 1 (iy (B.fZ.filter _));rw[gi];exact cL) (λd q=> .inl (eM▸q))⟩;simp[E,c.g1,c.g2,F,e,l,j];exact⟨_,_,_,show gY w s t 10 o r=(s.uj o (λh=>{h with jY:=t}),0)by simp[gY],c.uj rfl e C (λh=>{h with jY:=t}) bW aX⟩;simp[E,c.g1,F,e,l,j];exact⟨_,_,_,show gY w s t 11 o r=(s.uj o (λh=>{h with jY:=-1}),0)by simp[gY],c.uj rfl e C (λh=>{h with jY:=-1}) bW aX⟩;have I:=qC bN g;have⟨d,ec,eO⟩:=jm I;have eo:=vH ee ec;rw[<-bS]at eo;have⟨B,C,ea⟩:=jm eo;have F:=fO (fT.1 I).1;have e9:=fO (fT.1 eo).1;obtain⟨O,av,rv,rfl,bW,aX⟩:=c.sy.el.get C;obtain⟨y,ae,a7,al,bi,rfl,e,l,j⟩:=c.sy.g0.at av;have⟨L,fC,gI,fL,de,A,bC,c9,eh⟩:=c.sy.g3.at (x:=me.t) (i:=t.toNat) (by simp[K]);rw[aK]at A eh;subst A;have b9:=H.fN e;have eL:=H.fN bC;have er:(1=y)=False:=qN (c.sy.b y (.inl rfl)).1;have gw:(1=L)=False:=qN (c.sy.b L (.inr (.inr rfl))).1;have eX:(2=y)=False:=qN (c.sy.b y (.inl rfl)).1;have gz:(2=L)=False:=qN (c.sy.b L (.inr (.inr rfl))).1;have et:(L=y)=False:=by simp;rintro rfl;rw[e]at bC;simp at bC
   have eV:∀x,(de.set t.toNat x)[t.toNat]? =D x:=λx=>by
    have:t.toNat<de.length:=by
     rcases aW t.toNat de.length with k|k;exact k;rw[bY k]at c9;simp at c9
    rw[cG];simp[this]
   have bH:∀v,(fF R y v).get L=D ⟨3,fC,gI,fL,false,de⟩:=λv=>by rw[ez e,aw (iD et)];exact bC
   have e6:=λv z=>pj (bH v) (show 1≠L from iD gw) z;have e7:=λv z=>pj (bH v) (show 2≠L from iD gz) z;have eC:=λ(f:fk->fk) (q:(f B).fZ=B.fZ)=>c.uj rfl e C f (rv:=rv) (q▸bW) aX;rcases g with rfl|rfl|rfl|rfl
   have dk:=(eC (λh=>{h with jY:=-1}) rfl).rU rfl (bH _) K (λx=>{x with jq:=3});have bZ:=dk.rU (me:=(λx=>{x with jq:=3}) me) rfl ((ez (bH _) _ _).trans (ax rfl)) (i:=t.toNat) (by simp[K]) (λx=>{x with cond:=o});simp[Fs,List.set_set]at bZ;simp[E,c.g0,c.g1,c.g2,F,e9,bX,ec,e,bC,l,c9,j,eh,nT,c.ok.hp,b9,eL,er,et,eX,eV,e6,e7];exact⟨_,_,_,show gY w s t 16 o r=((s.uj d.mN λh=>{h with jY:=-1}).rU t (λx=>{x with jq:=3,cond:=o}),0)by simp[gY,eO],bZ⟩;have dk:=(eC (λh=>{h with jY:=t}) rfl).rU rfl (bH _) K (λx=>{x with jq:=2});have bZ:=dk.rU (me:=(λx=>{x with jq:=2}) me) rfl ((ez (bH _) _ _).trans (ax rfl)) (i:=t.toNat) (by simp[K]) (λx=>{x with cond:=0});simp[Fs,List.set_set]at bZ;simp[E,c.g0,c.g1,c.g2,F,e9,bX,ec,e,bC,l,c9,j,eh,nT,c.ok.hp,b9,eL,er,et,eX,eV,e6,e7];exact⟨_,_,_,show gY w s t 17 o r=((s.uj d.mN λh=>{h with jY:=t}).rU t (λx=>{x with jq:=2,cond:=0}),0)by simp[gY,eO],bZ⟩;simp[E,c.g1];refine jl UU V ⟨s,_,_,_,o,r⟩ ⟨rfl,c.sy.g3,c.ok,ht⟩ ?_;rintro _ b7 ⟨n,rfl,eS,ca⟩
   dsimp at eS ca
   simp;exact⟨_,_,_,show gY w s t 18 o r=({s with d8:=if jh o s.d8 0=[]then s.d8 else s.d8.modify n.toNat (mn 4)},n)by
    have eU:B3 o r s.d8=n:=by rw[eS];rfl
    unfold gY;simp;by_cases q:jh o s.d8 0=[];rw[ax q,ax q,<-eU];unfold B3;rw[q];rfl;rw[aw q,aw q,eU];rfl,c.afu ca⟩
   simp[E,c.g1];refine jl LH V ⟨s,_,_,_,o,0⟩ ⟨rfl,c.sy.g3,c.ok,ht⟩ ?_;rintro _ b7 ⟨rfl,ca⟩
   dsimp at ca
   simp;exact⟨_,_,_,show gY w s t 19 o r=({s with d8:=s.d8.map (GS o)},((jh o s.d8 0).length:Int))by
    unfold gY;simp;intro a _;rfl,c.afu ca⟩
   have I:=AG bN g;rw[<-e4]at I;have⟨u,c7,gm⟩:=jm I;have F:=fO (fT.1 I).1;rcases g with rfl|rfl
   have⟨y,ae,a7,al,bi,A,e,l,j⟩:=c.sy.g3.at (x:=u.t) (i:=o.toNat) (by simp[c7]);rw[aK]at A j;subst A;simp[E,c.g1,F,e,l,j];exact⟨_,_,_,show gY w s t 20 o r=(s.rU o (mn 1),0)by simp[gY],c.rU rfl e c7 (mn 1)⟩;simp;exact⟨_,_,_,show gY w s t 21 o r=(s,0)by simp[gY],c⟩
   .have I:=uQ bN g;rw[<-bT]at I;have⟨u,c7,gm⟩:=jm I;have F:=fO (fT.1 I).1;rcases g with rfl|rfl
    .have⟨y,ae,a7,al,bi,A,e,l,j⟩:=c.sy.g2.at (x:= .ej u) (i:=o.toNat) (by simp[c7]);rw[aK]at A j;subst A;simp[E,c.g1,F,e,l,j];exact⟨_,_,_,show gY w s t 22 o r=({s with done:=s.done.set o.toNat true},0)by simp[gY],c.don rfl e o.toNat true⟩
    simp;exact⟨_,_,_,show gY w s t 23 o r=(s,0)by simp[gY],c⟩
  rintro cb b8 ⟨n,⟨S,fE,hg,gg,X⟩,gd⟩;have⟨hh,hj,ho⟩:=X.sy.fz;have fX:∀v,(fF b8 3 v).get 3=D v:=λv=>(ez X.g3 v _).trans (ax rfl);have di:∀v,Fg 4 b8.size (fF b8 3 v) bn bp bs fE S:=λv=>X.sy.mono (az _) λd q _=>by rw[ez X.g3,aw G]
  have fM:=λv=>(di v).fz.1;have fP:=λv=>(di v).fz.2.1;have fS:=λv=>(di v).fz.2.2;simp[gd,X.g1,X.g3,fX,fD,fM,fP,fS,gg,X.ok.hp]
def kj.apf{w:eJ}(e:kj w){c:Nat}{b:fR}(h:w.ei[c]? =D b){d:gh}(f:d=rV w.gG w.kH (w.ei.take c)):ApF w.gG d.gH b.eG b.fc b.obj/\(rV w.gG w.kH (w.ei.take (c+1))).gH=(gY w.gG d.gH b.eG b.fc b.obj (mZ b)).1:=by
 have p:c<w.ei.length:=(List.getElem?_eq_some_iff.1 h).1;have i:=e.ok.ok h;rw[<-f]at i;have⟨q,r,o⟩:=qO i;have g:uM (1000+(w.ei.take c).length) d:=f▸e.sm.rV (w:=w.gG) _;have hl:=e.ok.len;have hr:=DA e.ok.run c;have m:FN 4 d.gH:=f▸Q9 e.ok.rU _ _ hr e.rdt;have⟨l1,l2,l3,l4,l5,l6⟩:=g.l;have⟨s,t,u,v,x,y⟩:=kW e.wb;refine⟨⟨o,G,⟨G,G,G,λj k=>?_,g.a⟩,λj k=>?_⟩,?_⟩;have:=m.len g.a j k;omega;have:=m.len g.a j k;omega;have n:w.ei.take (c+1)=w.ei.take c++[b]:=by rw[List.take_add_one,h];rfl
 rw[n];have:rV w.gG w.kH (w.ei.take c++[b])=(kP w.gG d b).1:=by
  rw[f];unfold rV;rw[Nf];rfl
 rw[this,wX d b i];rfl
def u9:iE:=⟨eJ,λa=>[a.t],λa=>kj a,λa=> .tuple [iC.t ⟨a,a.gx.st⟩,.ej true],λc d b=>by simp at b;rw[eJ.inj b]⟩
def Zy(a:eJ)(b:T):List T:=[sl (a.gG.cells.map ji.t),sl (a.gG.fQ.map jB.t),sl (a.gG.je.map j7.t),sl (a.gG.fI.map T.str),sl (a.gG.d8.map T.str),sl (a.gG.jL.map jE.t),J a.start,sl (a.kH.gH.fQ.map fk.t),J a.kH.gH.tx,sl (a.kH.gH.done.map T.ej),sl (a.kH.gH.d8.map ew.t),sl (a.kH.cells.map (T.int .i64)),sl (a.kH.fI.map (T.int .i64)),sl (a.kH.count.map (T.int .i64)),sl (a.ei.map fR.t),b]
def anZ:List T:=[dT,dT,dT,dT,dT,dT,J 0,dT,J 0,dT,dT,dT,dT,dT,dT,dT]
structure AnJ(w:eJ)(h:H)(k:Nat)(v:T)(ver ver5:Nat):Prop where
 ok:iS 4 h
 b0:h.get 0=D (dU 15 0 [w.t])
 b1:h.get 1=D (dU 16 0 [.eQ anZ])
 b2:h.get 2=D (dU 16 ver [.eQ (Zy w v)])
 b3:h.get 3=D (dU 4 ver5 [(rV w.gG w.kH (w.ei.take k)).gH.t])
 g:Gr h v 4 ((w.gx.st.take k).map iq.t)
 l:∀b,fa v=D b->4<=b
def I1:u9.Ok prog cx 57:=by
 refine iz [(65,wq)] (js 9223389645163727807 [] func57) (λ_=>100) (by simp[u9]) ?_;rintro(c:eJ) u m S;replace u:kj c:=u;simp[u9]at S|-;have bN:=u.ok.len;have bS:=u.ok.rU;simp[f57,S,show¬(16:Int)<c.ei.length by omega,show¬(4:Int)<c.gG.d8.length by omega];refine gW c.ei.length G (λk m h=>∃v o w,AnJ c h k v o w/\TI.Y m 1=D (dY 0)/\TI.Y m 2=D (dY 1)/\TI.Y m 4=D (dY 2)/\TI.Y m 5=D (dY 3)/\TI.Y m 30=D (sl (c.ei.map fR.t))/\TI.Y m 31=D (J c.ei.length)/\TI.Y m 32=D (J k)) ?_ ?_ G ?_;rintro k m h U bu ⟨v,o,w,⟨l,N,y,A,O,s,C⟩,Q,R,bs⟩;have⟨ae,L⟩:=u.apf (aF U) rfl;have aA:=u.ok.st U;have aE:(c.gx.st.take (k+1))=c.gx.st.take k++[(rV c.gG c.kH (c.ei.take k)).gH]:=by rw[List.take_add_one,aA];rfl
 generalize(rV c.gG c.kH (c.ei.take k)).gH=q at*
 have bX:=l.ne (b:=0) G;have b6:=l.ne (b:=1) G;have b7:=l.ne (b:=2) G;have b9:=l.ne (b:=3) G;have aX:iS 0 h:=⟨l.hp,l.low,aB _⟩;generalize bA:c.ei[k]=d at*
 have an:Gr (h.cons (dU 7 1 [d.t])) v 4 ((c.gx.st.take k).map iq.t):=s.mono λb K=>by
  have⟨_,_,_,_,z,_⟩:=s.box K;rw[fg,aw (iH (H.fN z))]
 have bH:(c.gx.st.take k).length<=16:=dP;have⟨r,g,al,i⟩:=an.mR (cx:=cx) (f:=iq.t) (aX.cons _) Y9 rfl ac4 rfl V (λ_=>rfl) q dP;rw[show(h.cons (dU 7 1 [d.t])).size=h.size+1 from rfl]at al;have P:∀{Z:ik},Z.p 65=D wq->rl prog cx Z 65 [c.gG.t,q.t,J d.eG,J d.fc,J d.obj,J (mZ d)]=D (.tuple [(gY c.gG q d.eG d.fc d.obj (mZ d)).1.t,J (gY c.gG q d.eG d.fc d.obj (mZ d)).2,.ej true]):=λht=>iF ht L3 (c.gG,q,d.eG,d.fc,d.obj,mZ d) ae;have bi:=l.sz;have a8:=i.2.2.2.sz;simp at a8;have bT:=l.low;have aN:∀a,a<4->fa v≠some a:=λa T j=>iH (C a j);have B:∀a,a<4->g.get a=h.get a:=λa T=>(i.2.1 a dP (aN a T)).trans d2;have a0:=(B 0 G).trans N;have a1:=(B 1 G).trans y;have a2:=(B 2 G).trans A;have a3:=(B 3 G).trans O;have bn:g.get h.size=D (dU 7 1 [d.t]):=(i.2.1 h.size V (λj=>by have⟨_,_,_,_,z,_⟩:=s.box j;have:=H.fN z;omega)).trans V;have E:∀e a,(fF g 2 e).get a=if a=2 then some e else g.get a:=λe a=>ez a2 e a;have cv:(h.size=2)=False:=dP;have M:iS 0 g:=⟨i.2.2.2.hp,i.2.2.2.low,aB _⟩;have cp:∀e n b,fF ((fF g 2 e).cons n) g.size b=(fF g 2 e).cons b:=λe n b=>zH _ _ _ _ V (by have:=(M.put 2 e).low;simpa using this);have ca:(3=g.size)=False:=dP;have b8:(2=g.size)=False:=dP;have bZ:(0=g.size)=False:=dP;have cb:(h.size=g.size)=False:=dP;have bW:∀e,(fF g 2 e).low<=g.size:=λe=>by have:=(M.put 2 e).low;simpa using this
 have fin:∀(n:jI),AnJ c (fF ((fF g 2 (dU 16 (o+1) [.eQ (Zy c r)])).cons n) 3 (dU 4 (w+1) [(gY c.gG q d.eG d.fc d.obj (mZ d)).1.t])) (k+1) r (o+1) (w+1):=λn=>by
  have F:∀b a,(fF ((fF g 2 (dU 16 (o+1) [.eQ (Zy c r)])).cons n) 3 b).get a=if a=3 then some b else((fF g 2 (dU 16 (o+1) [.eQ (Zy c r)])).cons n).get a:=λb a=>nT (by simp[M.hp]) dP b a;have I:∀b a,a<g.size->a≠3->a≠2->(fF ((fF g 2 (dU 16 (o+1) [.eQ (Zy c r)])).cons n) 3 b).get a=g.get a:=λb a Q R av=>by rw[F,aw R,fg,aw dP,E,aw av]
  have a7:=(((⟨i.2.2.2.hp,i.2.2.2.low,G⟩:iS 4 g).put 2 (dU 16 (o+1) [.eQ (Zy c r)])).cons n).put 3 (dU 4 (w+1) [(gY c.gG q d.eG d.fc d.obj (mZ d)).1.t]);have W:∀a,fa r=D a->4<=a:=λa j=>(i.2.2.1 a j).elim (λj=>C a j) (λj=>by simp at j;omega);refine⟨a7,(I _ 0 G G G).trans a0,(I _ 1 G G G).trans a1,?_,?_,?_,W⟩;rw[F,aw G,fg,aw dP,E,ax rfl];rw[F,ax rfl,L];rw[aE];exact i.1.mono λa j=>by
   have⟨_,_,_,_,z,_⟩:=i.1.box j;have:=W a j;exact I _ a (H.fN z) G G
 have x:mZ d=if d.fc=18 then d.value else-1:=rfl;simp[Zy]at A a2;cases X:decide (d.fc=18)with
 |true=>
  rw[ax (iD X)]at x;rw[x]at P L;simp[*,fD,i.1.iW,i.1.cells];rw[x]at fin;exact⟨_,_,_,fin _⟩
 |false=>
  rw[aw (iD X)]at x;rw[x]at P L;simp[*,fD,i.1.iW,i.1.cells];rw[x]at fin;exact⟨_,_,_,fin _⟩
 .rintro m h ⟨v,o,w,⟨l,N,y,A,O,s,C⟩,Q⟩;simp[Zy]at A;simp[anZ]at y;have bC:c.gx.st.length=c.ei.length:=by unfold eJ.gx;simp[Ry]
  rw[bR G]at s;have bi:=l.sz;have E:∀e,(fF h 1 e).get 1=D e:=λe=>(ez y e 1).trans (ax rfl);have ap:∀e,Gr (fF h 1 e) v 4 (c.gx.st.map iq.t):=λe=>s.mono λb K=>by rw[ez y,aw (iH (C b K))]
  have bp:=λe=>(ap e).fz V;simp[*,fD,l.hp]
  try rfl
 exact⟨dT,1,1,⟨by exact⟨V,V,V⟩,V,by simp[anZ],by simp[Zy],by simp;rfl,iD (Gr.nil _ _),V⟩,V⟩
end
end
noncomputable section
open Go Go.TI
def l0:T:= .eQ [(.em [(.eQ [(J 1),(J 1),(.str [120]),(J 0),(J 0),(.str [])])] false),(.em [(.eQ [(.str [116]),(J 1),dT,(.em [(.eQ [(J 12),(J 1),(.str [117]),(.str []),dT,(J 0),(J 0),(.str []),dT,dT,dT]),(.eQ [(J 1),(J 1),(.str [120]),(.str []),dT,(J 1),(J 1),(.str []),dT,dT,dT])] false)]),(.eQ [(.str [117]),(J 1),dT,(.em [(.eQ [(J 1),(J 1),(.str [120]),(.str []),dT,(J 1),(J 2),(.str []),dT,dT,dT])] false)])] false)]
def l1:T:= .em [(.eQ [(.str [120]),(J 0),(J 0),(.ej false),(J 0)])] false
def l2:T:= .em [(.eQ [(J 0),(J 0),(J 1)]),(.eQ [(J 0),(J 1),(J 1)]),(.eQ [(J 1),(J 0),(J 1)])] false
def l3:T:= .eQ [(J 28),(J 0),(J 0),(J 0),(J 0),(J (.negSucc 0))]
def l4:T:= .eQ [l1,dT,dT,dT,(.em [(.str [116]),(.str [117])] false),l2,(.em [(.eQ [(J 1),(.em [(.eQ [(J 24),(J 1),(J 0),(J 0),(J 0),(J 0)]),(.eQ [(J 1),(J 0),(J 0),(J 0),(J 1),(J 1)]),(.eQ [(J 8),(J 0),(J 0),(J 0),(J 0),(J 1)]),l3] false)]),(.eQ [(J 1),(.em [(.eQ [(J 1),(J 0),(J 0),(J 0),(J 2),(J 2)]),(.eQ [(J 8),(J 0),(J 0),(J 0),(J 0),(J 2)]),l3] false)])] false)]
def l5:T:= .em [(.eQ [(J 0),(J 1),(J (.negSucc 0)),(J 0),(J (.negSucc 0)),dT,dT]),(.eQ [(J 0),(J 20),(J 1),(J 0),(J 0),dT,dT]),(.eQ [(J 0),(J 4),(J 0),(J 1),(J 1),dT,dT]),(.eQ [(J 0),(J 2),(J (.negSucc 0)),(J 0),(J (.negSucc 0)),dT,dT]),(.eQ [(J 1),(J 1),(J (.negSucc 0)),(J 0),(J (.negSucc 0)),dT,dT]),(.eQ [(J 1),(J 4),(J 0),(J 2),(J 2),dT,dT]),(.eQ [(J 1),(J 2),(J (.negSucc 0)),(J 0),(J (.negSucc 0)),dT,dT])] false
def l6:T:= .eQ [(J 5),(J 0),(.ej false)]
def l7:T:= .eQ [l1,dT,dT,dT,(.em [(.str [116]),(.str [117])] false),l2,(J 0),dT,(J (.negSucc 0)),dT,(.em [(.eQ [(J 1),(J 0),(.ej false)]),(.eQ [(J 0),(J 0),(.ej false)])] false),(.em [(J 0)] false),dT,(.em [(J 0),(J 0)] false),l5]
def l8:T:= .eQ [(J 1),(J 2),(J 5),(J 0),(J 0),dT]
def l9:T:= .eQ [(J 0),(J (.negSucc 0))]
